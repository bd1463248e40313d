/- short names -/
import Derived.Test.YtgidipomfbikiaaDoorTwWWords
import Derived.Test.YtgidipomfbikiaaDoorTwWLast
namespace Go.Proofs.YtgidipomfbikiaaDoor.P
open Go.RowKit Go.Proofs.YtgidipomfbikiaaDoorW.PrintWords Go.Proofs.YtgidipomfbikiaaDoorW.PrintLast
abbrev J : Bool := true
abbrev O : Bool := false
theorem Am {p : Prop} (h : p) : Aside0 p := Aside0.mk h
theorem sT {α : Type} (l : List α) (i : Nat) (a : α) : l.toArray.setIfInBounds i a = (l.set i a).toArray := List.setIfInBounds_toArray l i a
theorem sZ {α : Type} {x : α} {xs : List α} {a : α} : (x :: xs).set 0 a = a :: xs := rfl
theorem sS {α : Type} {x : α} {xs : List α} {i : Nat} {a : α} : (x :: xs).set (i + 1) a = x :: xs.set i a := rfl
theorem mT {α β : Type} {f : α → β} {l : List α} : Array.map f l.toArray = (List.map f l).toArray := List.map_toArray
theorem mC {α β : Type} {f : α → β} {a : α} {l : List α} : List.map f (a :: l) = f a :: List.map f l := rfl
theorem mN {α β : Type} {f : α → β} : List.map f [] = [] := rfl
theorem lD {α : Type} {i : Nat} {l : List α} : (List.drop i l).length = l.length - i := List.length_drop
theorem lT {α : Type} {i : Nat} {l : List α} : (List.take i l).length = min i l.length := List.length_take
theorem wD (w : World) (n m : Nat) : (w.drewN n).drewN m = w.drewN (n + m) := World.drewN_drewN w n m
theorem wE (w : World) (a b c : Nat) : (w.drewN (a + b)).drewN c = w.drewN (a + (b + c)) := Eq.trans (World.drewN_drewN _ _ _) (congrArg (World.drewN _) (Nat.add_assoc _ _ _))
theorem wB (w : World) (a : Addr) {u : Value} (h : w.cell? a = some u) : a.block < w.heap.size := World.block_lt_of_cell? w a h
theorem oB {α β : Type} {b : β} {x : Option α} {f : α → Option β} (h : x.bind f = some b) : ∃ a, x = some a ∧ f a = some b := Option.bind_eq_some_iff.mp h
abbrev kT3 (w : World) (g : Nat) (v0 v1 v2 : Value) : Prop:=w.cell? ⟨g,0,none⟩ = some v0∧w.cell? ⟨g,1,none⟩ = some v1∧w.cell? ⟨g,2,none⟩ = some v2∧w.frozen? ⟨g,0,none⟩ = false∧w.frozen? ⟨g,1,none⟩ = false∧w.frozen? ⟨g,2,none⟩ = false
theorem kc3 {w : World} {g : Nat} {t : TypeId} {v0 v1 v2 : Value} (h : w.heap[g]? = some (.cells #[v0,v1,v2] t (0,0))) : kT3 w g v0 v1 v2:=⟨bC h 0,bC h 1,bC h 2,bF h 0,bF h 1,bF h 2⟩
abbrev kT4 (w : World) (g : Nat) (v0 v1 v2 v3 : Value) : Prop:=w.cell? ⟨g,0,none⟩ = some v0∧w.cell? ⟨g,1,none⟩ = some v1∧w.cell? ⟨g,2,none⟩ = some v2∧w.cell? ⟨g,3,none⟩ = some v3∧w.frozen? ⟨g,0,none⟩ = false∧w.frozen? ⟨g,1,none⟩ = false∧w.frozen? ⟨g,2,none⟩ = false∧w.frozen? ⟨g,3,none⟩ = false
theorem kc4 {w : World} {g : Nat} {t : TypeId} {v0 v1 v2 v3 : Value} (h : w.heap[g]? = some (.cells #[v0,v1,v2,v3] t (0,0))) : kT4 w g v0 v1 v2 v3:=⟨bC h 0,bC h 1,bC h 2,bC h 3,bF h 0,bF h 1,bF h 2,bF h 3⟩
abbrev kT5 (w : World) (g : Nat) (v0 v1 v2 v3 v4 : Value) : Prop:=w.cell? ⟨g,0,none⟩ = some v0∧w.cell? ⟨g,1,none⟩ = some v1∧w.cell? ⟨g,2,none⟩ = some v2∧w.cell? ⟨g,3,none⟩ = some v3∧w.cell? ⟨g,4,none⟩ = some v4∧w.frozen? ⟨g,0,none⟩ = false∧w.frozen? ⟨g,1,none⟩ = false∧w.frozen? ⟨g,2,none⟩ = false∧w.frozen? ⟨g,3,none⟩ = false∧w.frozen? ⟨g,4,none⟩ = false
theorem kc5 {w : World} {g : Nat} {t : TypeId} {v0 v1 v2 v3 v4 : Value} (h : w.heap[g]? = some (.cells #[v0,v1,v2,v3,v4] t (0,0))) : kT5 w g v0 v1 v2 v3 v4:=⟨bC h 0,bC h 1,bC h 2,bC h 3,bC h 4,bF h 0,bF h 1,bF h 2,bF h 3,bF h 4⟩
abbrev kT12 (w : World) (g : Nat) (v0 v1 v2 v3 v4 v5 v6 v7 v8 v9 v10 v11 : Value) : Prop:=w.cell? ⟨g,0,none⟩ = some v0∧w.cell? ⟨g,1,none⟩ = some v1∧w.cell? ⟨g,2,none⟩ = some v2∧w.cell? ⟨g,3,none⟩ = some v3∧w.cell? ⟨g,4,none⟩ = some v4∧w.cell? ⟨g,5,none⟩ = some v5∧w.cell? ⟨g,6,none⟩ = some v6∧w.cell? ⟨g,7,none⟩ = some v7∧w.cell? ⟨g,8,none⟩ = some v8∧w.cell? ⟨g,9,none⟩ = some v9∧w.cell? ⟨g,10,none⟩ = some v10∧w.cell? ⟨g,11,none⟩ = some v11∧w.frozen? ⟨g,0,none⟩ = false∧w.frozen? ⟨g,1,none⟩ = false∧w.frozen? ⟨g,2,none⟩ = false∧w.frozen? ⟨g,3,none⟩ = false∧w.frozen? ⟨g,4,none⟩ = false∧w.frozen? ⟨g,5,none⟩ = false∧w.frozen? ⟨g,6,none⟩ = false∧w.frozen? ⟨g,7,none⟩ = false∧w.frozen? ⟨g,8,none⟩ = false∧w.frozen? ⟨g,9,none⟩ = false∧w.frozen? ⟨g,10,none⟩ = false∧w.frozen? ⟨g,11,none⟩ = false
theorem kc12 {w : World} {g : Nat} {t : TypeId} {v0 v1 v2 v3 v4 v5 v6 v7 v8 v9 v10 v11 : Value} (h : w.heap[g]? = some (.cells #[v0,v1,v2,v3,v4,v5,v6,v7,v8,v9,v10,v11] t (0,0))) : kT12 w g v0 v1 v2 v3 v4 v5 v6 v7 v8 v9 v10 v11:=⟨bC h 0,bC h 1,bC h 2,bC h 3,bC h 4,bC h 5,bC h 6,bC h 7,bC h 8,bC h 9,bC h 10,bC h 11,bF h 0,bF h 1,bF h 2,bF h 3,bF h 4,bF h 5,bF h 6,bF h 7,bF h 8,bF h 9,bF h 10,bF h 11⟩
theorem rf3 {α : Type} {d : Kd α} {e : Nat} {w : World} {base g : Nat} {ok : Nat → Prop} {v : Value} {xs : List α} {u0 u1 u2 : Value} (h : d.R e w base ok v xs) (hok : ∀ k,ok k → k ≠ g) : d.R e (((w.setCell ⟨g,0,none⟩ u0).setCell ⟨g,1,none⟩ u1).setCell ⟨g,2,none⟩ u2) base ok v xs:=Kd.R_far (p:=⟨g,2,none⟩) (Kd.R_far (p:=⟨g,1,none⟩) (Kd.R_far (p:=⟨g,0,none⟩) h hok _) hok _) hok _
theorem rf4 {α : Type} {d : Kd α} {e : Nat} {w : World} {base g : Nat} {ok : Nat → Prop} {v : Value} {xs : List α} {u0 u1 u2 u3 : Value} (h : d.R e w base ok v xs) (hok : ∀ k,ok k → k ≠ g) : d.R e ((((w.setCell ⟨g,0,none⟩ u0).setCell ⟨g,1,none⟩ u1).setCell ⟨g,2,none⟩ u2).setCell ⟨g,3,none⟩ u3) base ok v xs:=Kd.R_far (p:=⟨g,3,none⟩) (Kd.R_far (p:=⟨g,2,none⟩) (Kd.R_far (p:=⟨g,1,none⟩) (Kd.R_far (p:=⟨g,0,none⟩) h hok _) hok _) hok _) hok _
theorem rf12 {α : Type} {d : Kd α} {e : Nat} {w : World} {base g : Nat} {ok : Nat → Prop} {v : Value} {xs : List α} {u0 u1 u2 u3 u4 u5 u6 u7 u8 u9 u10 u11 : Value} (h : d.R e w base ok v xs) (hok : ∀ k,ok k → k ≠ g) : d.R e ((((((((((((w.setCell ⟨g,0,none⟩ u0).setCell ⟨g,1,none⟩ u1).setCell ⟨g,2,none⟩ u2).setCell ⟨g,3,none⟩ u3).setCell ⟨g,4,none⟩ u4).setCell ⟨g,5,none⟩ u5).setCell ⟨g,6,none⟩ u6).setCell ⟨g,7,none⟩ u7).setCell ⟨g,8,none⟩ u8).setCell ⟨g,9,none⟩ u9).setCell ⟨g,10,none⟩ u10).setCell ⟨g,11,none⟩ u11) base ok v xs:=Kd.R_far (p:=⟨g,11,none⟩) (Kd.R_far (p:=⟨g,10,none⟩) (Kd.R_far (p:=⟨g,9,none⟩) (Kd.R_far (p:=⟨g,8,none⟩) (Kd.R_far (p:=⟨g,7,none⟩) (Kd.R_far (p:=⟨g,6,none⟩) (Kd.R_far (p:=⟨g,5,none⟩) (Kd.R_far (p:=⟨g,4,none⟩) (Kd.R_far (p:=⟨g,3,none⟩) (Kd.R_far (p:=⟨g,2,none⟩) (Kd.R_far (p:=⟨g,1,none⟩) (Kd.R_far (p:=⟨g,0,none⟩) h hok _) hok _) hok _) hok _) hok _) hok _) hok _) hok _) hok _) hok _) hok _) hok _
end Go.Proofs.YtgidipomfbikiaaDoor.P
