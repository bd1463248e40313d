/- short names -/
import Derived.Test.YtakdneopmojjdaaDoorBfWWords
import Derived.Test.YtakdneopmojjdaaDoorBfWLast
namespace Go.Proofs.YtakdneopmojjdaaDoor.P
open Go.RowKit Go.Proofs.YtakdneopmojjdaaDoorW.PrintWords Go.Proofs.YtakdneopmojjdaaDoorW.PrintLast
abbrev J : Bool := true
abbrev O : Bool := false
theorem Am {p : Prop} (h : p) : Aside0 p := Aside0.mk h
theorem sT {α : Type} (l : List α) (i : Nat) (a : α) : l.toArray.setIfInBounds i a = (l.set i a).toArray := List.setIfInBounds_toArray l i a
theorem sZ {α : Type} {x : α} {xs : List α} {a : α} : (x :: xs).set 0 a = a :: xs := rfl
theorem sS {α : Type} {x : α} {xs : List α} {i : Nat} {a : α} : (x :: xs).set (i + 1) a = x :: xs.set i a := rfl
theorem mT {α β : Type} {f : α → β} {l : List α} : Array.map f l.toArray = (List.map f l).toArray := List.map_toArray
theorem mC {α β : Type} {f : α → β} {a : α} {l : List α} : List.map f (a :: l) = f a :: List.map f l := rfl
theorem mN {α β : Type} {f : α → β} : List.map f [] = [] := rfl
theorem lD {α : Type} {i : Nat} {l : List α} : (List.drop i l).length = l.length - i := List.length_drop
theorem lT {α : Type} {i : Nat} {l : List α} : (List.take i l).length = min i l.length := List.length_take
theorem wD (w : World) (n m : Nat) : (w.drewN n).drewN m = w.drewN (n + m) := World.drewN_drewN w n m
theorem wE (w : World) (a b c : Nat) : (w.drewN (a + b)).drewN c = w.drewN (a + (b + c)) := Eq.trans (World.drewN_drewN _ _ _) (congrArg (World.drewN _) (Nat.add_assoc _ _ _))
theorem wB (w : World) (a : Addr) {u : Value} (h : w.cell? a = some u) : a.block < w.heap.size := World.block_lt_of_cell? w a h
theorem oB {α β : Type} {b : β} {x : Option α} {f : α → Option β} (h : x.bind f = some b) : ∃ a, x = some a ∧ f a = some b := Option.bind_eq_some_iff.mp h
abbrev kT2 (w : World) (g : Nat) (v0 v1 : Value) : Prop:=w.cell? ⟨g,0,none⟩ = some v0∧w.cell? ⟨g,1,none⟩ = some v1∧w.frozen? ⟨g,0,none⟩ = false∧w.frozen? ⟨g,1,none⟩ = false
theorem kc2 {w : World} {g : Nat} {t : TypeId} {v0 v1 : Value} (h : w.heap[g]? = some (.cells #[v0,v1] t (0,0))) : kT2 w g v0 v1:=⟨bC h 0,bC h 1,bF h 0,bF h 1⟩
abbrev kT6 (w : World) (g : Nat) (v0 v1 v2 v3 v4 v5 : Value) : Prop:=w.cell? ⟨g,0,none⟩ = some v0∧w.cell? ⟨g,1,none⟩ = some v1∧w.cell? ⟨g,2,none⟩ = some v2∧w.cell? ⟨g,3,none⟩ = some v3∧w.cell? ⟨g,4,none⟩ = some v4∧w.cell? ⟨g,5,none⟩ = some v5∧w.frozen? ⟨g,0,none⟩ = false∧w.frozen? ⟨g,1,none⟩ = false∧w.frozen? ⟨g,2,none⟩ = false∧w.frozen? ⟨g,3,none⟩ = false∧w.frozen? ⟨g,4,none⟩ = false∧w.frozen? ⟨g,5,none⟩ = false
theorem kc6 {w : World} {g : Nat} {t : TypeId} {v0 v1 v2 v3 v4 v5 : Value} (h : w.heap[g]? = some (.cells #[v0,v1,v2,v3,v4,v5] t (0,0))) : kT6 w g v0 v1 v2 v3 v4 v5:=⟨bC h 0,bC h 1,bC h 2,bC h 3,bC h 4,bC h 5,bF h 0,bF h 1,bF h 2,bF h 3,bF h 4,bF h 5⟩
abbrev kT9 (w : World) (g : Nat) (v0 v1 v2 v3 v4 v5 v6 v7 v8 : Value) : Prop:=w.cell? ⟨g,0,none⟩ = some v0∧w.cell? ⟨g,1,none⟩ = some v1∧w.cell? ⟨g,2,none⟩ = some v2∧w.cell? ⟨g,3,none⟩ = some v3∧w.cell? ⟨g,4,none⟩ = some v4∧w.cell? ⟨g,5,none⟩ = some v5∧w.cell? ⟨g,6,none⟩ = some v6∧w.cell? ⟨g,7,none⟩ = some v7∧w.cell? ⟨g,8,none⟩ = some v8∧w.frozen? ⟨g,0,none⟩ = false∧w.frozen? ⟨g,1,none⟩ = false∧w.frozen? ⟨g,2,none⟩ = false∧w.frozen? ⟨g,3,none⟩ = false∧w.frozen? ⟨g,4,none⟩ = false∧w.frozen? ⟨g,5,none⟩ = false∧w.frozen? ⟨g,6,none⟩ = false∧w.frozen? ⟨g,7,none⟩ = false∧w.frozen? ⟨g,8,none⟩ = false
theorem kc9 {w : World} {g : Nat} {t : TypeId} {v0 v1 v2 v3 v4 v5 v6 v7 v8 : Value} (h : w.heap[g]? = some (.cells #[v0,v1,v2,v3,v4,v5,v6,v7,v8] t (0,0))) : kT9 w g v0 v1 v2 v3 v4 v5 v6 v7 v8:=⟨bC h 0,bC h 1,bC h 2,bC h 3,bC h 4,bC h 5,bC h 6,bC h 7,bC h 8,bF h 0,bF h 1,bF h 2,bF h 3,bF h 4,bF h 5,bF h 6,bF h 7,bF h 8⟩
end Go.Proofs.YtakdneopmojjdaaDoor.P
