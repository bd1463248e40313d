/- short names -/
import Derived.Test.YtgidipomfbikiaaDoorQcWWords
import Derived.Test.YtgidipomfbikiaaDoorQcWLast
namespace Go.Proofs.YtgidipomfbikiaaDoor.P
open Go.RowKit Go.Proofs.YtgidipomfbikiaaDoorW.PrintWords Go.Proofs.YtgidipomfbikiaaDoorW.PrintLast
abbrev Tt : Bool := true
abbrev Ff : Bool := false
theorem Am {p : Prop} (h : p) : Aside0 p := Aside0.mk h
theorem sT {α : Type} (l : List α) (i : Nat) (a : α) : l.toArray.setIfInBounds i a = (l.set i a).toArray := List.setIfInBounds_toArray l i a
theorem sZ {α : Type} {x : α} {xs : List α} {a : α} : (x :: xs).set 0 a = a :: xs := rfl
theorem sS {α : Type} {x : α} {xs : List α} {i : Nat} {a : α} : (x :: xs).set (i + 1) a = x :: xs.set i a := rfl
theorem mT {α β : Type} {f : α → β} {l : List α} : Array.map f l.toArray = (List.map f l).toArray := List.map_toArray
theorem mC {α β : Type} {f : α → β} {a : α} {l : List α} : List.map f (a :: l) = f a :: List.map f l := rfl
theorem mN {α β : Type} {f : α → β} : List.map f [] = [] := rfl
theorem lD {α : Type} {i : Nat} {l : List α} : (List.drop i l).length = l.length - i := List.length_drop
theorem lT {α : Type} {i : Nat} {l : List α} : (List.take i l).length = min i l.length := List.length_take
theorem wD (w : World) (n m : Nat) : (w.drewN n).drewN m = w.drewN (n + m) := World.drewN_drewN w n m
theorem wE (w : World) (a b c : Nat) : (w.drewN (a + b)).drewN c = w.drewN (a + (b + c)) := Eq.trans (World.drewN_drewN _ _ _) (congrArg (World.drewN _) (Nat.add_assoc _ _ _))
theorem wB (w : World) (a : Addr) {u : Value} (h : w.cell? a = some u) : a.block < w.heap.size := World.block_lt_of_cell? w a h
theorem oB {α β : Type} {b : β} {x : Option α} {f : α → Option β} (h : x.bind f = some b) : ∃ a, x = some a ∧ f a = some b := Option.bind_eq_some_iff.mp h
end Go.Proofs.YtgidipomfbikiaaDoor.P
