/- cut to what one law reaches -/
import Derived.Test.YtgkedamhicemiaaDoorJyP7
namespace Go.Proofs.YtgkedamhicemiaaDoor.P
open Go.RowKit Go.Proofs.YtgkedamhicemiaaDoorW.PrintWords Go.Proofs.YtgkedamhicemiaaDoorW.PrintLast Go.Proofs.YtgkedamhicemiaaDoorW.PrintMore
attribute [local go_sem] max2_int min2_int max_two min_two max_three min_three max_four min_four
set_option linter.unusedVariables false
set_option linter.unusedSimpArgs false
attribute [local go_sem] isSome_setCell
/- Table.at, Len, goes over the table's predicate (jobstab.py) -/
section
variable {W : World} {B t : Nat} {M : Nat → Prop} {h : Cf} {A9 : Option Addr} {c9 : Nat} {A10 : Option Addr} {c10 : Nat} {A11 : Option Addr} {c11 : Nat} {Aj : Option Addr} {cj : Nat} {P : List S85} {Q : List S87} {A : List S89} {L : List S58}
theorem at_none (id : Int) (h0 : 0 ≤ id) (h1 : id ≤ 4294967295) (hid : id = 0 ∨ (L.length : Int) < id) (c : Tab W B M t h A9 c9 A10 c10 A11 c11 Aj cj P Q A L) :
    Calls Tryd.prog 36 #[.pointer (some ⟨t, 0, none⟩), .int .u32 id] W fun e w' => e = .returned (.pointer none) ∧ w' = W := by
  have hu83 := Tryd.underlying83
  have z : W.cell? ⟨t, 12, none⟩ = some (.slice Aj L.length cj) := (Tab.cell c 12).trans rfl
  have hw : wrap64 id = id := by unfold wrap64; omega
  have hw2 : IntKind.i64.wrap id = id := by rw [i64_w]; exact hw
  by_cases e : id = 0
  · subst e
    go_enter Tryd.func36, Tryd.ntmps36
    go_wp2
    go_ret
    exact ⟨rfl, rfl⟩
  · have e0 : (id == 0) = false := beq_eq_false_iff_ne.2 e
    have e1 : (L.length : Int) < id := by omega
    go_enter Tryd.func36, Tryd.ntmps36
    go_wp2
    go_ret
    exact ⟨rfl, rfl⟩
theorem at_some {g : Nat} (n : Nat) (id : Int) (hn : (n : Int) = id - 1) (h0 : 1 ≤ id) (h1 : id ≤ 4294967295) (hid : id ≤ (L.length : Int)) (c : Tab W B M t h A9 c9 A10 c10 A11 c11 (some ⟨g, 0, none⟩) cj P Q A L) :
    Calls Tryd.prog 36 #[.pointer (some ⟨t, 0, none⟩), .int .u32 id] W fun e w' => e = .returned (.pointer (some ⟨g, n * 26, none⟩)) ∧ w' = W := by
  have hu83 := Tryd.underlying83
  have z : W.cell? ⟨t, 12, none⟩ = some (.slice (some ⟨g, 0, none⟩) L.length cj) := (Tab.cell c 12).trans rfl
  have hw : wrap64 id = id := by unfold wrap64; omega
  have hw2 : IntKind.i64.wrap id = id := by rw [i64_w]; exact hw
  have hs : IntKind.u32.wrap (id - 1) = id - 1 := by rw [IntKind.wrap_u32]; omega
  have hs2 : (id - 1) % 4294967296 = id - 1 := by omega
  have e0 : (id == 0) = false := beq_eq_false_iff_ne.2 (by omega)
  have e1 : ¬ (L.length : Int) < id := by omega
  have e2 : (0 : Int) ≤ id - 1 := by omega
  have e3 : id - 1 < (L.length : Int) := by omega
  have e4 : id.toNat - 1 = n := by omega
  have e5 : (id - 1).toNat = n := by omega
  go_enter Tryd.func36, Tryd.ntmps36
  go_wp2
  go_ret
  exact ⟨by first | rfl | simp [Addr.add], rfl⟩
theorem len_at (c : Tab W B M t h A9 c9 A10 c10 A11 c11 Aj cj P Q A L) : Calls Tryd.prog 14 #[.pointer (some ⟨t, 0, none⟩)] W fun e w' => e = .returned (.int .i64 L.length) ∧ w' = W := by
  have hu83 := Tryd.underlying83
  have z : W.cell? ⟨t, 12, none⟩ = some (.slice Aj L.length cj) := (Tab.cell c 12).trans rfl
  go_enter Tryd.func14, Tryd.ntmps14
  go_wp2
  go_ret
  exact ⟨rfl, rfl⟩
end
/- the small functions over a pointer to a job that lies anywhere in a row: cells o .. o+25 of block g -/
theorem late_at (g o : Nat) (now s t : Int) (w : World) (h1 : w.cell? ⟨g, o + 20, none⟩ = some (.int .i64 s)) (h2 : w.cell? ⟨g, o + 21, none⟩ = some (.int .i64 t)) (r : Bool) (hr : (decide (now < mx s t) || decide (1099511627776 < now)) = r) :
    Calls Tryd.prog 42 #[.pointer (some ⟨g, o, none⟩), .int .i64 now] w fun e w' => e = .returned (.bool r) ∧ Below w.heap.size w w' := by
  have hu58 := Tryd.underlying58
  have hm : (if s < t then t else s) = mx s t := rfl
  generalize mx s t = m at hm hr
  by_cases c1 : now < m
  · have e1 : decide (now < m) = true := decide_eq_true c1
    obtain rfl : r = true := by rw [← hr, e1]; rfl
    go_enter Tryd.func42, Tryd.ntmps42
    go_wp2
    go_region
    all_goals go_wp2
    all_goals (go_ret; exact ⟨rfl, by repeat (first | exact Below.refl _ _ | apply pw_below_drewN | apply below_drew1)⟩)
  · have e1 : decide (now < m) = false := decide_eq_false c1
    obtain rfl : r = decide (1099511627776 < now) := by rw [← hr, e1]; rfl
    go_enter Tryd.func42, Tryd.ntmps42
    go_wp2
    go_region
    all_goals go_wp2
    all_goals (go_ret; exact ⟨rfl, by repeat (first | exact Below.refl _ _ | apply pw_below_drewN | apply below_drew1)⟩)
theorem release_at (g o : Nat) (now s : Int) (w : World) (h1 : w.cell? ⟨g, o + 20, none⟩ = some (.int .i64 s)) (f1 : w.frozen? ⟨g, o + 20, none⟩ = false) :
    Calls Tryd.prog 47 #[.pointer (some ⟨g, o, none⟩), .int .i64 now] w fun e w' => e = .returned (.tuple #[]) ∧ w' = w.setCell ⟨g, o + 20, none⟩ (.int .i64 now) := by
  have hu58 := Tryd.underlying58
  go_enter Tryd.func47, Tryd.ntmps47
  go_wp2
  all_goals (go_end0; exact ⟨rfl, rfl⟩)
theorem resume_at (g o : Nat) (now s : Int) (w : World) (h1 : w.cell? ⟨g, o + 21, none⟩ = some (.int .i64 s)) (f1 : w.frozen? ⟨g, o + 21, none⟩ = false) :
    Calls Tryd.prog 41 #[.pointer (some ⟨g, o, none⟩), .int .i64 now] w fun e w' => e = .returned (.tuple #[]) ∧ w' = w.setCell ⟨g, o + 21, none⟩ (.int .i64 now) := by
  have hu58 := Tryd.underlying58
  go_enter Tryd.func41, Tryd.ntmps41
  go_wp2
  all_goals (go_end0; exact ⟨rfl, rfl⟩)
theorem ran_at (g o : Nat) (now h s n : Int) (w : World) (h1 : w.cell? ⟨g, o + 19, none⟩ = some (.int .i64 h)) (h2 : w.cell? ⟨g, o + 21, none⟩ = some (.int .i64 s)) (h3 : w.cell? ⟨g, o + 23, none⟩ = some (.int .i64 n)) (f3 : w.frozen? ⟨g, o + 23, none⟩ = false) :
    Calls Tryd.prog 38 #[.pointer (some ⟨g, o, none⟩), .int .i64 now] w fun e w' => e = .returned (.tuple #[]) ∧ w' = if h = 3 then (w.setCell ⟨g, o + 23, none⟩ (.int .i64 (wrap64 (n + wrap64 (now - s))))).drew else w := by
  have hu58 := Tryd.underlying58
  by_cases c : h = 3
  · subst c
    go_enter Tryd.func38, Tryd.ntmps38
    go_wp2
    go_region
    all_goals (go_end0; exact ⟨rfl, rfl⟩)
  · have e1 : (h == 3) = false := beq_eq_false_iff_ne.2 c
    rw [if_neg c]
    go_enter Tryd.func38, Tryd.ntmps38
    go_wp2
    all_goals (go_end0; exact ⟨rfl, rfl⟩)
theorem requeue_at (g o : Nat) (now s n b0 b1 : Int) (w : World) (h1 : w.cell? ⟨g, o + 20, none⟩ = some (.int .i64 s)) (f1 : w.frozen? ⟨g, o + 20, none⟩ = false) (h2 : w.cell? ⟨g, o + 23, none⟩ = some (.int .i64 n)) (f2 : w.frozen? ⟨g, o + 23, none⟩ = false) (h3 : w.cell? ⟨g, o + 24, none⟩ = some (.int .i64 b0)) (f3 : w.frozen? ⟨g, o + 24, none⟩ = false) (h4 : w.cell? ⟨g, o + 25, none⟩ = some (.int .i64 b1)) (f4 : w.frozen? ⟨g, o + 25, none⟩ = false) :
    Calls Tryd.prog 44 #[.pointer (some ⟨g, o, none⟩), .int .i64 now] w fun e w' => e = .returned (.tuple #[]) ∧ w' = (((w.setCell ⟨g, o + 20, none⟩ (.int .i64 now)).setCell ⟨g, o + 23, none⟩ (.int .i64 0)).setCell ⟨g, o + 24, none⟩ (.int .i64 0)).setCell ⟨g, o + 25, none⟩ (.int .i64 0) := by
  have hu58 := Tryd.underlying58
  have hu55 := Tryd.underlying55
  go_enter Tryd.func44, Tryd.ntmps44
  go_wp2
  all_goals go_end0
  all_goals exact ⟨rfl, rfl⟩
set_option maxHeartbeats 8000000 in
theorem start_at (g o bx : Nat) (now s n u b0 b1 c0 c1 : Int) (w : World) (hne : bx ≠ g) (h0 : w.cell? ⟨bx, 0, none⟩ = some (.int .i64 c0)) (h0' : w.cell? ⟨bx, 1, none⟩ = some (.int .i64 c1)) (h1 : w.cell? ⟨g, o + 21, none⟩ = some (.int .i64 s)) (f1 : w.frozen? ⟨g, o + 21, none⟩ = false) (h2 : w.cell? ⟨g, o + 23, none⟩ = some (.int .i64 n)) (f2 : w.frozen? ⟨g, o + 23, none⟩ = false) (h3 : w.cell? ⟨g, o + 24, none⟩ = some (.int .i64 b0)) (f3 : w.frozen? ⟨g, o + 24, none⟩ = false) (h4 : w.cell? ⟨g, o + 25, none⟩ = some (.int .i64 b1)) (f4 : w.frozen? ⟨g, o + 25, none⟩ = false) (h5 : w.cell? ⟨g, o + 22, none⟩ = some (.int .i64 u)) (f5 : w.frozen? ⟨g, o + 22, none⟩ = false) :
    Calls Tryd.prog 40 #[.pointer (some ⟨g, o, none⟩), .int .i64 now, .pointer (some ⟨bx, 0, none⟩)] w fun e w' => e = .returned (.tuple #[]) ∧ w' = (((((w.setCell ⟨g, o + 21, none⟩ (.int .i64 now)).setCell ⟨g, o + 23, none⟩ (.int .i64 0)).setCell ⟨g, o + 24, none⟩ (.int .i64 c0)).setCell ⟨g, o + 25, none⟩ (.int .i64 c1)).drew).setCell ⟨g, o + 22, none⟩ (.int .i64 (wrap64 (u + 1))) := by
  have hu58 := Tryd.underlying58
  have hu55 := Tryd.underlying55
  go_enter Tryd.func40, Tryd.ntmps40
  go_wp2
  go_region
  all_goals go_wp2
  all_goals (go_end0; exact ⟨rfl, rfl⟩)
/-- blocks that are not M stay as they are -/
structure KeepM (M : Nat → Prop) (W W' : World) : Prop where
  os : W'.os = W.os
  tape : W'.tape = W.tape
  output : W'.output = W.output
  size : W.heap.size ≤ W'.heap.size
  block : ∀ k, k < W.heap.size → ¬ M k → W'.heap[k]? = W.heap[k]?
theorem KeepM.of {M : Nat → Prop} {W W' : World} (h : Below W.heap.size W W') : KeepM M W W' := ⟨h.os, h.tape, h.output, h.size, fun k hk _ => h.block k hk⟩
theorem KeepM.trans {M : Nat → Prop} {W W1 W2 : World} (h : KeepM M W W1) (h2 : KeepM M W1 W2) : KeepM M W W2 :=
  ⟨h2.os.trans h.os, h2.tape.trans h.tape, h2.output.trans h.output, Nat.le_trans h.size h2.size, fun k hk hm => (h2.block k (Nat.lt_of_lt_of_le hk h.size) hm).trans (h.block k hk hm)⟩
theorem KeepM.set {M : Nat → Prop} {W W' : World} (h : KeepM M W W') {g : Nat} (hg : M g) (j : Nat) (v : Value) : KeepM M W (W'.setCell ⟨g, j, none⟩ v) := by
  refine ⟨?_, ?_, ?_, ?_, fun k hk hm => ?_⟩
  · exact (show (W'.setCell ⟨g, j, none⟩ v).os = W'.os from rfl).trans h.os
  · exact (show (W'.setCell ⟨g, j, none⟩ v).tape = W'.tape from rfl).trans h.tape
  · exact (show (W'.setCell ⟨g, j, none⟩ v).output = W'.output from rfl).trans h.output
  · rw [size_setCell_]; exact h.size
  · exact (Below.heap_setCell W' ⟨g, j, none⟩ v k (fun e => hm (e ▸ hg))).trans (h.block k hk hm)
theorem run_eqin_func (d : Nat) (f : Fn) (a c : Array Value) (w : World) : (Op.equalIn (d + 1) 97 (.func f a c) .nilFunc).run Tryd.prog w = .ok false w := by simp [Op.equalIn, run_underlying Tryd.underlying97]
theorem run_eqin_nilf (d : Nat) (w : World) : (Op.equalIn (d + 1) 97 .nilFunc .nilFunc).run Tryd.prog w = .ok true w := by simp [Op.equalIn, run_underlying Tryd.underlying97]
theorem run_neq_func (f : Fn) (a c : Array Value) (w : World) : (binOp .neq 97 (.func f a c) .nilFunc).run Tryd.prog w = .ok (.bool true) w := by
  have h2 : (Op.equal 97 (.func f a c) .nilFunc).run Tryd.prog w = .ok false w := run_eqin_func 9999 f a c w
  simp only [binOp]
  simp [h2]
theorem run_neq_nilf (w : World) : (binOp .neq 97 .nilFunc .nilFunc).run Tryd.prog w = .ok (.bool false) w := by
  have h2 : (Op.equal 97 .nilFunc .nilFunc).run Tryd.prog w = .ok true w := run_eqin_nilf 9999 w
  simp only [binOp]
  simp [h2]
theorem rd_set (L : List S58) (n : Nat) (j : S58) (h : n < L.length) : rd_T58 (L.set n j) (n : Int) = j := by
  simp [rd_T58, List.getD_eq_getElem?_getD, h]
theorem set_rd (L : List S58) (n : Nat) (h : n < L.length) : L.set n (rd_T58 L (n : Int)) = L := by
  apply List.ext_getElem (by simp)
  intro i h1 h2
  by_cases e : n = i
  · subst e; simp [rd_T58, List.getD_eq_getElem?_getD, h]
  · simp [List.getElem_set, e]
section
variable {W W' : World} {B t : Nat} {M : Nat → Prop} {h : Cf} {A9 : Option Addr} {c9 : Nat} {A10 : Option Addr} {c10 : Nat} {A11 : Option Addr} {c11 : Nat} {Aj : Option Addr} {cj : Nat} {P : List S85} {Q : List S87} {A : List S89} {L : List S58}
theorem Tab.self (c : Tab W B M t h A9 c9 A10 c10 A11 c11 Aj cj P Q A L) (n : Nat) (h1 : n < L.length) : Tab W B M t h A9 c9 A10 c10 A11 c11 Aj cj P Q A (L.set n (rd_T58 L (n : Int))) := by rw [set_rd _ _ h1]; exact c
theorem Tab.set19 {g n : Nat} {j : S58} (c : Tab W B M t h A9 c9 A10 c10 A11 c11 (some ⟨g, 0, none⟩) cj P Q A (L.set n j)) (h1 : n < L.length) (x : Int) :
    Tab (W.setCell ⟨g, n * 26 + 19, none⟩ (.int .i64 x)) B M t h A9 c9 A10 c10 A11 c11 (some ⟨g, 0, none⟩) cj P Q A (L.set n { j with f5 := x }) := by
  have z := Tab.put19 c n (by simpa using h1) x
  rw [rd_set _ _ _ h1, List.set_set] at z
  exact z
theorem Tab.set20 {g n : Nat} {j : S58} (c : Tab W B M t h A9 c9 A10 c10 A11 c11 (some ⟨g, 0, none⟩) cj P Q A (L.set n j)) (h1 : n < L.length) (x : Int) :
    Tab (W.setCell ⟨g, n * 26 + 20, none⟩ (.int .i64 x)) B M t h A9 c9 A10 c10 A11 c11 (some ⟨g, 0, none⟩) cj P Q A (L.set n { j with f6 := x }) := by
  have z := Tab.put20 c n (by simpa using h1) x
  rw [rd_set _ _ _ h1, List.set_set] at z
  exact z
theorem Tab.set21 {g n : Nat} {j : S58} (c : Tab W B M t h A9 c9 A10 c10 A11 c11 (some ⟨g, 0, none⟩) cj P Q A (L.set n j)) (h1 : n < L.length) (x : Int) :
    Tab (W.setCell ⟨g, n * 26 + 21, none⟩ (.int .i64 x)) B M t h A9 c9 A10 c10 A11 c11 (some ⟨g, 0, none⟩) cj P Q A (L.set n { j with f7 := x }) := by
  have z := Tab.put21 c n (by simpa using h1) x
  rw [rd_set _ _ _ h1, List.set_set] at z
  exact z
theorem Tab.set22 {g n : Nat} {j : S58} (c : Tab W B M t h A9 c9 A10 c10 A11 c11 (some ⟨g, 0, none⟩) cj P Q A (L.set n j)) (h1 : n < L.length) (x : Int) :
    Tab (W.setCell ⟨g, n * 26 + 22, none⟩ (.int .i64 x)) B M t h A9 c9 A10 c10 A11 c11 (some ⟨g, 0, none⟩) cj P Q A (L.set n { j with f8 := x }) := by
  have z := Tab.put22 c n (by simpa using h1) x
  rw [rd_set _ _ _ h1, List.set_set] at z
  exact z
theorem Tab.set23 {g n : Nat} {j : S58} (c : Tab W B M t h A9 c9 A10 c10 A11 c11 (some ⟨g, 0, none⟩) cj P Q A (L.set n j)) (h1 : n < L.length) (x : Int) :
    Tab (W.setCell ⟨g, n * 26 + 23, none⟩ (.int .i64 x)) B M t h A9 c9 A10 c10 A11 c11 (some ⟨g, 0, none⟩) cj P Q A (L.set n { j with f9 := x }) := by
  have z := Tab.put23 c n (by simpa using h1) x
  rw [rd_set _ _ _ h1, List.set_set] at z
  exact z
theorem Tab.set24 {g n : Nat} {j : S58} (c : Tab W B M t h A9 c9 A10 c10 A11 c11 (some ⟨g, 0, none⟩) cj P Q A (L.set n j)) (h1 : n < L.length) (x : Int) :
    Tab (W.setCell ⟨g, n * 26 + 24, none⟩ (.int .i64 x)) B M t h A9 c9 A10 c10 A11 c11 (some ⟨g, 0, none⟩) cj P Q A (L.set n { j with f10 := ⟨x, j.f10.f1⟩ }) := by
  have z := Tab.put24 c n (by simpa using h1) x
  rw [rd_set _ _ _ h1, List.set_set] at z
  exact z
theorem Tab.set25 {g n : Nat} {j : S58} (c : Tab W B M t h A9 c9 A10 c10 A11 c11 (some ⟨g, 0, none⟩) cj P Q A (L.set n j)) (h1 : n < L.length) (x : Int) :
    Tab (W.setCell ⟨g, n * 26 + 25, none⟩ (.int .i64 x)) B M t h A9 c9 A10 c10 A11 c11 (some ⟨g, 0, none⟩) cj P Q A (L.set n { j with f10 := ⟨j.f10.f0, x⟩ }) := by
  have z := Tab.put25 c n (by simpa using h1) x
  rw [rd_set _ _ _ h1, List.set_set] at z
  exact z
theorem Tab.jobs {g n : Nat} {j : S58} (c : Tab W B M t h A9 c9 A10 c10 A11 c11 (some ⟨g, 0, none⟩) cj P Q A (L.set n j)) (h1 : n < L.length) :
    (W.cell? ⟨g, n * 26 + 0, none⟩ = some (.int .u32 j.f0) ∧ W.cell? ⟨g, n * 26 + 1, none⟩ = some (.int .u32 j.f1) ∧ W.cell? ⟨g, n * 26 + 2, none⟩ = some (.int .i64 j.f2) ∧ W.cell? ⟨g, n * 26 + 3, none⟩ = some (.string j.f3.f0) ∧ W.cell? ⟨g, n * 26 + 6, none⟩ = some (.string j.f3.f3) ∧ W.cell? ⟨g, n * 26 + 7, none⟩ = some (.int .i64 j.f3.f4) ∧ W.cell? ⟨g, n * 26 + 18, none⟩ = some (.int .i64 j.f4) ∧ W.cell? ⟨g, n * 26 + 19, none⟩ = some (.int .i64 j.f5) ∧ W.cell? ⟨g, n * 26 + 20, none⟩ = some (.int .i64 j.f6) ∧ W.cell? ⟨g, n * 26 + 21, none⟩ = some (.int .i64 j.f7) ∧ W.cell? ⟨g, n * 26 + 22, none⟩ = some (.int .i64 j.f8) ∧ W.cell? ⟨g, n * 26 + 23, none⟩ = some (.int .i64 j.f9) ∧ W.cell? ⟨g, n * 26 + 24, none⟩ = some (.int .i64 j.f10.f0) ∧ W.cell? ⟨g, n * 26 + 25, none⟩ = some (.int .i64 j.f10.f1)) ∧ ∀ j, W.frozen? ⟨g, n * 26 + j, none⟩ = false := by
  have z := Tab.job c n (by simpa using h1)
  rw [rd_set _ _ _ h1] at z
  exact z
theorem Tab.ne {g b T : Nat} {cs : Array Value} (c : Tab W B M t h A9 c9 A10 c10 A11 c11 (some ⟨g, 0, none⟩) cj P Q A L) (hb : W.heap[b]? = some (.cells cs T (0, 0))) (hT : T ≠ 58) : b ≠ g := by
  obtain ⟨cs_, hcs_⟩ := Kd.R_typed c.rj g (by simp [Value.ownBlock])
  intro e_
  rw [e_] at hb
  have := hb.symm.trans hcs_
  simp at this
  exact hT this.2
end
theorem has1 (a x : Int) : slices_Contains_int_int.f 9 [a] x = some (decide (x ∈ [a])) := by
  by_cases e : x = a
  · subst e; simp [slices_Contains_int_int.f, slices_Index_int_int.f, slices_Index_int_int.l0, rd]
  · simp [slices_Contains_int_int.f, slices_Index_int_int.f, slices_Index_int_int.l0, rd, wrap64, e, Ne.symm e]
theorem has2 (a b x : Int) : slices_Contains_int_int.f 9 [a, b] x = some (decide (x ∈ [a, b])) := by
  by_cases e : x = a
  · subst e; simp [slices_Contains_int_int.f, slices_Index_int_int.f, slices_Index_int_int.l0, rd]
  · by_cases e2 : x = b
    · subst e2; simp [slices_Contains_int_int.f, slices_Index_int_int.f, slices_Index_int_int.l0, rd, wrap64, e, Ne.symm e]
    · simp [slices_Contains_int_int.f, slices_Index_int_int.f, slices_Index_int_int.l0, rd, wrap64, e, Ne.symm e, e2, Ne.symm e2]
theorem has4 (a b c d x : Int) : slices_Contains_int_int.f 9 [a, b, c, d] x = some (decide (x ∈ [a, b, c, d])) := by
  by_cases e : x = a
  · subst e; simp [slices_Contains_int_int.f, slices_Index_int_int.f, slices_Index_int_int.l0, rd]
  · by_cases e2 : x = b
    · subst e2; simp [slices_Contains_int_int.f, slices_Index_int_int.f, slices_Index_int_int.l0, rd, wrap64, e, Ne.symm e]
    · by_cases e3 : x = c
      · subst e3; simp [slices_Contains_int_int.f, slices_Index_int_int.f, slices_Index_int_int.l0, rd, wrap64, e, Ne.symm e, e2, Ne.symm e2]
      · by_cases e4 : x = d
        · subst e4; simp [slices_Contains_int_int.f, slices_Index_int_int.f, slices_Index_int_int.l0, rd, wrap64, e, Ne.symm e, e2, Ne.symm e2, e3, Ne.symm e3]
        · simp [slices_Contains_int_int.f, slices_Index_int_int.f, slices_Index_int_int.l0, rd, wrap64, e, Ne.symm e, e2, Ne.symm e2, e3, Ne.symm e3, e4, Ne.symm e4]
/-- is a tick too late, or beyond? -/
def lateB (j : S58) (now : Int) : Bool := decide (now < mx j.f6 j.f7) || decide (1099511627776 < now)
/-- what a move comes to: the error, and the jobs -/
def goesP (φ : S58 → S58) (timed : Bool) (id now to_ : Int) (from_ : List Int) (L : List S58) : Int × List S58 :=
  if id = 0 ∨ (L.length : Int) < id then (4, L)
  else if timed = true ∧ lateB (rd_T58 L (id - 1)) now = true then (2, L)
  else if decide ((rd_T58 L (id - 1)).f5 ∈ from_) = true then (0, L.set (id - 1).toNat { φ (rd_T58 L (id - 1)) with f5 := to_ }) else (130, L)
def ranP (now : Int) (j : S58) : S58 := if j.f5 = 3 then { j with f9 := wrap64 (j.f9 + wrap64 (now - j.f7)) } else j
theorem KeepM.drew {M : Nat → Prop} {W W' : World} (h : KeepM M W W') : KeepM M W W'.drew := h.trans (KeepM.of (below_drew (Below.refl _ _)))
theorem KeepM.refl {M : Nat → Prop} (W : World) : KeepM M W W := KeepM.of (Below.refl _ _)
end Go.Proofs.YtgkedamhicemiaaDoor.P
