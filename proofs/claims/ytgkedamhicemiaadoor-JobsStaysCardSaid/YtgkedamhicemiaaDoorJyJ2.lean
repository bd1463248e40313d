/- cut to what one law reaches -/
import Derived.Test.YtgkedamhicemiaaDoorJyJ1
import Derived.Test.YtgkedamhicemiaaDoorJyJghold
import Derived.Test.YtgkedamhicemiaaDoorJyJgran
import Derived.Test.YtgkedamhicemiaaDoorJyJgrelease
import Derived.Test.YtgkedamhicemiaaDoorJyJgrequeue
import Derived.Test.YtgkedamhicemiaaDoorJyJgresume
import Derived.Test.YtgkedamhicemiaaDoorJyJgstart
import Derived.Test.YtgkedamhicemiaaDoorJyP5
namespace Go.Proofs.YtgkedamhicemiaaDoor.P
open Go.RowKit Go.Proofs.YtgkedamhicemiaaDoorW.PrintWords Go.Proofs.YtgkedamhicemiaaDoorW.PrintLast Go.Proofs.YtgkedamhicemiaaDoorW.PrintMore
attribute [local go_sem] max2_int min2_int max_two min_two max_three min_three max_four min_four
set_option linter.unusedVariables false
set_option linter.unusedSimpArgs false
attribute [local go_sem] isSome_setCell
/-- a configuration, where it lies -/
structure Cg where
  h : Cf
  A9 : Option Addr
  c9 : Nat
  A10 : Option Addr
  c10 : Nat
  A11 : Option Addr
  c11 : Nat
  P : List S85
  Q : List S87
  A : List S89
def Tb (W : World) (B : Nat) (M : Nat → Prop) (t : Nat) (x : Cg) (L : List S58) : Prop := ∃ Aj cj, Tab W B M t x.h x.A9 x.c9 x.A10 x.c10 x.A11 x.c11 Aj cj x.P x.Q x.A L
def holdP (id : Int) (L : List S58) := goesP (fun x => x) false id 0 2 [1] L
def releaseP (id now : Int) (L : List S58) := goesP (fun x => { x with f6 := now }) true id now 1 [2] L
def startG (id now b0 b1 : Int) (L : List S58) := goesP (fun x => { x with f7 := now, f8 := wrap64 (x.f8 + 1), f9 := 0, f10 := ⟨b0, b1⟩ }) true id now 3 [1] L
def upS (a : Int) : Int := ((num_Up.f a).getD (0, 0)).1
def upO (a : Int) : Int := ((num_Up.f a).getD (0, 0)).2
def badB (b0 b1 s o : Int) : Bool := !(b1 == o) || decide (b0 < 0) || decide (1023 < b0) || !(Int.tmod b0 s == 0)
def startP (id now b0 b1 : Int) (L : List S58) : Int × List S58 :=
  if id = 0 ∨ (L.length : Int) < id then startG id now b0 b1 L
  else if badB b0 b1 (upS (rd_T58 L (id - 1)).f3.f4) (upO (rd_T58 L (id - 1)).f3.f4) = true then (2, L) else startG id now b0 b1 L
def suspendP (id now : Int) (L : List S58) := goesP (fun x => ranP now x) true id now 4 [3] L
def resumeP (id now : Int) (L : List S58) := goesP (fun x => { x with f7 := now }) true id now 3 [4] L
def endP (id now how : Int) (L : List S58) : Int × List S58 :=
  if how = 7 then goesP (fun x => ranP now x) true id now how [3, 4, 1, 2] L
  else if ¬ (id = 0 ∨ (L.length : Int) < id) ∧ how ≠ 5 ∧ how ≠ 6 ∧ how ≠ 8 then (2, L)
  else goesP (fun x => ranP now x) true id now how [3, 4] L
def requeueG (id now : Int) (L : List S58) := goesP (fun x => { x with f6 := now, f9 := 0, f10 := ⟨0, 0⟩ }) true id now 1 [3, 4] L
def requeueP (rq id now : Int) (L : List S58) : Int × List S58 :=
  if id = 0 ∨ (L.length : Int) < id then requeueG id now L
  else if lateB (rd_T58 L (id - 1)) now = false ∧ decide ((rd_T58 L (id - 1)).f5 ∈ [3, 4]) = true ∧ rq < (rd_T58 L (id - 1)).f8 then (5, L) else requeueG id now L
def neverP (id : Int) (L : List S58) := goesP (fun x => x) false id 0 9 [1, 2] L
section
variable {W : World} {B t : Nat} {M : Nat → Prop} {x : Cg} {L : List S58}
theorem t_hold (id : Int) (h0 : 0 ≤ id) (h1 : id ≤ 4294967295) (c : Tb W B M t x L) :
    Calls Tryd.prog 27 #[.pointer (some ⟨t, 0, none⟩), .int .u32 id] W fun e w' => e = .returned (.int .i64 (holdP id L).1) ∧ Tb w' B M t x (holdP id L).2 ∧ KeepM M W w' := by
  obtain ⟨Aj, cj, c⟩ := c
  have C := Aside0.mk c
  clear c
  unfold holdP
  go_enter Tryd.func27, Tryd.ntmps27
  go_wp2_with (first | ((with_reducible refine gate_dst (N := 7) rfl ?_); refine Kd.R_lit (Kd.int .i64) _ 3 ?hg (N := 7) ?hd (xs := [1]) (inner := [.int .i64 1]) (ok := fun _ => True) (okp := fun _ => True) ?hr ?hp (fun _ hk => hk) trivial (Below.refl _ _) (Nat.le_refl _) (by simp) ?_; (case hd => rfl); (case hg => rfl); (case hr => first | (go_simp; done) | (go_simp; rfl)); (case hp => exact Kd.reps_scalar [1]); intro v w3 ho hb hg_ hnew_; obtain ⟨Af, cf, rfl, hcf, hC⟩ := Kd.R_reads ho; have HO := Aside0.mk ho; clear hg_ hnew_ ho; have HC := Aside0.mk hC; have HF := Aside0.mk hcf; have HB := Aside0.mk hb; clear hC hcf hb) | (go_at_call 37; refine (goes_hold id 0 2 false Af cf [1] h0 h1 (Tab.below C.out HB.out) HC.out HF.out (has1 1)).mono ?_; rintro e w2 ⟨rfl, c2, k2⟩; have C2 := Aside0.mk c2; have K2 := Aside0.mk k2; clear c2 k2))
  go_ret
  exact ⟨rfl, ⟨_, _, C2.out⟩, (KeepM.of HB.out).trans K2.out⟩
theorem t_release (id now : Int) (h0 : 0 ≤ id) (h1 : id ≤ 4294967295) (c : Tb W B M t x L) :
    Calls Tryd.prog 28 #[.pointer (some ⟨t, 0, none⟩), .int .u32 id, .int .i64 now] W fun e w' => e = .returned (.int .i64 (releaseP id now L).1) ∧ Tb w' B M t x (releaseP id now L).2 ∧ KeepM M W w' := by
  obtain ⟨Aj, cj, c⟩ := c
  have C := Aside0.mk c
  clear c
  unfold releaseP
  go_enter Tryd.func28, Tryd.ntmps28
  go_wp2_with (first | ((with_reducible refine gate_dst (N := 10) rfl ?_); refine Kd.R_lit (Kd.int .i64) _ 3 ?hg (N := 10) ?hd (xs := [2]) (inner := [.int .i64 2]) (ok := fun _ => True) (okp := fun _ => True) ?hr ?hp (fun _ hk => hk) trivial (Below.refl _ _) (Nat.le_refl _) (by simp) ?_; (case hd => rfl); (case hg => rfl); (case hr => first | (go_simp; done) | (go_simp; rfl)); (case hp => exact Kd.reps_scalar [2]); intro v w3 ho hb hg_ hnew_; obtain ⟨Af, cf, rfl, hcf, hC⟩ := Kd.R_reads ho; have HO := Aside0.mk ho; clear hg_ hnew_ ho; have HC := Aside0.mk hC; have HF := Aside0.mk hcf; have HB := Aside0.mk hb; clear hC hcf hb) | (go_at_call 37; refine (goes_release id now 1 true Af cf [2] h0 h1 (Tab.below C.out HB.out) HC.out HF.out (has1 2)).mono ?_; rintro e w2 ⟨rfl, c2, k2⟩; have C2 := Aside0.mk c2; have K2 := Aside0.mk k2; clear c2 k2))
  go_ret
  exact ⟨rfl, ⟨_, _, C2.out⟩, (KeepM.of HB.out).trans K2.out⟩
theorem t_suspend (id now : Int) (h0 : 0 ≤ id) (h1 : id ≤ 4294967295) (c : Tb W B M t x L) :
    Calls Tryd.prog 17 #[.pointer (some ⟨t, 0, none⟩), .int .u32 id, .int .i64 now] W fun e w' => e = .returned (.int .i64 (suspendP id now L).1) ∧ Tb w' B M t x (suspendP id now L).2 ∧ KeepM M W w' := by
  obtain ⟨Aj, cj, c⟩ := c
  have C := Aside0.mk c
  clear c
  unfold suspendP
  go_enter Tryd.func17, Tryd.ntmps17
  go_wp2_with (first | ((with_reducible refine gate_dst (N := 10) rfl ?_); refine Kd.R_lit (Kd.int .i64) _ 3 ?hg (N := 10) ?hd (xs := [3]) (inner := [.int .i64 3]) (ok := fun _ => True) (okp := fun _ => True) ?hr ?hp (fun _ hk => hk) trivial (Below.refl _ _) (Nat.le_refl _) (by simp) ?_; (case hd => rfl); (case hg => rfl); (case hr => first | (go_simp; done) | (go_simp; rfl)); (case hp => exact Kd.reps_scalar [3]); intro v w3 ho hb hg_ hnew_; obtain ⟨Af, cf, rfl, hcf, hC⟩ := Kd.R_reads ho; have HO := Aside0.mk ho; clear hg_ hnew_ ho; have HC := Aside0.mk hC; have HF := Aside0.mk hcf; have HB := Aside0.mk hb; clear hC hcf hb) | (go_at_call 37; refine (goes_ran id now 4 true Af cf [3] h0 h1 (Tab.below C.out HB.out) HC.out HF.out (has1 3)).mono ?_; rintro e w2 ⟨rfl, c2, k2⟩; have C2 := Aside0.mk c2; have K2 := Aside0.mk k2; clear c2 k2))
  go_ret
  exact ⟨rfl, ⟨_, _, C2.out⟩, (KeepM.of HB.out).trans K2.out⟩
theorem t_resume (id now : Int) (h0 : 0 ≤ id) (h1 : id ≤ 4294967295) (c : Tb W B M t x L) :
    Calls Tryd.prog 18 #[.pointer (some ⟨t, 0, none⟩), .int .u32 id, .int .i64 now] W fun e w' => e = .returned (.int .i64 (resumeP id now L).1) ∧ Tb w' B M t x (resumeP id now L).2 ∧ KeepM M W w' := by
  obtain ⟨Aj, cj, c⟩ := c
  have C := Aside0.mk c
  clear c
  unfold resumeP
  go_enter Tryd.func18, Tryd.ntmps18
  go_wp2_with (first | ((with_reducible refine gate_dst (N := 10) rfl ?_); refine Kd.R_lit (Kd.int .i64) _ 3 ?hg (N := 10) ?hd (xs := [4]) (inner := [.int .i64 4]) (ok := fun _ => True) (okp := fun _ => True) ?hr ?hp (fun _ hk => hk) trivial (Below.refl _ _) (Nat.le_refl _) (by simp) ?_; (case hd => rfl); (case hg => rfl); (case hr => first | (go_simp; done) | (go_simp; rfl)); (case hp => exact Kd.reps_scalar [4]); intro v w3 ho hb hg_ hnew_; obtain ⟨Af, cf, rfl, hcf, hC⟩ := Kd.R_reads ho; have HO := Aside0.mk ho; clear hg_ hnew_ ho; have HC := Aside0.mk hC; have HF := Aside0.mk hcf; have HB := Aside0.mk hb; clear hC hcf hb) | (go_at_call 37; refine (goes_resume id now 3 true Af cf [4] h0 h1 (Tab.below C.out HB.out) HC.out HF.out (has1 4)).mono ?_; rintro e w2 ⟨rfl, c2, k2⟩; have C2 := Aside0.mk c2; have K2 := Aside0.mk k2; clear c2 k2))
  go_ret
  exact ⟨rfl, ⟨_, _, C2.out⟩, (KeepM.of HB.out).trans K2.out⟩
theorem t_never (id : Int) (h0 : 0 ≤ id) (h1 : id ≤ 4294967295) (c : Tb W B M t x L) :
    Calls Tryd.prog 29 #[.pointer (some ⟨t, 0, none⟩), .int .u32 id] W fun e w' => e = .returned (.int .i64 (neverP id L).1) ∧ Tb w' B M t x (neverP id L).2 ∧ KeepM M W w' := by
  obtain ⟨Aj, cj, c⟩ := c
  have C := Aside0.mk c
  clear c
  unfold neverP
  go_enter Tryd.func29, Tryd.ntmps29
  go_wp2_with (first | ((with_reducible refine gate_dst (N := 7) rfl ?_); refine Kd.R_lit (Kd.int .i64) _ 3 ?hg (N := 7) ?hd (xs := [1, 2]) (inner := [.int .i64 1, .int .i64 2]) (ok := fun _ => True) (okp := fun _ => True) ?hr ?hp (fun _ hk => hk) trivial (Below.refl _ _) (Nat.le_refl _) (by simp) ?_; (case hd => rfl); (case hg => rfl); (case hr => first | (go_simp; done) | (go_simp; rfl)); (case hp => exact Kd.reps_scalar [1, 2]); intro v w3 ho hb hg_ hnew_; obtain ⟨Af, cf, rfl, hcf, hC⟩ := Kd.R_reads ho; have HO := Aside0.mk ho; clear hg_ hnew_ ho; have HC := Aside0.mk hC; have HF := Aside0.mk hcf; have HB := Aside0.mk hb; clear hC hcf hb) | (go_at_call 37; refine (goes_hold id 0 9 false Af cf [1, 2] h0 h1 (Tab.below C.out HB.out) HC.out HF.out (has2 1 2)).mono ?_; rintro e w2 ⟨rfl, c2, k2⟩; have C2 := Aside0.mk c2; have K2 := Aside0.mk k2; clear c2 k2))
  go_ret
  exact ⟨rfl, ⟨_, _, C2.out⟩, (KeepM.of HB.out).trans K2.out⟩
theorem late_dr (g o : Nat) (now s t : Int) (w : World) (h1 : w.cell? ⟨g, o + 20, none⟩ = some (.int .i64 s)) (h2 : w.cell? ⟨g, o + 21, none⟩ = some (.int .i64 t)) (r : Bool) (hr : (decide (now < mx s t) || decide (1099511627776 < now)) = r) :
    Calls Tryd.prog 42 #[.pointer (some ⟨g, o, none⟩), .int .i64 now] w fun e w' => e = .returned (.bool r) ∧ Drawn0 w w' := by
  have hu58 := Tryd.underlying58
  have hm : (if s < t then t else s) = mx s t := rfl
  generalize mx s t = m at hm hr
  by_cases c1 : now < m
  · have e1 : decide (now < m) = true := decide_eq_true c1
    obtain rfl : r = true := by rw [← hr, e1]; rfl
    go_enter Tryd.func42, Tryd.ntmps42
    go_wp2
    go_quiet (fail)
    all_goals go_wp2
    all_goals (go_ret; exact ⟨rfl, ⟨⟨_, rfl⟩⟩⟩)
  · have e1 : decide (now < m) = false := decide_eq_false c1
    obtain rfl : r = decide (1099511627776 < now) := by rw [← hr, e1]; rfl
    go_enter Tryd.func42, Tryd.ntmps42
    go_wp2
    go_quiet (fail)
    all_goals go_wp2
    all_goals (go_ret; exact ⟨rfl, ⟨⟨_, rfl⟩⟩⟩)
theorem t_end (id now how : Int) (h0 : 0 ≤ id) (h1 : id ≤ 4294967295) (c : Tb W B M t x L) :
    Calls Tryd.prog 13 #[.pointer (some ⟨t, 0, none⟩), .int .u32 id, .int .i64 now, .int .i64 how] W fun e w' => e = .returned (.int .i64 (endP id now how L).1) ∧ Tb w' B M t x (endP id now how L).2 ∧ KeepM M W w' := by
  obtain ⟨Aj, cj, c⟩ := c
  have C := Aside0.mk c
  clear c
  unfold endP
  by_cases h7 : how = 7
  · subst h7
    rw [if_pos rfl]
    go_enter Tryd.func13, Tryd.ntmps13
    go_wp2_with (first | ((with_reducible refine gate_dst (N := 10) rfl ?_); refine Kd.R_lit (Kd.int .i64) _ 3 ?hg (N := 10) ?hd (xs := [3, 4]) (inner := [.int .i64 3, .int .i64 4]) (ok := fun _ => True) (okp := fun _ => True) ?hr ?hp (fun _ hk => hk) trivial (Below.refl _ _) (Nat.le_refl _) (by simp) ?_; (case hd => rfl); (case hg => rfl); (case hr => first | (go_simp; done) | (go_simp; rfl)); (case hp => exact Kd.reps_scalar [3, 4]); intro v w3 ho hb hg_ hnew_; obtain ⟨Af, cf, rfl, hcf, hC⟩ := Kd.R_reads ho; have HO := Aside0.mk ho; clear hg_ hnew_ ho; have HC := Aside0.mk hC; have HF := Aside0.mk hcf; have HB := Aside0.mk hb; clear hC hcf hb) | ((with_reducible refine gate_dst (N := 15) rfl ?_); refine Kd.R_lit (Kd.int .i64) _ 3 ?hg (N := 15) ?hd (xs := [1, 2]) (inner := [.int .i64 1, .int .i64 2]) (ok := fun _ => True) (okp := fun _ => True) ?hr ?hp (fun _ hk => hk) trivial (Below.refl _ _) (Nat.le_refl _) (by simp) ?_; (case hd => rfl); (case hg => rfl); (case hr => first | (go_simp; done) | (go_simp; rfl)); (case hp => exact Kd.reps_scalar [1, 2]); intro v2 w32 ho hb hg_ hnew_; obtain ⟨Af2, cf2, rfl, hcf, hC⟩ := Kd.R_reads ho; have HO2 := Aside0.mk ho; clear hg_ hnew_ ho; have HC2 := Aside0.mk hC; have HF2 := Aside0.mk hcf; have HB2 := Aside0.mk hb; clear hC hcf hb) | ((with_reducible refine gate_builtin (b := .append) (xs := #[.tmp 14, .tmp 15]) rfl ?_); at_builtin; refine Kd.R_append_rows (Kd.int .i64) (w0 := W) W.heap.size rfl (.tmp 14) (.tmp 15) 34 3 (.int .i64 0) 8 rfl Tryd.underlying34 info3 rfl (by decide) (by omega) (.slice Af [3, 4].length cf) [3, 4] [1, 2] _ _ _ (fun _ => True) (fun _ => False) rfl rfl ?aO ?aR (fun _ _ h => h) (fun _ h => h.elim) ?aF ?aB ?aS ?aL ?_; (case aR => exact HC2.out); (case aB => exact below_step HB.out HB2.out); (case aF => exact (fun _ _ => trivial)); (case aO => exact Kd.R_below HO.out HB2.out); (case aS => exact (below_size (below_step HB.out HB2.out))); (case aL => simp); intro v5 w5 ho hb hg hat; obtain ⟨Af5, cf5, rfl, hcf, hC⟩ := Kd.R_reads ho; clear ho hg hat; have HC5 := Aside0.mk hC; have HF5 := Aside0.mk hcf; have HB5 := Aside0.mk hb; clear hC hcf hb) | (go_at_call 37; refine (goes_ran id now 7 true Af5 cf5 [3, 4, 1, 2] h0 h1 (Tab.below C.out HB5.out) HC5.out HF5.out (has4 3 4 1 2)).mono ?_; rintro e w6 ⟨rfl, c2, k2⟩; have C2 := Aside0.mk c2; have K2 := Aside0.mk k2; clear c2 k2))
    go_ret
    exact ⟨rfl, ⟨_, _, C2.out⟩, (KeepM.of HB5.out).trans K2.out⟩
  · rw [if_neg h7]
    have e7 : (how == 7) = false := beq_eq_false_iff_ne.2 h7
    by_cases hid : id = 0 ∨ (L.length : Int) < id
    · rw [if_neg (fun h => h.1 hid)]
      go_enter Tryd.func13, Tryd.ntmps13
      go_wp2_with (first | ((with_reducible refine gate_dst (N := 10) rfl ?_); refine Kd.R_lit (Kd.int .i64) _ 3 ?hg (N := 10) ?hd (xs := [3, 4]) (inner := [.int .i64 3, .int .i64 4]) (ok := fun _ => True) (okp := fun _ => True) ?hr ?hp (fun _ hk => hk) trivial (Below.refl _ _) (Nat.le_refl _) (by simp) ?_; (case hd => rfl); (case hg => rfl); (case hr => first | (go_simp; done) | (go_simp; rfl)); (case hp => exact Kd.reps_scalar [3, 4]); intro v w3 ho hb hg_ hnew_; obtain ⟨Af, cf, rfl, hcf, hC⟩ := Kd.R_reads ho; have HO := Aside0.mk ho; clear hg_ hnew_ ho; have HC := Aside0.mk hC; have HF := Aside0.mk hcf; have HB := Aside0.mk hb; clear hC hcf hb) | (go_at_call 36; refine (at_none id h0 h1 hid (Tab.below C.out HB.out)).mono ?_; rintro e w7 ⟨rfl, rfl⟩) | (go_at_call 37; refine (goes_ran id now how true Af cf [3, 4] h0 h1 (Tab.below C.out HB.out) HC.out HF.out (has2 3 4)).mono ?_; rintro e w6 ⟨rfl, c2, k2⟩; have C2 := Aside0.mk c2; have K2 := Aside0.mk k2; clear c2 k2))
      go_ret
      exact ⟨rfl, ⟨_, _, C2.out⟩, (KeepM.of HB.out).trans K2.out⟩
    · have k1 : 1 ≤ id := by omega
      have k2 : id ≤ (L.length : Int) := by omega
      obtain ⟨n, hn⟩ : ∃ n : Nat, (n : Int) = id - 1 := ⟨(id - 1).toNat, by omega⟩
      have i1 : n < L.length := by omega
      have HN := Aside0.mk hn
      obtain ⟨g, eA, hMg⟩ := Tab.row C.out (by omega)
      subst eA
      by_cases hh : how ≠ 5 ∧ how ≠ 6 ∧ how ≠ 8
      · rw [if_pos ⟨hid, hh⟩]
        obtain ⟨g5, g6, g8⟩ := hh
        have b5 : (how != 5) = true := bne_iff_ne.2 g5
        have b6 : (how != 6) = true := bne_iff_ne.2 g6
        have b8 : (how != 8) = true := bne_iff_ne.2 g8
        clear g5 g6 g8 h7 hn
        go_enter Tryd.func13, Tryd.ntmps13
        go_wp2_with (first | ((with_reducible refine gate_dst (N := 10) rfl ?_); refine Kd.R_lit (Kd.int .i64) _ 3 ?hg (N := 10) ?hd (xs := [3, 4]) (inner := [.int .i64 3, .int .i64 4]) (ok := fun _ => True) (okp := fun _ => True) ?hr ?hp (fun _ hk => hk) trivial (Below.refl _ _) (Nat.le_refl _) (by simp) ?_; (case hd => rfl); (case hg => rfl); (case hr => first | (go_simp; done) | (go_simp; rfl)); (case hp => exact Kd.reps_scalar [3, 4]); intro v w3 ho hb hg_ hnew_; obtain ⟨Af, cf, rfl, hcf, hC⟩ := Kd.R_reads ho; have HO := Aside0.mk ho; clear hg_ hnew_ ho; have HC := Aside0.mk hC; have HF := Aside0.mk hcf; have HB := Aside0.mk hb; clear hC hcf hb) | (go_at_call 36; refine (at_some n id HN.out k1 h1 k2 (Tab.below C.out HB.out)).mono ?_; rintro e w7 ⟨rfl, rfl⟩))
        go_ret
        exact ⟨rfl, ⟨_, _, Tab.below C.out HB.out⟩, KeepM.of HB.out⟩
      · rw [if_neg (fun h => hh h.2)]
        have hd : how = 5 ∨ how = 6 ∨ how = 8 := by omega
        clear h7 e7 hh hn
        rcases hd with rfl | rfl | rfl
        all_goals
          go_enter Tryd.func13, Tryd.ntmps13
          go_wp2_with (first | ((with_reducible refine gate_dst (N := 10) rfl ?_); refine Kd.R_lit (Kd.int .i64) _ 3 ?hg (N := 10) ?hd (xs := [3, 4]) (inner := [.int .i64 3, .int .i64 4]) (ok := fun _ => True) (okp := fun _ => True) ?hr ?hp (fun _ hk => hk) trivial (Below.refl _ _) (Nat.le_refl _) (by simp) ?_; (case hd => rfl); (case hg => rfl); (case hr => first | (go_simp; done) | (go_simp; rfl)); (case hp => exact Kd.reps_scalar [3, 4]); intro v w3 ho hb hg_ hnew_; obtain ⟨Af, cf, rfl, hcf, hC⟩ := Kd.R_reads ho; have HO := Aside0.mk ho; clear hg_ hnew_ ho; have HC := Aside0.mk hC; have HF := Aside0.mk hcf; have HB := Aside0.mk hb; clear hC hcf hb) | (go_at_call 36; refine (at_some n id HN.out k1 h1 k2 (Tab.below C.out HB.out)).mono ?_; rintro e w7 ⟨rfl, rfl⟩) | (go_at_call 37; refine (goes_ran id now _ true Af cf [3, 4] h0 h1 (Tab.below C.out HB.out) HC.out HF.out (has2 3 4)).mono ?_; rintro e w6 ⟨rfl, c2, k2⟩; have C2 := Aside0.mk c2; have K2 := Aside0.mk k2; clear c2 k2))
          go_ret
          exact ⟨rfl, ⟨_, _, C2.out⟩, (KeepM.of HB.out).trans K2.out⟩
theorem t_requeue (id now : Int) (h0 : 0 ≤ id) (h1 : id ≤ 4294967295) (c : Tb W B M t x L) :
    Calls Tryd.prog 20 #[.pointer (some ⟨t, 0, none⟩), .int .u32 id, .int .i64 now] W fun e w' => e = .returned (.int .i64 (requeueP x.h.f3 id now L).1) ∧ Tb w' B M t x (requeueP x.h.f3 id now L).2 ∧ KeepM M W w' := by
  obtain ⟨Aj, cj, c⟩ := c
  have C := Aside0.mk c
  clear c
  have hu58 := Tryd.underlying58
  have hu83 := Tryd.underlying83
  by_cases hid : id = 0 ∨ (L.length : Int) < id
  · have hG : requeueP x.h.f3 id now L = goesP (fun x => { x with f6 := now, f9 := 0, f10 := ⟨0, 0⟩ }) true id now 1 [3, 4] L := by rw [requeueP, if_pos hid]; rfl
    rw [hG]
    clear hG
    go_enter Tryd.func20, Tryd.ntmps20
    go_wp2_with (first | ((with_reducible refine gate_dst (N := 9) rfl ?_); refine Kd.R_lit (Kd.int .i64) _ 3 ?hg (N := 9) ?hd (xs := [3, 4]) (inner := [.int .i64 3, .int .i64 4]) (ok := fun _ => True) (okp := fun _ => True) ?hr ?hp (fun _ hk => hk) trivial (Below.refl _ _) (Nat.le_refl _) (by simp) ?_; (case hd => rfl); (case hg => rfl); (case hr => first | (go_simp; done) | (go_simp; rfl)); (case hp => exact Kd.reps_scalar [3, 4]); intro v w3 ho hb hg_ hnew_; obtain ⟨Af, cf, rfl, hcf, hC⟩ := Kd.R_reads ho; have HO := Aside0.mk ho; clear hg_ hnew_ ho; have HC := Aside0.mk hC; have HF := Aside0.mk hcf; have HB := Aside0.mk hb; clear hC hcf hb) | (go_at_call 36; refine (at_none id h0 h1 hid (Tab.below C.out HB.out)).mono ?_; rintro e w7 ⟨rfl, rfl⟩))
    go_quiet (fail)
    go_wp2_with (first | (go_at_call 37; refine (goes_requeue id now 1 true Af cf [3, 4] h0 h1 (Tab.below C.out (below_step HB.out (pw_below_drewN (Below.refl _ _) _))) HC.out HF.out (has2 3 4)).mono ?_; rintro e w6 ⟨rfl, c2, k2⟩; have C2 := Aside0.mk c2; have K2 := Aside0.mk k2; clear c2 k2))
    go_ret
    exact ⟨rfl, ⟨_, _, C2.out⟩, (KeepM.of (below_step HB.out (pw_below_drewN (Below.refl _ _) _))).trans K2.out⟩
  · have k1 : 1 ≤ id := by omega
    have k2 : id ≤ (L.length : Int) := by omega
    obtain ⟨n, hn⟩ : ∃ n : Nat, (n : Int) = id - 1 := ⟨(id - 1).toNat, by omega⟩
    have i1 : n < L.length := by omega
    have HN := Aside0.mk hn
    obtain ⟨g, eA, hMg⟩ := Tab.row C.out (by omega)
    subst eA
    clear hn
    go_enter Tryd.func20, Tryd.ntmps20
    go_wp2_with (first | ((with_reducible refine gate_dst (N := 9) rfl ?_); refine Kd.R_lit (Kd.int .i64) _ 3 ?hg (N := 9) ?hd (xs := [3, 4]) (inner := [.int .i64 3, .int .i64 4]) (ok := fun _ => True) (okp := fun _ => True) ?hr ?hp (fun _ hk => hk) trivial (Below.refl _ _) (Nat.le_refl _) (by simp) ?_; (case hd => rfl); (case hg => rfl); (case hr => first | (go_simp; done) | (go_simp; rfl)); (case hp => exact Kd.reps_scalar [3, 4]); intro v w3 ho hb hg_ hnew_; obtain ⟨Af, cf, rfl, hcf, hC⟩ := Kd.R_reads ho; have HO := Aside0.mk ho; clear hg_ hnew_ ho; have HC := Aside0.mk hC; have HF := Aside0.mk hcf; have HB := Aside0.mk hb; clear hC hcf hb) | (go_at_call 36; refine (at_some n id HN.out k1 h1 k2 (Tab.below C.out HB.out)).mono ?_; rintro e w7 ⟨rfl, rfl⟩))
    obtain ⟨⟨q0, q1, q2, q3, q6, q7, q18, q19, q20, q21, q22, q23, q24, q25⟩, hfr⟩ := Tab.job (Tab.below C.out HB.out) n i1
    have z3 := (Tab.cell (Tab.below C.out HB.out) 3).trans rfl
    clear q0 q1 q2 q3 q6 q7 q18 q23 q24 q25 hfr
    generalize hj : rd_T58 L (n : Int) = j at q19 q20 q21 q22
    have hV : ∀ Y, (if lateB j now = false ∧ decide (j.f5 ∈ [3, 4]) = true ∧ x.h.f3 < j.f8 then (5, L) else goesP (fun x => { x with f6 := now, f9 := 0, f10 := ⟨0, 0⟩ }) true id now 1 [3, 4] L) = Y → requeueP x.h.f3 id now L = Y := by
      intro Y hY
      rw [← hY, requeueP, if_neg hid, ← HN.out, hj]
      rfl
    have HV := Aside0.mk hV
    clear hV hj
    cases hl : lateB j now with
    | true =>
      have HL := Aside0.mk hl
      clear hl
      have HR := Aside0.mk (HV.out _ (if_neg (by rw [HL.out]; simp)))
      clear HV
      go_quiet (first | (go_at_call 42; exact Calls.quiet_of ((late_dr g (n * 26) now _ _ (w7.drewN _) q20 q21 true HL.out).mono fun e w' hq => ⟨hq.1, hq.2.out⟩)))
      go_wp2_with (first | (go_at_call 37; refine (goes_requeue id now 1 true Af cf [3, 4] h0 h1 (Tab.below C.out (below_step HB.out (pw_below_drewN (Below.refl _ _) _))) HC.out HF.out (has2 3 4)).mono ?_; rintro e w6 ⟨rfl, c2, k2⟩; have C2 := Aside0.mk c2; have K2 := Aside0.mk k2; clear c2 k2))
      go_ret
      rw [HR.out]
      exact ⟨rfl, ⟨_, _, C2.out⟩, (KeepM.of (below_step HB.out (pw_below_drewN (Below.refl _ _) _))).trans K2.out⟩
    | false =>
      have HL := Aside0.mk hl
      clear hl
      cases hm : decide (j.f5 ∈ [3, 4]) with
      | false =>
        have HM := Aside0.mk hm
        clear hm
        have HR := Aside0.mk (HV.out _ (if_neg (by rw [HM.out]; simp)))
        clear HV
        go_quiet (first | (go_at_call 42; exact Calls.quiet_of ((late_dr g (n * 26) now _ _ (w7.drewN _) q20 q21 false HL.out).mono fun e w' hq => ⟨hq.1, hq.2.out⟩)) | (go_at_call 43; exact Calls.quiet_of ((slices_Contains_int_int.calls 9 Af cf [3, 4] _ _ _ (Kd.C_below HC.out (pw_below_drewN (Below.refl _ _) _)) HF.out (has2 3 4 _)).mono fun e w' hq => ⟨by rw [hq.1, HM.out], hq.2.out⟩)))
        go_wp2_with (first | (go_at_call 37; refine (goes_requeue id now 1 true Af cf [3, 4] h0 h1 (Tab.below C.out (below_step HB.out (pw_below_drewN (Below.refl _ _) _))) HC.out HF.out (has2 3 4)).mono ?_; rintro e w6 ⟨rfl, c2, k2⟩; have C2 := Aside0.mk c2; have K2 := Aside0.mk k2; clear c2 k2))
        go_ret
        rw [HR.out]
        exact ⟨rfl, ⟨_, _, C2.out⟩, (KeepM.of (below_step HB.out (pw_below_drewN (Below.refl _ _) _))).trans K2.out⟩
      | true =>
        have HM := Aside0.mk hm
        clear hm
        by_cases hr : x.h.f3 < j.f8
        · have HR := Aside0.mk (HV.out _ (if_pos ⟨HL.out, HM.out, hr⟩))
          clear HV
          have hr2 := decide_eq_true hr
          clear hr
          go_quiet (first | (go_at_call 42; exact Calls.quiet_of ((late_dr g (n * 26) now _ _ (w7.drewN _) q20 q21 false HL.out).mono fun e w' hq => ⟨hq.1, hq.2.out⟩)) | (go_at_call 43; exact Calls.quiet_of ((slices_Contains_int_int.calls 9 Af cf [3, 4] _ _ _ (Kd.C_below HC.out (pw_below_drewN (Below.refl _ _) _)) HF.out (has2 3 4 _)).mono fun e w' hq => ⟨by rw [hq.1, HM.out], hq.2.out⟩)))
          go_wp2
          go_ret
          rw [HR.out]
          exact ⟨rfl, ⟨_, _, Tab.below C.out (below_step HB.out (pw_below_drewN (Below.refl _ _) _))⟩, KeepM.of (below_step HB.out (pw_below_drewN (Below.refl _ _) _))⟩
        · have HR := Aside0.mk (HV.out _ (if_neg (fun h => hr h.2.2)))
          clear HV
          have hr2 := decide_eq_false hr
          clear hr
          go_quiet (first | (go_at_call 42; exact Calls.quiet_of ((late_dr g (n * 26) now _ _ (w7.drewN _) q20 q21 false HL.out).mono fun e w' hq => ⟨hq.1, hq.2.out⟩)) | (go_at_call 43; exact Calls.quiet_of ((slices_Contains_int_int.calls 9 Af cf [3, 4] _ _ _ (Kd.C_below HC.out (pw_below_drewN (Below.refl _ _) _)) HF.out (has2 3 4 _)).mono fun e w' hq => ⟨by rw [hq.1, HM.out], hq.2.out⟩)))
          go_wp2_with (first | (go_at_call 37; refine (goes_requeue id now 1 true Af cf [3, 4] h0 h1 (Tab.below C.out (below_step HB.out (pw_below_drewN (Below.refl _ _) _))) HC.out HF.out (has2 3 4)).mono ?_; rintro e w6 ⟨rfl, c2, k2⟩; have C2 := Aside0.mk c2; have K2 := Aside0.mk k2; clear c2 k2))
          go_ret
          rw [HR.out]
          exact ⟨rfl, ⟨_, _, C2.out⟩, (KeepM.of (below_step HB.out (pw_below_drewN (Below.refl _ _) _))).trans K2.out⟩
theorem up_all : ∀ m : Fin 1024, num_Up.f (((m : Nat) : Int) + 1) = some (upS (((m : Nat) : Int) + 1), upO (((m : Nat) : Int) + 1)) ∧ 1 ≤ upS (((m : Nat) : Int) + 1) := by decide +kernel
theorem up_ok (a : Int) (h1 : 1 ≤ a) (h2 : a ≤ 1024) : num_Up.f a = some (upS a, upO a) ∧ 1 ≤ upS a := by
  have h := up_all ⟨(a - 1).toNat, by omega⟩
  have e : (((a - 1).toNat : Nat) : Int) + 1 = a := by omega
  simp only [e] at h
  exact h
set_option maxHeartbeats 2000000 in
set_option maxRecDepth 100000 in
theorem t_start (id now b0 b1 : Int) (h0 : 0 ≤ id) (h1 : id ≤ 4294967295) (hJ : ∀ j ∈ L, 1 ≤ j.f3.f4 ∧ j.f3.f4 ≤ 1024) (c : Tb W B M t x L) :
    Calls Tryd.prog 16 #[.pointer (some ⟨t, 0, none⟩), .int .u32 id, .int .i64 now, .agg #[.int .i64 b0, .int .i64 b1]] W fun e w' => e = .returned (.int .i64 (startP id now b0 b1 L).1) ∧ Tb w' B M t x (startP id now b0 b1 L).2 ∧ KeepM M W w' := by
  obtain ⟨Aj, cj, c⟩ := c
  have C := Aside0.mk c
  clear c
  have hu58 := Tryd.underlying58
  have hu55 := Tryd.underlying55
  by_cases hid : id = 0 ∨ (L.length : Int) < id
  · have hG : startP id now b0 b1 L = goesP (fun x => { x with f7 := now, f8 := wrap64 (x.f8 + 1), f9 := 0, f10 := ⟨b0, b1⟩ }) true id now 3 [1] L := by rw [startP, if_pos hid]; rfl
    rw [hG]
    clear hG
    go_enter Tryd.func16, Tryd.ntmps16
    go_wp2_with (first | ((with_reducible refine gate_dst (N := 7) rfl ?_); refine box_event ?hg (N := 7) ?hd (cs := #[.int .i64 b0, .int .i64 b1]) (t := 55) ?hr ?_; (case hd => rfl); (case hg => rfl); (case hr => first | (go_simp; done) | (go_simp; rfl)); intro gb hg w1 hbox hb; have HB1 := Aside0.mk hb; have KX := Aside0.mk hbox; clear hb hg hbox; have kx0 := (blk_cell KX.out 0).trans rfl; have kx1 := (blk_cell KX.out 1).trans rfl) | (go_at_call 36; refine (at_none id h0 h1 hid (Tab.below C.out HB1.out)).mono ?_; rintro e w7 ⟨rfl, rfl⟩) | ((with_reducible refine gate_dst (N := 54) rfl ?_); refine Kd.R_lit (Kd.int .i64) _ 3 ?hg (N := 54) ?hd (xs := [1]) (inner := [.int .i64 1]) (ok := fun _ => True) (okp := fun _ => True) ?hr ?hp (fun _ hk => hk) trivial (Below.refl _ _) (Nat.le_refl _) (by simp) ?_; (case hd => rfl); (case hg => rfl); (case hr => first | (go_simp; done) | (go_simp; rfl)); (case hp => exact Kd.reps_scalar [1]); intro v w3 ho hb hg_ hnew_; obtain ⟨Af, cf, rfl, hcf, hC⟩ := Kd.R_reads ho; have HO := Aside0.mk ho; clear hg_ hnew_ ho; have HC := Aside0.mk hC; have HF := Aside0.mk hcf; have HB := Aside0.mk (below_step (below_step HB1.out (Below.refl _ _)) hb); have KY := Aside0.mk (blk_below (blk_below KX.out (Below.refl _ _)) hb); clear hC hcf hb) | (go_at_call 37; refine (goes_start gb b0 b1 KY.out id now 3 true Af cf [1] h0 h1 (Tab.below C.out HB.out) HC.out HF.out (has1 1)).mono ?_; rintro e w6 ⟨rfl, c2, k2⟩; have C2 := Aside0.mk c2; have K2 := Aside0.mk k2; clear c2 k2))
    go_ret
    exact ⟨rfl, ⟨_, _, C2.out⟩, (KeepM.of HB.out).trans K2.out⟩
  · have k1 : 1 ≤ id := by omega
    have k2 : id ≤ (L.length : Int) := by omega
    obtain ⟨n, hn⟩ : ∃ n : Nat, (n : Int) = id - 1 := ⟨(id - 1).toNat, by omega⟩
    have i1 : n < L.length := by omega
    have HN := Aside0.mk hn
    obtain ⟨g, eA, hMg⟩ := Tab.row C.out (by omega)
    subst eA
    have hjm : rd_T58 L (n : Int) ∈ L := by
      rw [rd_T58, Int.toNat_natCast, List.getD_eq_getElem?_getD, List.getElem?_eq_getElem i1]
      exact List.getElem_mem i1
    obtain ⟨hU, hS1⟩ := up_ok _ (hJ _ hjm).1 (hJ _ hjm).2
    have hV : ∀ Y, (if badB b0 b1 (upS (rd_T58 L (n : Int)).f3.f4) (upO (rd_T58 L (n : Int)).f3.f4) = true then (2, L) else goesP (fun x => { x with f7 := now, f8 := wrap64 (x.f8 + 1), f9 := 0, f10 := ⟨b0, b1⟩ }) true id now 3 [1] L) = Y → startP id now b0 b1 L = Y := by
      intro Y hY
      rw [← hY, startP, if_neg hid, ← HN.out]
      rfl
    clear hjm hJ hn
    generalize hs : upS (rd_T58 L (n : Int)).f3.f4 = s at hU hS1 hV
    generalize ho : upO (rd_T58 L (n : Int)).f3.f4 = o at hU hV
    clear hs ho
    have HU := Aside0.mk hU
    clear hU
    have HV := Aside0.mk hV
    clear hV
    have hK : (b1 = o ∧ 0 ≤ b0 ∧ b0 ≤ 1023 ∧ b0 % s = 0) ∨ b1 ≠ o ∨ (b1 = o ∧ b0 < 0) ∨ (b1 = o ∧ 0 ≤ b0 ∧ 1023 < b0) ∨ (b1 = o ∧ 0 ≤ b0 ∧ b0 ≤ 1023 ∧ b0 % s ≠ 0) := by omega
    have tm : 0 ≤ b0 → Int.tmod b0 s = b0 % s := fun h => Int.tmod_eq_emod_of_nonneg h
    rcases hK with ⟨e1, e2, e3, e4⟩ | e1 | ⟨e1, e2⟩ | ⟨e1, e2, e3⟩ | ⟨e1, e2, e3, e4⟩
    · have HR := Aside0.mk (HV.out _ (if_neg (by unfold badB; rw [tm e2, e4]; subst e1; simp; omega)))
      clear HV tm
      subst e1
      go_enter Tryd.func16, Tryd.ntmps16
      go_wp2_with (first | ((with_reducible refine gate_dst (N := 7) rfl ?_); refine box_event ?hg (N := 7) ?hd (cs := #[.int .i64 b0, .int .i64 b1]) (t := 55) ?hr ?_; (case hd => rfl); (case hg => rfl); (case hr => first | (go_simp; done) | (go_simp; rfl)); intro gb hg w1 hbox hb; have HB1 := Aside0.mk hb; have KX := Aside0.mk hbox; clear hb hg hbox; have kx0 := (blk_cell KX.out 0).trans rfl; have kx1 := (blk_cell KX.out 1).trans rfl; obtain ⟨⟨q0, q1, q2, q3, q6, q7, q18, q19, q20, q21, q22, q23, q24, q25⟩, hfr⟩ := Tab.job (Tab.below C.out HB1.out) n i1; clear q0 q1 q2 q3 q6 q18 q19 q20 q21 q22 q23 q24 q25 hfr) | (go_at_call 36; refine (at_some n id HN.out k1 h1 k2 (Tab.below C.out HB1.out)).mono ?_; rintro e w7 ⟨rfl, rfl⟩) | (go_at_call 39; refine (num_Up.calls _ _ _ _ HU.out).mono ?_; rintro e w8 ⟨rfl, ⟨⟨nu, rfl⟩⟩⟩) | ((with_reducible refine gate_dst (N := 54) rfl ?_); refine Kd.R_lit (Kd.int .i64) _ 3 ?hg (N := 54) ?hd (xs := [1]) (inner := [.int .i64 1]) (ok := fun _ => True) (okp := fun _ => True) ?hr ?hp (fun _ hk => hk) trivial (Below.refl _ _) (Nat.le_refl _) (by simp) ?_; (case hd => rfl); (case hg => rfl); (case hr => first | (go_simp; done) | (go_simp; rfl)); (case hp => exact Kd.reps_scalar [1]); intro v w3 ho hb hg_ hnew_; obtain ⟨Af, cf, rfl, hcf, hC⟩ := Kd.R_reads ho; have HO := Aside0.mk ho; clear hg_ hnew_ ho; have HC := Aside0.mk hC; have HF := Aside0.mk hcf; have HB := Aside0.mk (below_step (below_step HB1.out (pw_below_drewN (Below.refl _ _) _)) hb); have KY := Aside0.mk (blk_below (blk_below KX.out (pw_below_drewN (Below.refl _ _) _)) hb); clear hC hcf hb) | (go_at_call 37; refine (goes_start gb b0 b1 KY.out id now 3 true Af cf [1] h0 h1 (Tab.below C.out HB.out) HC.out HF.out (has1 1)).mono ?_; rintro e w6 ⟨rfl, c2, k2⟩; have C2 := Aside0.mk c2; have K2 := Aside0.mk k2; clear c2 k2))
      go_ret
      rw [HR.out]
      exact ⟨rfl, ⟨_, _, C2.out⟩, (KeepM.of HB.out).trans K2.out⟩
    · have HR := Aside0.mk (HV.out _ (if_pos (by unfold badB; have g1 : (b1 == o) = false := beq_eq_false_iff_ne.2 e1; rw [g1]; rfl)))
      clear HV tm
      have g1 : (b1 != o) = true := bne_iff_ne.2 e1
      clear e1
      go_enter Tryd.func16, Tryd.ntmps16
      go_wp2_with (first | ((with_reducible refine gate_dst (N := 7) rfl ?_); refine box_event ?hg (N := 7) ?hd (cs := #[.int .i64 b0, .int .i64 b1]) (t := 55) ?hr ?_; (case hd => rfl); (case hg => rfl); (case hr => first | (go_simp; done) | (go_simp; rfl)); intro gb hg w1 hbox hb; have HB1 := Aside0.mk hb; have KX := Aside0.mk hbox; clear hb hg hbox; have kx0 := (blk_cell KX.out 0).trans rfl; have kx1 := (blk_cell KX.out 1).trans rfl; obtain ⟨⟨q0, q1, q2, q3, q6, q7, q18, q19, q20, q21, q22, q23, q24, q25⟩, hfr⟩ := Tab.job (Tab.below C.out HB1.out) n i1; clear q0 q1 q2 q3 q6 q18 q19 q20 q21 q22 q23 q24 q25 hfr) | (go_at_call 36; refine (at_some n id HN.out k1 h1 k2 (Tab.below C.out HB1.out)).mono ?_; rintro e w7 ⟨rfl, rfl⟩) | (go_at_call 39; refine (num_Up.calls _ _ _ _ HU.out).mono ?_; rintro e w8 ⟨rfl, ⟨⟨nu, rfl⟩⟩⟩) | ((with_reducible refine gate_dst (N := 54) rfl ?_); refine Kd.R_lit (Kd.int .i64) _ 3 ?hg (N := 54) ?hd (xs := [1]) (inner := [.int .i64 1]) (ok := fun _ => True) (okp := fun _ => True) ?hr ?hp (fun _ hk => hk) trivial (Below.refl _ _) (Nat.le_refl _) (by simp) ?_; (case hd => rfl); (case hg => rfl); (case hr => first | (go_simp; done) | (go_simp; rfl)); (case hp => exact Kd.reps_scalar [1]); intro v w3 ho hb hg_ hnew_; obtain ⟨Af, cf, rfl, hcf, hC⟩ := Kd.R_reads ho; have HO := Aside0.mk ho; clear hg_ hnew_ ho; have HC := Aside0.mk hC; have HF := Aside0.mk hcf; have HB := Aside0.mk (below_step (below_step HB1.out (pw_below_drewN (Below.refl _ _) _)) hb); have KY := Aside0.mk (blk_below (blk_below KX.out (pw_below_drewN (Below.refl _ _) _)) hb); clear hC hcf hb) | (go_at_call 37; refine (goes_start gb b0 b1 KY.out id now 3 true Af cf [1] h0 h1 (Tab.below C.out HB.out) HC.out HF.out (has1 1)).mono ?_; rintro e w6 ⟨rfl, c2, k2⟩; have C2 := Aside0.mk c2; have K2 := Aside0.mk k2; clear c2 k2))
      go_ret
      rw [HR.out]
      exact ⟨rfl, ⟨_, _, Tab.below C.out (below_step HB1.out (pw_below_drewN (Below.refl _ _) _))⟩, KeepM.of (below_step HB1.out (pw_below_drewN (Below.refl _ _) _))⟩
    · have HR := Aside0.mk (HV.out _ (if_pos (by unfold badB; have := decide_eq_true e2; rw [this]; simp)))
      clear HV tm
      subst e1
      go_enter Tryd.func16, Tryd.ntmps16
      go_wp2_with (first | ((with_reducible refine gate_dst (N := 7) rfl ?_); refine box_event ?hg (N := 7) ?hd (cs := #[.int .i64 b0, .int .i64 b1]) (t := 55) ?hr ?_; (case hd => rfl); (case hg => rfl); (case hr => first | (go_simp; done) | (go_simp; rfl)); intro gb hg w1 hbox hb; have HB1 := Aside0.mk hb; have KX := Aside0.mk hbox; clear hb hg hbox; have kx0 := (blk_cell KX.out 0).trans rfl; have kx1 := (blk_cell KX.out 1).trans rfl; obtain ⟨⟨q0, q1, q2, q3, q6, q7, q18, q19, q20, q21, q22, q23, q24, q25⟩, hfr⟩ := Tab.job (Tab.below C.out HB1.out) n i1; clear q0 q1 q2 q3 q6 q18 q19 q20 q21 q22 q23 q24 q25 hfr) | (go_at_call 36; refine (at_some n id HN.out k1 h1 k2 (Tab.below C.out HB1.out)).mono ?_; rintro e w7 ⟨rfl, rfl⟩) | (go_at_call 39; refine (num_Up.calls _ _ _ _ HU.out).mono ?_; rintro e w8 ⟨rfl, ⟨⟨nu, rfl⟩⟩⟩) | ((with_reducible refine gate_dst (N := 54) rfl ?_); refine Kd.R_lit (Kd.int .i64) _ 3 ?hg (N := 54) ?hd (xs := [1]) (inner := [.int .i64 1]) (ok := fun _ => True) (okp := fun _ => True) ?hr ?hp (fun _ hk => hk) trivial (Below.refl _ _) (Nat.le_refl _) (by simp) ?_; (case hd => rfl); (case hg => rfl); (case hr => first | (go_simp; done) | (go_simp; rfl)); (case hp => exact Kd.reps_scalar [1]); intro v w3 ho hb hg_ hnew_; obtain ⟨Af, cf, rfl, hcf, hC⟩ := Kd.R_reads ho; have HO := Aside0.mk ho; clear hg_ hnew_ ho; have HC := Aside0.mk hC; have HF := Aside0.mk hcf; have HB := Aside0.mk (below_step (below_step HB1.out (pw_below_drewN (Below.refl _ _) _)) hb); have KY := Aside0.mk (blk_below (blk_below KX.out (pw_below_drewN (Below.refl _ _) _)) hb); clear hC hcf hb) | (go_at_call 37; refine (goes_start gb b0 b1 KY.out id now 3 true Af cf [1] h0 h1 (Tab.below C.out HB.out) HC.out HF.out (has1 1)).mono ?_; rintro e w6 ⟨rfl, c2, k2⟩; have C2 := Aside0.mk c2; have K2 := Aside0.mk k2; clear c2 k2))
      go_ret
      rw [HR.out]
      exact ⟨rfl, ⟨_, _, Tab.below C.out (below_step HB1.out (pw_below_drewN (Below.refl _ _) _))⟩, KeepM.of (below_step HB1.out (pw_below_drewN (Below.refl _ _) _))⟩
    · have HR := Aside0.mk (HV.out _ (if_pos (by unfold badB; have := decide_eq_true e3; rw [this]; simp)))
      clear HV tm
      subst e1
      go_enter Tryd.func16, Tryd.ntmps16
      go_wp2_with (first | ((with_reducible refine gate_dst (N := 7) rfl ?_); refine box_event ?hg (N := 7) ?hd (cs := #[.int .i64 b0, .int .i64 b1]) (t := 55) ?hr ?_; (case hd => rfl); (case hg => rfl); (case hr => first | (go_simp; done) | (go_simp; rfl)); intro gb hg w1 hbox hb; have HB1 := Aside0.mk hb; have KX := Aside0.mk hbox; clear hb hg hbox; have kx0 := (blk_cell KX.out 0).trans rfl; have kx1 := (blk_cell KX.out 1).trans rfl; obtain ⟨⟨q0, q1, q2, q3, q6, q7, q18, q19, q20, q21, q22, q23, q24, q25⟩, hfr⟩ := Tab.job (Tab.below C.out HB1.out) n i1; clear q0 q1 q2 q3 q6 q18 q19 q20 q21 q22 q23 q24 q25 hfr) | (go_at_call 36; refine (at_some n id HN.out k1 h1 k2 (Tab.below C.out HB1.out)).mono ?_; rintro e w7 ⟨rfl, rfl⟩) | (go_at_call 39; refine (num_Up.calls _ _ _ _ HU.out).mono ?_; rintro e w8 ⟨rfl, ⟨⟨nu, rfl⟩⟩⟩) | ((with_reducible refine gate_dst (N := 54) rfl ?_); refine Kd.R_lit (Kd.int .i64) _ 3 ?hg (N := 54) ?hd (xs := [1]) (inner := [.int .i64 1]) (ok := fun _ => True) (okp := fun _ => True) ?hr ?hp (fun _ hk => hk) trivial (Below.refl _ _) (Nat.le_refl _) (by simp) ?_; (case hd => rfl); (case hg => rfl); (case hr => first | (go_simp; done) | (go_simp; rfl)); (case hp => exact Kd.reps_scalar [1]); intro v w3 ho hb hg_ hnew_; obtain ⟨Af, cf, rfl, hcf, hC⟩ := Kd.R_reads ho; have HO := Aside0.mk ho; clear hg_ hnew_ ho; have HC := Aside0.mk hC; have HF := Aside0.mk hcf; have HB := Aside0.mk (below_step (below_step HB1.out (pw_below_drewN (Below.refl _ _) _)) hb); have KY := Aside0.mk (blk_below (blk_below KX.out (pw_below_drewN (Below.refl _ _) _)) hb); clear hC hcf hb) | (go_at_call 37; refine (goes_start gb b0 b1 KY.out id now 3 true Af cf [1] h0 h1 (Tab.below C.out HB.out) HC.out HF.out (has1 1)).mono ?_; rintro e w6 ⟨rfl, c2, k2⟩; have C2 := Aside0.mk c2; have K2 := Aside0.mk k2; clear c2 k2))
      go_ret
      rw [HR.out]
      exact ⟨rfl, ⟨_, _, Tab.below C.out (below_step HB1.out (pw_below_drewN (Below.refl _ _) _))⟩, KeepM.of (below_step HB1.out (pw_below_drewN (Below.refl _ _) _))⟩
    · have HR := Aside0.mk (HV.out _ (if_pos (by unfold badB; rw [tm e2]; have g4 : (b0 % s == 0) = false := beq_eq_false_iff_ne.2 e4; rw [g4]; simp)))
      clear HV tm
      subst e1
      have g4 : (b0 % s != 0) = true := bne_iff_ne.2 e4
      go_enter Tryd.func16, Tryd.ntmps16
      go_wp2_with (first | ((with_reducible refine gate_dst (N := 7) rfl ?_); refine box_event ?hg (N := 7) ?hd (cs := #[.int .i64 b0, .int .i64 b1]) (t := 55) ?hr ?_; (case hd => rfl); (case hg => rfl); (case hr => first | (go_simp; done) | (go_simp; rfl)); intro gb hg w1 hbox hb; have HB1 := Aside0.mk hb; have KX := Aside0.mk hbox; clear hb hg hbox; have kx0 := (blk_cell KX.out 0).trans rfl; have kx1 := (blk_cell KX.out 1).trans rfl; obtain ⟨⟨q0, q1, q2, q3, q6, q7, q18, q19, q20, q21, q22, q23, q24, q25⟩, hfr⟩ := Tab.job (Tab.below C.out HB1.out) n i1; clear q0 q1 q2 q3 q6 q18 q19 q20 q21 q22 q23 q24 q25 hfr) | (go_at_call 36; refine (at_some n id HN.out k1 h1 k2 (Tab.below C.out HB1.out)).mono ?_; rintro e w7 ⟨rfl, rfl⟩) | (go_at_call 39; refine (num_Up.calls _ _ _ _ HU.out).mono ?_; rintro e w8 ⟨rfl, ⟨⟨nu, rfl⟩⟩⟩) | ((with_reducible refine gate_dst (N := 54) rfl ?_); refine Kd.R_lit (Kd.int .i64) _ 3 ?hg (N := 54) ?hd (xs := [1]) (inner := [.int .i64 1]) (ok := fun _ => True) (okp := fun _ => True) ?hr ?hp (fun _ hk => hk) trivial (Below.refl _ _) (Nat.le_refl _) (by simp) ?_; (case hd => rfl); (case hg => rfl); (case hr => first | (go_simp; done) | (go_simp; rfl)); (case hp => exact Kd.reps_scalar [1]); intro v w3 ho hb hg_ hnew_; obtain ⟨Af, cf, rfl, hcf, hC⟩ := Kd.R_reads ho; have HO := Aside0.mk ho; clear hg_ hnew_ ho; have HC := Aside0.mk hC; have HF := Aside0.mk hcf; have HB := Aside0.mk (below_step (below_step HB1.out (pw_below_drewN (Below.refl _ _) _)) hb); have KY := Aside0.mk (blk_below (blk_below KX.out (pw_below_drewN (Below.refl _ _) _)) hb); clear hC hcf hb) | (go_at_call 37; refine (goes_start gb b0 b1 KY.out id now 3 true Af cf [1] h0 h1 (Tab.below C.out HB.out) HC.out HF.out (has1 1)).mono ?_; rintro e w6 ⟨rfl, c2, k2⟩; have C2 := Aside0.mk c2; have K2 := Aside0.mk k2; clear c2 k2))
      go_ret
      rw [HR.out]
      exact ⟨rfl, ⟨_, _, Tab.below C.out (below_step HB1.out (pw_below_drewN (Below.refl _ _) _))⟩, KeepM.of (below_step HB1.out (pw_below_drewN (Below.refl _ _) _))⟩
end
end Go.Proofs.YtgkedamhicemiaaDoor.P
