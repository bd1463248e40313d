/- cut to what one law reaches -/
import Derived.Test.YtgkedamhicemiaaDoorJnJ12
import Derived.Test.YtgkedamhicemiaaDoorJnJ13
import Derived.Test.YtgkedamhicemiaaDoorJnJ16
namespace Go.Proofs.YtgkedamhicemiaaDoor.P
open Go.RowKit Go.Proofs.YtgkedamhicemiaaDoorW.PrintWords Go.Proofs.YtgkedamhicemiaaDoorW.PrintLast Go.Proofs.YtgkedamhicemiaaDoorW.PrintMore
attribute [local go_sem] max2_int min2_int max_two min_two max_three min_three max_four min_four
set_option linter.unusedVariables false
set_option linter.unusedSimpArgs false
attribute [local go_sem] isSome_setCell
def NilP (W : World) (e : Ending) (w' : World) : Prop := e = .returned (.int .i64 1) ∧ Below W.heap.size W w'
section
variable {W : World}
theorem nil_goes (id now : Int) (timed : Bool) (A : Option Addr) (n c : Nat) (to_ : Int) (f : Value) : Calls Tryd.prog 37 #[.pointer none, .int .u32 id, .int .i64 now, .bool timed, .agg #[.slice A n c, .int .i64 to_, f]] W (NilP W) := by
  go_enter Tryd.func37, Tryd.ntmps37
  go_wp2_with (first | ((with_reducible refine gate_dst (N := 9) rfl ?_); refine box_event ?hg (N := 9) ?hd (cs := #[.slice A n c, .int .i64 to_, f]) (t := 99) ?hr ?_; (case hd => rfl); (case hg => rfl); (case hr => first | (go_simp; done) | (go_simp; rfl)); intro gb9 hg w9 hbox hb; have HB := Aside0.mk hb; clear hb hg hbox))
  go_ret
  exact ⟨rfl, HB.out⟩
theorem nil_hold (id : Int) : Calls Tryd.prog 27 #[.pointer none, .int .u32 id] W (NilP W) := by
  go_enter Tryd.func27, Tryd.ntmps27
  go_wp2_with (first | ((with_reducible refine gate_dst (N := 7) rfl ?_); refine Kd.R_lit (Kd.int .i64) _ 3 ?hg (N := 7) ?hd (xs := [1]) (inner := [.int .i64 1]) (ok := fun _ => True) (okp := fun _ => True) ?hr ?hp (fun _ hk => hk) trivial (Below.refl _ _) (Nat.le_refl _) (by simp) ?_; (case hd => rfl); (case hg => rfl); (case hr => first | (go_simp; done) | (go_simp; rfl)); (case hp => exact Kd.reps_scalar [1]); intro v w3 ho hb hg_ hnew_; obtain ⟨Af, cf, rfl, hcf, hC⟩ := Kd.R_reads ho; have HO := Aside0.mk ho; clear hg_ hnew_ ho; have HC := Aside0.mk hC; have HF := Aside0.mk hcf; have HB := Aside0.mk hb; clear hC hcf hb) | (go_at_call 37; refine (nil_goes _ _ _ _ _ _ _ _).mono ?_; rintro e w5 ⟨rfl, hb⟩; have HB2 := Aside0.mk hb; clear hb))
  go_ret
  exact ⟨rfl, below_step HB.out HB2.out⟩
theorem nil_release (id : Int) (now : Int) : Calls Tryd.prog 28 #[.pointer none, .int .u32 id, .int .i64 now] W (NilP W) := by
  go_enter Tryd.func28, Tryd.ntmps28
  go_wp2_with (first | ((with_reducible refine gate_dst (N := 10) rfl ?_); refine Kd.R_lit (Kd.int .i64) _ 3 ?hg (N := 10) ?hd (xs := [2]) (inner := [.int .i64 2]) (ok := fun _ => True) (okp := fun _ => True) ?hr ?hp (fun _ hk => hk) trivial (Below.refl _ _) (Nat.le_refl _) (by simp) ?_; (case hd => rfl); (case hg => rfl); (case hr => first | (go_simp; done) | (go_simp; rfl)); (case hp => exact Kd.reps_scalar [2]); intro v w3 ho hb hg_ hnew_; obtain ⟨Af, cf, rfl, hcf, hC⟩ := Kd.R_reads ho; have HO := Aside0.mk ho; clear hg_ hnew_ ho; have HC := Aside0.mk hC; have HF := Aside0.mk hcf; have HB := Aside0.mk hb; clear hC hcf hb) | (go_at_call 37; refine (nil_goes _ _ _ _ _ _ _ _).mono ?_; rintro e w5 ⟨rfl, hb⟩; have HB2 := Aside0.mk hb; clear hb))
  go_ret
  exact ⟨rfl, below_step HB.out HB2.out⟩
theorem nil_suspend (id : Int) (now : Int) : Calls Tryd.prog 17 #[.pointer none, .int .u32 id, .int .i64 now] W (NilP W) := by
  go_enter Tryd.func17, Tryd.ntmps17
  go_wp2_with (first | ((with_reducible refine gate_dst (N := 10) rfl ?_); refine Kd.R_lit (Kd.int .i64) _ 3 ?hg (N := 10) ?hd (xs := [3]) (inner := [.int .i64 3]) (ok := fun _ => True) (okp := fun _ => True) ?hr ?hp (fun _ hk => hk) trivial (Below.refl _ _) (Nat.le_refl _) (by simp) ?_; (case hd => rfl); (case hg => rfl); (case hr => first | (go_simp; done) | (go_simp; rfl)); (case hp => exact Kd.reps_scalar [3]); intro v w3 ho hb hg_ hnew_; obtain ⟨Af, cf, rfl, hcf, hC⟩ := Kd.R_reads ho; have HO := Aside0.mk ho; clear hg_ hnew_ ho; have HC := Aside0.mk hC; have HF := Aside0.mk hcf; have HB := Aside0.mk hb; clear hC hcf hb) | (go_at_call 37; refine (nil_goes _ _ _ _ _ _ _ _).mono ?_; rintro e w5 ⟨rfl, hb⟩; have HB2 := Aside0.mk hb; clear hb))
  go_ret
  exact ⟨rfl, below_step HB.out HB2.out⟩
theorem nil_resume (id : Int) (now : Int) : Calls Tryd.prog 18 #[.pointer none, .int .u32 id, .int .i64 now] W (NilP W) := by
  go_enter Tryd.func18, Tryd.ntmps18
  go_wp2_with (first | ((with_reducible refine gate_dst (N := 10) rfl ?_); refine Kd.R_lit (Kd.int .i64) _ 3 ?hg (N := 10) ?hd (xs := [4]) (inner := [.int .i64 4]) (ok := fun _ => True) (okp := fun _ => True) ?hr ?hp (fun _ hk => hk) trivial (Below.refl _ _) (Nat.le_refl _) (by simp) ?_; (case hd => rfl); (case hg => rfl); (case hr => first | (go_simp; done) | (go_simp; rfl)); (case hp => exact Kd.reps_scalar [4]); intro v w3 ho hb hg_ hnew_; obtain ⟨Af, cf, rfl, hcf, hC⟩ := Kd.R_reads ho; have HO := Aside0.mk ho; clear hg_ hnew_ ho; have HC := Aside0.mk hC; have HF := Aside0.mk hcf; have HB := Aside0.mk hb; clear hC hcf hb) | (go_at_call 37; refine (nil_goes _ _ _ _ _ _ _ _).mono ?_; rintro e w5 ⟨rfl, hb⟩; have HB2 := Aside0.mk hb; clear hb))
  go_ret
  exact ⟨rfl, below_step HB.out HB2.out⟩
theorem nil_never (id : Int) : Calls Tryd.prog 29 #[.pointer none, .int .u32 id] W (NilP W) := by
  go_enter Tryd.func29, Tryd.ntmps29
  go_wp2_with (first | ((with_reducible refine gate_dst (N := 7) rfl ?_); refine Kd.R_lit (Kd.int .i64) _ 3 ?hg (N := 7) ?hd (xs := [1, 2]) (inner := [.int .i64 1, .int .i64 2]) (ok := fun _ => True) (okp := fun _ => True) ?hr ?hp (fun _ hk => hk) trivial (Below.refl _ _) (Nat.le_refl _) (by simp) ?_; (case hd => rfl); (case hg => rfl); (case hr => first | (go_simp; done) | (go_simp; rfl)); (case hp => exact Kd.reps_scalar [1, 2]); intro v w3 ho hb hg_ hnew_; obtain ⟨Af, cf, rfl, hcf, hC⟩ := Kd.R_reads ho; have HO := Aside0.mk ho; clear hg_ hnew_ ho; have HC := Aside0.mk hC; have HF := Aside0.mk hcf; have HB := Aside0.mk hb; clear hC hcf hb) | (go_at_call 37; refine (nil_goes _ _ _ _ _ _ _ _).mono ?_; rintro e w5 ⟨rfl, hb⟩; have HB2 := Aside0.mk hb; clear hb))
  go_ret
  exact ⟨rfl, below_step HB.out HB2.out⟩
theorem nil_end (id : Int) (now : Int) : Calls Tryd.prog 13 #[.pointer none, .int .u32 id, .int .i64 now, .int .i64 5] W (NilP W) := by
  go_enter Tryd.func13, Tryd.ntmps13
  go_wp2_with (first | ((with_reducible refine gate_dst (N := 10) rfl ?_); refine Kd.R_lit (Kd.int .i64) _ 3 ?hg (N := 10) ?hd (xs := [3, 4]) (inner := [.int .i64 3, .int .i64 4]) (ok := fun _ => True) (okp := fun _ => True) ?hr ?hp (fun _ hk => hk) trivial (Below.refl _ _) (Nat.le_refl _) (by simp) ?_; (case hd => rfl); (case hg => rfl); (case hr => first | (go_simp; done) | (go_simp; rfl)); (case hp => exact Kd.reps_scalar [3, 4]); intro v w3 ho hb hg_ hnew_; obtain ⟨Af, cf, rfl, hcf, hC⟩ := Kd.R_reads ho; have HO := Aside0.mk ho; clear hg_ hnew_ ho; have HC := Aside0.mk hC; have HF := Aside0.mk hcf; have HB := Aside0.mk hb; clear hC hcf hb) | (go_at_call 37; refine (nil_goes _ _ _ _ _ _ _ _).mono ?_; rintro e w5 ⟨rfl, hb⟩; have HB2 := Aside0.mk hb; clear hb))
  go_ret
  exact ⟨rfl, below_step HB.out HB2.out⟩
theorem nil_requeue (id : Int) (now : Int) : Calls Tryd.prog 20 #[.pointer none, .int .u32 id, .int .i64 now] W (NilP W) := by
  go_enter Tryd.func20, Tryd.ntmps20
  go_wp2_with (first | ((with_reducible refine gate_dst (N := 9) rfl ?_); refine Kd.R_lit (Kd.int .i64) _ 3 ?hg (N := 9) ?hd (xs := [3, 4]) (inner := [.int .i64 3, .int .i64 4]) (ok := fun _ => True) (okp := fun _ => True) ?hr ?hp (fun _ hk => hk) trivial (Below.refl _ _) (Nat.le_refl _) (by simp) ?_; (case hd => rfl); (case hg => rfl); (case hr => first | (go_simp; done) | (go_simp; rfl)); (case hp => exact Kd.reps_scalar [3, 4]); intro v w3 ho hb hg_ hnew_; obtain ⟨Af, cf, rfl, hcf, hC⟩ := Kd.R_reads ho; have HO := Aside0.mk ho; clear hg_ hnew_ ho; have HC := Aside0.mk hC; have HF := Aside0.mk hcf; have HB := Aside0.mk hb; clear hC hcf hb) | (go_at_call 37; refine (nil_goes _ _ _ _ _ _ _ _).mono ?_; rintro e w5 ⟨rfl, hb⟩; have HB2 := Aside0.mk hb; clear hb))
  go_ret
  exact ⟨rfl, below_step HB.out HB2.out⟩
theorem nil_start (id now b0 b1 : Int) : Calls Tryd.prog 16 #[.pointer none, .int .u32 id, .int .i64 now, .agg #[.int .i64 b0, .int .i64 b1]] W (NilP W) := by
  go_enter Tryd.func16, Tryd.ntmps16
  go_wp2_with (first | ((with_reducible refine gate_dst (N := 7) rfl ?_); refine box_event ?hg (N := 7) ?hd (cs := #[.int .i64 b0, .int .i64 b1]) (t := 55) ?hr ?_; (case hd => rfl); (case hg => rfl); (case hr => first | (go_simp; done) | (go_simp; rfl)); intro gb7 hg w7 hbox hb; have HB0 := Aside0.mk hb; clear hb hg hbox) | ((with_reducible refine gate_dst (N := 54) rfl ?_); refine Kd.R_lit (Kd.int .i64) _ 3 ?hg (N := 54) ?hd (xs := [1]) (inner := [.int .i64 1]) (ok := fun _ => True) (okp := fun _ => True) ?hr ?hp (fun _ hk => hk) trivial (Below.refl _ _) (Nat.le_refl _) (by simp) ?_; (case hd => rfl); (case hg => rfl); (case hr => first | (go_simp; done) | (go_simp; rfl)); (case hp => exact Kd.reps_scalar [1]); intro v w3 ho hb hg_ hnew_; obtain ⟨Af, cf, rfl, hcf, hC⟩ := Kd.R_reads ho; have HO := Aside0.mk ho; clear hg_ hnew_ ho; have HC := Aside0.mk hC; have HF := Aside0.mk hcf; have HB := Aside0.mk hb; clear hC hcf hb) | (go_at_call 37; refine (nil_goes _ _ _ _ _ _ _ _).mono ?_; rintro e w5 ⟨rfl, hb⟩; have HB2 := Aside0.mk hb; clear hb))
  go_ret
  exact ⟨rfl, below_step (below_step HB0.out HB.out) HB2.out⟩
theorem nil_len : Calls Tryd.prog 14 #[.pointer none] W fun e w' => e = .returned (.int .i64 0) ∧ w' = W := by
  go_enter Tryd.func14, Tryd.ntmps14
  go_wp2
  go_ret
  exact ⟨rfl, rfl⟩
theorem nil_list (how : Int) : Calls Tryd.prog 30 #[.pointer none, .int .i64 how] W fun e w' => e = .returned (.slice none 0 0) ∧ w' = W := by
  go_enter Tryd.func30, Tryd.ntmps30
  go_wp2
  go_ret
  exact ⟨rfl, rfl⟩
theorem nil_get (id : Int) : Calls Tryd.prog 19 #[.pointer none, .int .u32 id] W fun e w' => e = .returned (.tuple #[.agg #[.int .u32 0, .int .u32 0, .int .i64 0, .string ⟨#[]⟩, .string ⟨#[]⟩, .string ⟨#[]⟩, .string ⟨#[]⟩, .int .i64 0, .int .i64 0, .slice none 0 0, .int .i64 0, .bool false, .slice none 0 0, .int .i64 0, .int .i64 0, .bool false, .bool false, .string ⟨#[]⟩, .int .i64 0, .int .i64 0, .int .i64 0, .int .i64 0, .int .i64 0, .int .i64 0, .int .i64 0, .int .i64 0], .bool false]) ∧ Below W.heap.size W w' := by
  have hu58 := Tryd.underlying58
  go_enter Tryd.func19, Tryd.ntmps19
  go_wp2_with (first | ((with_reducible refine gate_dst (N := 4) rfl ?_); refine box_event ?hg (N := 4) ?hd (cs := #[.int .u32 0, .int .u32 0, .int .i64 0, .string ⟨#[]⟩, .string ⟨#[]⟩, .string ⟨#[]⟩, .string ⟨#[]⟩, .int .i64 0, .int .i64 0, .slice none 0 0, .int .i64 0, .bool false, .slice none 0 0, .int .i64 0, .int .i64 0, .bool false, .bool false, .string ⟨#[]⟩, .int .i64 0, .int .i64 0, .int .i64 0, .int .i64 0, .int .i64 0, .int .i64 0, .int .i64 0, .int .i64 0]) (t := 58) ?hr ?_; (case hd => rfl); (case hg => rfl); (case hr => first | (go_simp; done) | (go_simp; rfl)); intro gb4 hg w4 hbox hb; have KX := Aside0.mk hbox; have HB := Aside0.mk hb; have GX := Aside0.mk (show W.heap.size ≤ gb4 by rw [hg]; exact Nat.le_refl _); clear hb hg hbox) | ((with_reducible refine gate_ (.store 58 (.tmp 4) (.tmp 15)) rfl ?_); refine agg_store rfl rfl rfl (g := gb4) (off := 0) (u := .agg #[.int .u32 0, .int .u32 0, .int .i64 0, .string ⟨#[]⟩, .string ⟨#[]⟩, .string ⟨#[]⟩, .string ⟨#[]⟩, .int .i64 0, .int .i64 0, .slice none 0 0, .int .i64 0, .bool false, .slice none 0 0, .int .i64 0, .int .i64 0, .bool false, .bool false, .string ⟨#[]⟩, .int .i64 0, .int .i64 0, .int .i64 0, .int .i64 0, .int .i64 0, .int .i64 0, .int .i64 0, .int .i64 0]) rfl rfl info58s KX.out [.int .u32 0, .int .u32 0, .int .i64 0, .string ⟨#[]⟩, .string ⟨#[]⟩, .string ⟨#[]⟩, .string ⟨#[]⟩, .int .i64 0, .int .i64 0, .slice none 0 0, .int .i64 0, .bool false, .slice none 0 0, .int .i64 0, .int .i64 0, .bool false, .bool false, .string ⟨#[]⟩, .int .i64 0, .int .i64 0, .int .i64 0, .int .i64 0, .int .i64 0, .int .i64 0, .int .i64 0, .int .i64 0] rfl rfl (by simp) (by simp [Value.oneCell']) #[.int .u32 0, .int .u32 0, .int .i64 0, .string ⟨#[]⟩, .string ⟨#[]⟩, .string ⟨#[]⟩, .string ⟨#[]⟩, .int .i64 0, .int .i64 0, .slice none 0 0, .int .i64 0, .bool false, .slice none 0 0, .int .i64 0, .int .i64 0, .bool false, .bool false, .string ⟨#[]⟩, .int .i64 0, .int .i64 0, .int .i64 0, .int .i64 0, .int .i64 0, .int .i64 0, .int .i64 0, .int .i64 0] rfl ?_; intro w15 hX hO; have n0_ := Aside0.mk (hO.below HB.out GX.out); have n1_ := Aside0.mk (hX); (try clear HB); (try clear KX); have HB := n0_; clear n0_; have KX := n1_; clear n1_; clear hX hO))
  refine bodyPost_ret (results_list rfl (by simp) (Vals.cell gb4 58 _ _ _ rfl KX.out hu58 rfl info58s (Vals.tmp Vals.nil))) rfl ?_
  exact ⟨rfl, HB.out⟩
theorem nil_submit_ (now : Int) (A6 : Option Addr) (c6 : Nat) (A9 : Option Addr) (c9 : Nat) (s : S41) : Calls Tryd.prog 12 #[.pointer none, .agg #[.string s.f0, .string s.f1, .string s.f2, .string s.f3, .int .i64 s.f4, .int .i64 s.f5, .slice A6 s.f6.f0.length c6, .int .i64 s.f6.f1, .bool s.f7.f0, .slice A9 s.f7.f1.length c9, .int .i64 s.f8, .int .i64 s.f9, .bool s.f10, .bool s.f11, .string s.f12], .int .i64 now] W fun e w' => e = .returned (.tuple #[.slice none 0 0, .int .i64 1]) ∧ Below W.heap.size W w' := by
  go_enter Tryd.func12, Tryd.ntmps12
  go_wp2_with (first | ((with_reducible refine gate_dst (N := 4) rfl ?_); refine box_event ?hg (N := 4) ?hd (cs := #[.string s.f0, .string s.f1, .string s.f2, .string s.f3, .int .i64 s.f4, .int .i64 s.f5, .slice A6 s.f6.f0.length c6, .int .i64 s.f6.f1, .bool s.f7.f0, .slice A9 s.f7.f1.length c9, .int .i64 s.f8, .int .i64 s.f9, .bool s.f10, .bool s.f11, .string s.f12]) (t := 41) ?hr ?_; (case hd => rfl); (case hg => rfl); (case hr => first | (go_simp; done) | (go_simp; rfl)); intro gb4 hg w4 hbox hb; have HB := Aside0.mk hb; clear hb hg hbox))
  go_ret2
  exact ⟨rfl, HB.out⟩
theorem list_empty {B t : Nat} {M : Nat → Prop} {x : Cg} (how : Int) (c : Tb W B M t x []) : Calls Tryd.prog 30 #[.pointer (some ⟨t, 0, none⟩), .int .i64 how] W fun e w' => e = .returned (.slice none 0 0) ∧ Below W.heap.size W w' := by
  have hu83 := Tryd.underlying83
  have hu58 := Tryd.underlying58
  obtain ⟨Aj, cj, c⟩ := c
  have z : W.cell? ⟨t, 12, none⟩ = some (.slice Aj 0 cj) := (Tab.cell c 12).trans rfl
  clear c
  go_enter Tryd.func30, Tryd.ntmps30
  go_wp2
  go_loopg [5, 15] 1 (fun gk s5 s15 wr => s15 = .int .i64 0 ∧ s5 = .slice none 0 0 ∧ Aside0 (Below W.heap.size W wr))
  case atStart => exact ⟨rfl, rfl, ⟨Below.refl _ _⟩⟩
  case round =>
    obtain ⟨rfl, rfl, HB⟩ := hrel
    go_wp2
    go_ret
    exact ⟨rfl, HB.out⟩
theorem chk_zero : conf_Check.f 10 0 0 0 0 0 0 0 0 0 [] [] [] = some 100 := by decide +kernel
theorem new_zero (hG : Glob W) : Calls Tryd.prog 9 #[.agg #[.int .i64 0, .int .i64 0, .int .i64 0, .int .i64 0, .int .i64 0, .int .i64 0, .int .i64 0, .int .i64 0, .int .i64 0, .slice none 0 0, .slice none 0 0, .slice none 0 0]] W fun e w' => e = .returned (.tuple #[.pointer none, .int .i64 100]) ∧ Below W.heap.size W w' := by
  have hu32 := Tryd.underlying32
  have HG := Aside0.mk hG
  have HK := Aside0.mk chk_zero
  clear hG
  go_enter Tryd.func9, Tryd.ntmps9
  go_wp2_with (first | ((with_reducible refine gate_dst (N := 1) rfl ?_); refine box_event ?hg (N := 1) ?hd (cs := #[.int .i64 0, .int .i64 0, .int .i64 0, .int .i64 0, .int .i64 0, .int .i64 0, .int .i64 0, .int .i64 0, .int .i64 0, .slice none 0 0, .slice none 0 0, .slice none 0 0]) (t := 32) ?hr ?_; (case hd => rfl); (case hg => rfl); (case hr => first | (go_simp; done) | (go_simp; rfl)); intro gb1 hg w1 hbox hb; have KX := Aside0.mk hbox; have HB := Aside0.mk hb; clear hb hg hbox) | ((with_reducible refine gate_ (.load 32 (.tmp 1)) rfl ?_); refine agg_load rfl (N := 5) rfl rfl Tryd.underlying32 info32s (g := gb1) (off := 0) rfl [.int .i64 0, .int .i64 0, .int .i64 0, .int .i64 0, .int .i64 0, .int .i64 0, .int .i64 0, .int .i64 0, .int .i64 0, .slice none 0 0, .slice none 0 0, .slice none 0 0] rfl (blk_seg KX.out 0 12 rfl) ?_) | (go_at_call 31; (refine (conf_Check.calls 10 0 0 0 0 0 0 0 0 0 none 0 [] none 0 [] none 0 [] 100 _ (Glob.below HG.out HB.out) (C_zero _ _ _) (Nat.le_refl _) (C_zero _ _ _) (Nat.le_refl _) (C_zero _ _ _) (Nat.le_refl _) HK.out).mono ?_); rintro e w2 ⟨rfl, hb⟩; have n0_ := Aside0.mk (below_step HB.out hb); (try clear HB); have HB := n0_; clear n0_; clear hb))
  go_ret2
  exact ⟨rfl, HB.out⟩
/-- another table's doings leave this one -/
theorem Tb_keep {W W1 : World} {B u : Nat} {M MU : Nat → Prop} {x : Cg} {L : List S58} (h : KeepM M W W1) (c : Tb W B MU u x L) (hd : ∀ k, MU k → ¬ M k) : Tb W1 B MU u x L := by
  obtain ⟨Aj, cj, c⟩ := c
  exact ⟨Aj, cj, Tab.keep c (fun k hk hl => h.block k hl (hd k hk))⟩
theorem nsz : szS (spc nmMain nmNormal 1 50 []) := spc_sz _ _ _ _ _ (by decide +kernel) (by decide +kernel) (by decide)
set_option maxHeartbeats 16000000 in
set_option maxRecDepth 100000 in
theorem nil_law (l : List S70) (A : Option Addr) (cl : Nat) (s : S41) (A6 : Option Addr) (c6 : Nat) (A9 : Option Addr) (c9 : Nat) (hC : Kd.C k70 W A l.length l) (hs : ∀ a ∈ l, szA a) (hG : Glob W) :
    Calls Tryd.prog 8 #[.slice A l.length cl, .agg #[.string s.f0, .string s.f1, .string s.f2, .string s.f3, .int .i64 s.f4, .int .i64 s.f5, .slice A6 s.f6.f0.length c6, .int .i64 s.f6.f1, .bool s.f7.f0, .slice A9 s.f7.f1.length c9, .int .i64 s.f8, .int .i64 s.f9, .bool s.f10, .bool s.f11, .string s.f12]] W (KnownPost W) := by
  have hu41 := Tryd.underlying41
  have hu58 := Tryd.underlying58
  have HC := Aside0.mk hC
  have HS := Aside0.mk hs
  have HG := Aside0.mk hG
  clear hC hs hG
  go_enter Tryd.func8, Tryd.ntmps8
  go_upto_if 17 with (first | ((with_reducible refine gate_dst (N := 3) rfl ?_); refine box_event ?hg (N := 3) ?hd (cs := #[.string s.f0, .string s.f1, .string s.f2, .string s.f3, .int .i64 s.f4, .int .i64 s.f5, .slice A6 s.f6.f0.length c6, .int .i64 s.f6.f1, .bool s.f7.f0, .slice A9 s.f7.f1.length c9, .int .i64 s.f8, .int .i64 s.f9, .bool s.f10, .bool s.f11, .string s.f12]) (t := 41) ?hr ?_; (case hd => rfl); (case hg => rfl); (case hr => first | (go_simp; done) | (go_simp; rfl)); intro gb3 hg w3 hbox hb; have HB := Aside0.mk hb; clear hb hg hbox) | (go_at_call 22; refine (long_at l A cl (Kd.C_below HC.out HB.out)).mono ?_; rintro e w3 ⟨bl, rfl, hb⟩; have n0_ := Aside0.mk (below_step HB.out hb); (try clear HB); have HB := n0_; clear n0_; clear hb))
  cases bl with
  | true =>
    go_wp2_with (first | (go_at_call 15; refine (known_at (Glob.below HG.out HB.out)).mono ?_; rintro e w40 ⟨rfl, hb⟩; have HBK := Aside0.mk (below_step HB.out hb); clear hb))
    go_ret
    exact ⟨rfl, HBK.out⟩
  | false =>
    go_upto_region 7 with (first | (go_at_call 11; refine (gangerlaw13_spec.calls (1) _ _ _ _ _ _ _ _ _ _ _ _ _ _ _ _ rfl).mono ?_; rintro e wp ⟨v6_, v9_, rfl, r6, r9, hb⟩; obtain ⟨Ap6, cp6, rfl⟩ := Kd.R_slice r6; obtain ⟨Ap9, cp9, rfl⟩ := Kd.R_slice (Kd.S_R r9); have n0_ := Aside0.mk (below_step HB.out hb); (try clear HB); have HB := n0_; clear n0_; clear r6 r9 hb) | (go_at_call 12; refine (nil_submit_ 0 Ap6 cp6 Ap9 cp9 (spc nmMain nmNormal 1 50 [])).mono ?_; rintro e w5 ⟨rfl, hb⟩; have n0_ := Aside0.mk (below_step HB.out hb); (try clear HB); have HB := n0_; clear n0_; clear hb) | (go_at_call 19; refine (nil_get 1).mono ?_; rintro e w6 ⟨rfl, hb⟩; have n0_ := Aside0.mk (below_step HB.out hb); (try clear HB); have HB := n0_; clear n0_; clear hb) | ((with_reducible refine gate_dst (N := 8) rfl ?_); refine box_event ?hg (N := 8) ?hd (cs := #[.int .u32 0, .int .u32 0, .int .i64 0, .string ⟨#[]⟩, .string ⟨#[]⟩, .string ⟨#[]⟩, .string ⟨#[]⟩, .int .i64 0, .int .i64 0, .slice none 0 0, .int .i64 0, .bool false, .slice none 0 0, .int .i64 0, .int .i64 0, .bool false, .bool false, .string ⟨#[]⟩, .int .i64 0, .int .i64 0, .int .i64 0, .int .i64 0, .int .i64 0, .int .i64 0, .int .i64 0, .int .i64 0]) (t := 58) ?hr ?_; (case hd => rfl); (case hg => rfl); (case hr => first | (go_simp; done) | (go_simp; rfl)); intro gb8 hg w8 hbox hb; have KX := Aside0.mk hbox; have GX := Aside0.mk (show W.heap.size ≤ gb8 by rw [hg]; exact below_size HB.out); have n0_ := Aside0.mk (below_step HB.out hb); (try clear HB); have HB := n0_; clear n0_; clear hb hg hbox) | ((with_reducible refine gate_ (.store 58 (.tmp 8) (.tmp 28)) rfl ?_); refine agg_store rfl rfl rfl (g := gb8) (off := 0) (u := .agg #[.int .u32 0, .int .u32 0, .int .i64 0, .string ⟨#[]⟩, .string ⟨#[]⟩, .string ⟨#[]⟩, .string ⟨#[]⟩, .int .i64 0, .int .i64 0, .slice none 0 0, .int .i64 0, .bool false, .slice none 0 0, .int .i64 0, .int .i64 0, .bool false, .bool false, .string ⟨#[]⟩, .int .i64 0, .int .i64 0, .int .i64 0, .int .i64 0, .int .i64 0, .int .i64 0, .int .i64 0, .int .i64 0]) rfl rfl info58s KX.out [.int .u32 0, .int .u32 0, .int .i64 0, .string ⟨#[]⟩, .string ⟨#[]⟩, .string ⟨#[]⟩, .string ⟨#[]⟩, .int .i64 0, .int .i64 0, .slice none 0 0, .int .i64 0, .bool false, .slice none 0 0, .int .i64 0, .int .i64 0, .bool false, .bool false, .string ⟨#[]⟩, .int .i64 0, .int .i64 0, .int .i64 0, .int .i64 0, .int .i64 0, .int .i64 0, .int .i64 0, .int .i64 0] rfl rfl (by simp) (by simp [Value.oneCell']) #[.int .u32 0, .int .u32 0, .int .i64 0, .string ⟨#[]⟩, .string ⟨#[]⟩, .string ⟨#[]⟩, .string ⟨#[]⟩, .int .i64 0, .int .i64 0, .slice none 0 0, .int .i64 0, .bool false, .slice none 0 0, .int .i64 0, .int .i64 0, .bool false, .bool false, .string ⟨#[]⟩, .int .i64 0, .int .i64 0, .int .i64 0, .int .i64 0, .int .i64 0, .int .i64 0, .int .i64 0, .int .i64 0] rfl ?_; intro w18 hX hO; have n0_ := Aside0.mk (hO.below HB.out GX.out); (try clear HB); have HB := n0_; clear n0_; clear hX hO) | (go_at_call 27; refine (nil_hold 1).mono ?_; rintro e w20 ⟨rfl, hb⟩; have n0_ := Aside0.mk (below_step HB.out hb); (try clear HB); have HB := n0_; clear n0_; clear hb) | (go_at_call 28; refine (nil_release 1 0).mono ?_; rintro e w20 ⟨rfl, hb⟩; have n0_ := Aside0.mk (below_step HB.out hb); (try clear HB); have HB := n0_; clear n0_; clear hb) | (go_at_call 16; refine (nil_start 1 0 0 0).mono ?_; rintro e w20 ⟨rfl, hb⟩; have n0_ := Aside0.mk (below_step HB.out hb); (try clear HB); have HB := n0_; clear n0_; clear hb) | (go_at_call 17; refine (nil_suspend 1 0).mono ?_; rintro e w20 ⟨rfl, hb⟩; have n0_ := Aside0.mk (below_step HB.out hb); (try clear HB); have HB := n0_; clear n0_; clear hb) | (go_at_call 18; refine (nil_resume 1 0).mono ?_; rintro e w20 ⟨rfl, hb⟩; have n0_ := Aside0.mk (below_step HB.out hb); (try clear HB); have HB := n0_; clear n0_; clear hb) | (go_at_call 13; refine (nil_end 1 0).mono ?_; rintro e w20 ⟨rfl, hb⟩; have n0_ := Aside0.mk (below_step HB.out hb); (try clear HB); have HB := n0_; clear n0_; clear hb) | (go_at_call 20; refine (nil_requeue 1 0).mono ?_; rintro e w20 ⟨rfl, hb⟩; have n0_ := Aside0.mk (below_step HB.out hb); (try clear HB); have HB := n0_; clear n0_; clear hb) | (go_at_call 29; refine (nil_never 1).mono ?_; rintro e w20 ⟨rfl, hb⟩; have n0_ := Aside0.mk (below_step HB.out hb); (try clear HB); have HB := n0_; clear n0_; clear hb) | (go_at_call 30; refine (nil_list 1).mono ?_; rintro e w30 ⟨rfl, hw⟩; have hw := hw.symm; subst hw) | (go_at_call 14; refine nil_len.mono ?_; rintro e w31 ⟨rfl, hw⟩; have hw := hw.symm; subst hw))
    go_upto_region 8 with (first | (go_at_call 10; refine (gangerlaw13_small.calls _ _ _ _ _ _ _ _ _ _ _ _ _ rfl).mono ?_; rintro e ws ⟨v9_, v10_, v11_, rfl, r9, r10, r11, hb⟩; obtain ⟨Bs9, ds9, rfl⟩ := Kd.R_slice r9; obtain ⟨Bs10, ds10, rfl⟩ := Kd.R_slice r10; obtain ⟨Bs11, ds11, rfl⟩ := Kd.R_slice r11; have RS9 := Aside0.mk (Kd.R_reads' r9).2; have RS10 := Aside0.mk (Kd.R_reads' r10).2; have RS11 := Aside0.mk (Kd.R_reads' r11).2; have HBS := Aside0.mk (below_step HB.out hb); clear r9 r10 r11 hb) | (go_at_call 9; refine (new_at 1 (by decide) (by decide) Bs9 ds9 Bs10 ds10 Bs11 ds11 (Glob.below HG.out HBS.out) RS9.out.2 RS9.out.1 RS10.out.2 RS10.out.1 RS11.out.2 RS11.out.1).mono ?_; rintro e wn ⟨u, xu, rfl, hX, hT, hb⟩; have TU := Aside0.mk hT; have HB1 := Aside0.mk (below_step HBS.out hb); clear hX hT hb))
    clear HBS RS9 RS10 RS11
    go_upto_region 11 with (first | (go_at_call 21; refine (table_at l A cl (Kd.C_below HC.out HB1.out) HS.out (Glob.below HG.out HB1.out)).mono ?_; rintro e w22 ⟨t, rfl, x, M, N, L, hX, hN, hI, hT, m0, m1, hb⟩; have SX := Aside0.mk hX; have NN := Aside0.mk hN; have II := Aside0.mk hI; have T := Aside0.mk hT; have M0 := Aside0.mk m0; have M1 := Aside0.mk m1; have HBT := Aside0.mk hb; have HB2 := Aside0.mk (below_step HB1.out hb); have DJ := Aside0.mk (show ∀ k, (ws.heap.size ≤ k ∧ k < wn.heap.size) → ¬ M k from fun k h q => by have := m0 k q; have := h.2; omega); have MW := Aside0.mk (show ∀ k, M k → W.heap.size ≤ k from fun k h => Nat.le_trans HB1.out.size (m0 k h)); have n0_ := Aside0.mk (TU.out.below hb); (try clear TU); have TU := n0_; clear n0_; clear hX hN hI hT m0 m1 hb))
    go_upto_region 12 with (first | (go_at_call 9; refine (new_zero (Glob.below HG.out HB2.out)).mono ?_; rintro e w23 ⟨rfl, hb⟩; have n0_ := Aside0.mk (below_step HB2.out hb); have n1_ := Aside0.mk (TU.out.below hb); have n2_ := Aside0.mk (T.out.below hb); have n3_ := Aside0.mk ((fun k h => Nat.lt_of_lt_of_le (M1.out k h) hb.size : ∀ k, M k → k < w23.heap.size)); (try clear HB2); (try clear TU); (try clear T); (try clear M1); have HB2 := n0_; clear n0_; have TU := n1_; clear n1_; have T := n2_; clear n2_; have M1 := n3_; clear n3_; clear hb))
    go_upto_region 13 with (first | (go_at_call 11; refine (gangerlaw13_spec.calls (1) _ _ _ _ _ _ _ _ _ _ _ _ _ _ _ _ rfl).mono ?_; rintro e wp ⟨v6_, v9_, rfl, r6, r9, hb⟩; obtain ⟨Ap6, cp6, rfl⟩ := Kd.R_slice r6; obtain ⟨Ap9, cp9, rfl⟩ := Kd.R_slice (Kd.S_R r9); have n0_ := Aside0.mk (below_step HB2.out hb); have n1_ := Aside0.mk (TU.out.below hb); have n2_ := Aside0.mk (T.out.below hb); have n3_ := Aside0.mk ((fun k h => Nat.lt_of_lt_of_le (M1.out k h) hb.size : ∀ k, M k → k < wp.heap.size)); (try clear HB2); (try clear TU); (try clear T); (try clear M1); have HB2 := n0_; clear n0_; have TU := n1_; clear n1_; have T := n2_; clear n2_; have M1 := n3_; clear n3_; clear r6 r9 hb) | (go_at_call 12; refine (submit_at (M := M) (spc nmMain nmNormal 1 50 []) nsz Ap6 cp6 Ap9 cp9 0 (Glob.below HG.out HB2.out) (fun w' h => C_zero _ _ _) (by show (0 : Nat) ≤ _; omega) (fun w' h => C_zero _ _ _) (by show (0 : Nat) ≤ _; omega) II.out.len M1.out T.out).mono ?_; rintro e w24 ⟨M2, Ao, co, o2, L2, q2, rfl, hS, hT, m1, m2, m3, hR, hK⟩; have n0_ := Aside0.mk (hK.below HB2.out MW.out); have n1_ := Aside0.mk (Tb_keep hK TU.out DJ.out); (try clear HB); (try clear TU); have HB := n0_; clear n0_; have TU := n1_; clear n1_; clear hS hT m1 m2 m3 hR hK))
    go_wp2_with (first | (go_at_call 14; obtain ⟨_, _, c14⟩ := TU.out; refine (len_at c14).mono ?_; rintro e w25 ⟨he, hw⟩; have hw := hw.symm; subst hw; subst he) | (go_at_call 30; refine (list_empty 1 TU.out).mono ?_; rintro e w26 ⟨rfl, hb⟩; have n0_ := Aside0.mk (below_step HB.out hb); (try clear HB); have HB := n0_; clear n0_; clear hb) | (go_at_call 15; refine (known_at (Glob.below HG.out HB.out)).mono ?_; rintro e w40 ⟨rfl, hb⟩; have HBK := Aside0.mk (below_step HB.out hb); clear hb))
    go_ret
    exact ⟨rfl, HBK.out⟩
end
end Go.Proofs.YtgkedamhicemiaaDoor.P
