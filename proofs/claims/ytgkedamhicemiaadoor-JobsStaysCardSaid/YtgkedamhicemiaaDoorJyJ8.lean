/- cut to what one law reaches -/
import Derived.Test.YtgkedamhicemiaaDoorJyJ7
import Derived.Test.YtgkedamhicemiaaDoorJyP3
namespace Go.Proofs.YtgkedamhicemiaaDoor.P
open Go.RowKit Go.Proofs.YtgkedamhicemiaaDoorW.PrintWords Go.Proofs.YtgkedamhicemiaaDoorW.PrintLast Go.Proofs.YtgkedamhicemiaaDoorW.PrintMore
attribute [local go_sem] max2_int min2_int max_two min_two max_three min_three max_four min_four
set_option linter.unusedVariables false
set_option linter.unusedSimpArgs false
attribute [local go_sem] isSome_setCell
def smP : List S85 := [⟨(⟨#[109, 97, 105, 110]⟩ : ByteArray), 3, 0, 100⟩, ⟨(⟨#[103, 112, 117]⟩ : ByteArray), 1, 0, 50⟩]
def smQ : List S87 := [⟨(⟨#[110, 111, 114, 109, 97, 108]⟩ : ByteArray), 0, 8⟩, ⟨(⟨#[104, 105, 103, 104]⟩ : ByteArray), 0, 2⟩]
def smA : List S89 := [⟨(⟨#[114, 111, 111, 116]⟩ : ByteArray), (⟨#[]⟩ : ByteArray), 1⟩, ⟨(⟨#[97, 110, 110]⟩ : ByteArray), (⟨#[114, 111, 111, 116]⟩ : ByteArray), 1⟩]
/-- the laws' own configuration, requeued so often -/
def SmX (rq : Int) (x : Cg) : Prop := x.h.f3 = rq ∧ x.P = smP ∧ x.Q = smQ ∧ x.A = smA
theorem chk_sm : ∀ m : Fin 4, conf_Check.f 10 1 9 5 ((m : Nat) : Int) 0 0 0 0 0 smP smQ smA = some 0 := by decide +kernel
theorem chk_ok (rq : Int) (h0 : 0 ≤ rq) (h1 : rq ≤ 3) : conf_Check.f 10 1 9 5 rq 0 0 0 0 0 smP smQ smA = some 0 := by
  have h := chk_sm ⟨rq.toNat, by omega⟩
  have e : ((rq.toNat : Nat) : Int) = rq := by omega
  simp only [e] at h
  exact h
/-- what New leaves -/
def NewPost (rq : Int) (W : World) (e : Ending) (w' : World) : Prop := ∃ (t : Nat) (x : Cg), e = .returned (.tuple #[.pointer (some ⟨t, 0, none⟩), .int .i64 0]) ∧ SmX rq x ∧ Tb w' W.heap.size (fun k => W.heap.size ≤ k ∧ k < w'.heap.size) t x [] ∧ Below W.heap.size W w'
theorem info32s : (Tryd.prog.info? 32).map (·.size) = some 12 := by kernel_rfl
section
variable {W W' : World}
set_option maxHeartbeats 4000000 in
set_option maxRecDepth 100000 in
theorem new_at (rq : Int) (q0 : 0 ≤ rq) (q1 : rq ≤ 3) (A9 : Option Addr) (c9 : Nat) (A10 : Option Addr) (c10 : Nat) (A11 : Option Addr) (c11 : Nat) (hG : Glob W) (h9 : Kd.C k85 W A9 smP.length smP) (hc9 : smP.length ≤ c9) (h10 : Kd.C k87 W A10 smQ.length smQ) (hc10 : smQ.length ≤ c10) (h11 : Kd.C k89 W A11 smA.length smA) (hc11 : smA.length ≤ c11) :
    Calls Tryd.prog 9 #[.agg #[.int .i64 1, .int .i64 9, .int .i64 5, .int .i64 rq, .int .i64 0, .int .i64 0, .int .i64 0, .int .i64 0, .int .i64 0, .slice A9 smP.length c9, .slice A10 smQ.length c10, .slice A11 smA.length c11]] W (NewPost rq W) := by
  have hu83 := Tryd.underlying83
  have hu32 := Tryd.underlying32
  have HG := Aside0.mk hG
  have G9 := Aside0.mk h9
  have G10 := Aside0.mk h10
  have G11 := Aside0.mk h11
  have H9 := Aside0.mk hc9
  have H10 := Aside0.mk hc10
  have H11 := Aside0.mk hc11
  have HK := Aside0.mk (chk_ok rq q0 q1)
  have HO : Aside0 (jobs_own.f 1 9 5 rq 0 0 0 0 0 smP smQ smA = some (1, 9, 5, rq, 0, 0, 0, 0, 0, smP, smQ, smA)) := ⟨rfl⟩
  clear hG h9 h10 h11 hc9 hc10 hc11 q0 q1
  go_enter Tryd.func9, Tryd.ntmps9
  go_wp2_with (first | ((with_reducible refine gate_dst (N := 1) rfl ?_); refine box_event ?hg (N := 1) ?hd (cs := #[.int .i64 1, .int .i64 9, .int .i64 5, .int .i64 rq, .int .i64 0, .int .i64 0, .int .i64 0, .int .i64 0, .int .i64 0, .slice A9 smP.length c9, .slice A10 smQ.length c10, .slice A11 smA.length c11]) (t := 32) ?hr ?_; (case hd => rfl); (case hg => rfl); (case hr => first | (go_simp; done) | (go_simp; rfl)); intro gb1 hg w1 hbox hb; have KX := Aside0.mk hbox; have HB := Aside0.mk hb; clear hb hg hbox) | ((with_reducible refine gate_ (.load 32 (.tmp 1)) rfl ?_); refine agg_load rfl (N := 5) rfl rfl Tryd.underlying32 info32s (g := gb1) (off := 0) rfl [.int .i64 1, .int .i64 9, .int .i64 5, .int .i64 rq, .int .i64 0, .int .i64 0, .int .i64 0, .int .i64 0, .int .i64 0, .slice A9 smP.length c9, .slice A10 smQ.length c10, .slice A11 smA.length c11] rfl (blk_seg KX.out 0 12 rfl) ?_) | (go_at_call 31; refine (conf_Check.calls 10 1 9 5 rq 0 0 0 0 0 A9 c9 smP A10 c10 smQ A11 c11 smA 0 _ (Glob.below HG.out HB.out) (Kd.C_below G9.out HB.out) H9.out (Kd.C_below G10.out HB.out) H10.out (Kd.C_below G11.out HB.out) H11.out HK.out).mono ?_; rintro e w2 ⟨rfl, hb⟩; have n0_ := Aside0.mk (below_step HB.out hb); have n1_ := Aside0.mk (blk_below KX.out hb); (try clear HB); (try clear KX); have HB := n0_; clear n0_; have KX := n1_; clear n1_; clear hb) | ((with_reducible refine gate_ (.load 32 (.tmp 1)) rfl ?_); refine agg_load rfl (N := 10) rfl rfl Tryd.underlying32 info32s (g := gb1) (off := 0) rfl [.int .i64 1, .int .i64 9, .int .i64 5, .int .i64 rq, .int .i64 0, .int .i64 0, .int .i64 0, .int .i64 0, .int .i64 0, .slice A9 smP.length c9, .slice A10 smQ.length c10, .slice A11 smA.length c11] rfl (blk_seg KX.out 0 12 rfl) ?_) | (go_at_call 32; refine (jobs_own.calls 1 9 5 rq 0 0 0 0 0 A9 c9 smP A10 c10 smQ A11 c11 smA _ _ _ _ _ _ _ _ _ _ _ _ _ (Kd.C_below G9.out HB.out) H9.out (Kd.C_below G10.out HB.out) H10.out (Kd.C_below G11.out HB.out) H11.out HO.out).mono ?_; rintro e w2 ⟨v9_, v10_, v11_, rfl, r9, r10, r11, hb⟩; obtain ⟨B9, d9, rfl⟩ := Kd.R_slice r9; obtain ⟨B10, d10, rfl⟩ := Kd.R_slice r10; obtain ⟨B11, d11, rfl⟩ := Kd.R_slice r11; have GW := Aside0.mk (below_size HB.out); have n0_ := Aside0.mk (below_step HB.out hb); (try clear HB); have HB := n0_; clear n0_; have R9 := Aside0.mk r9; have R10 := Aside0.mk r10; have R11 := Aside0.mk r11; clear r9 r10 r11 hb) | ((with_reducible refine gate_dst (N := 13) rfl ?_); refine box_event ?hg (N := 13) ?hd (cs := #[.int .i64 1, .int .i64 9, .int .i64 5, .int .i64 rq, .int .i64 0, .int .i64 0, .int .i64 0, .int .i64 0, .int .i64 0, .slice B9 smP.length d9, .slice B10 smQ.length d10, .slice B11 smA.length d11, .slice none 0 0]) (t := 83) ?hr ?_; (case hd => rfl); (case hg => rfl); (case hr => first | (go_simp; done) | (go_simp; rfl)); intro gbt hg wt hbox hb; have KT := Aside0.mk hbox; have GT := Aside0.mk (show W.heap.size ≤ gbt by rw [hg]; exact below_size HB.out); have HBT := Aside0.mk hb; have HB9 := Aside0.mk (below_step HB.out hb); clear hb hg hbox))
  go_ret2
  refine ⟨gbt, ⟨⟨1, 9, 5, rq, 0, 0, 0, 0, 0⟩, B9, d9, B10, d10, B11, d11, smP, smQ, smA⟩, rfl, ⟨rfl, rfl, rfl, rfl⟩, ⟨none, 0, ⟨fun k hk => hk.1, ⟨GT.out, blk_lt KT.out⟩, KT.out, ?_, ?_, ?_, Kd.R_nil _ _ _ _ _⟩⟩, HB9.out⟩
  · exact Kd.R_mono (Kd.R_bound (Kd.R_below (Kd.R_lower R9.out GW.out) HBT.out)) (fun k hk => ⟨hk.2.1, hk.2.2.1⟩)
  · exact Kd.R_mono (Kd.R_bound (Kd.R_below (Kd.R_lower R10.out GW.out) HBT.out)) (fun k hk => ⟨hk.2.1, hk.2.2.1⟩)
  · exact Kd.R_mono (Kd.R_bound (Kd.R_below (Kd.R_lower R11.out GW.out) HBT.out)) (fun k hk => ⟨hk.2.1, hk.2.2.1⟩)
end
end Go.Proofs.YtgkedamhicemiaaDoor.P
