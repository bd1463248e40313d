/- cut to what one law reaches -/
import Derived.Test.YtgkedamhicemiaaDoorJyJ3
import Derived.Test.YtgkedamhicemiaaDoorJyP5
import Derived.Test.YtgkedamhicemiaaDoorJyP4
import Derived.Test.YtgkedamhicemiaaDoorJyP2
namespace Go.Proofs.YtgkedamhicemiaaDoor.P
open Go.RowKit Go.Proofs.YtgkedamhicemiaaDoorW.PrintWords Go.Proofs.YtgkedamhicemiaaDoorW.PrintLast Go.Proofs.YtgkedamhicemiaaDoorW.PrintMore
attribute [local go_sem] max2_int min2_int max_two min_two max_three min_three max_four min_four
set_option linter.unusedVariables false
set_option linter.unusedSimpArgs false
attribute [local go_sem] isSome_setCell
theorem idx_l (l : List Int) (hl : l.length < 17592186044416) : ∀ n i (x : Int), n + i = l.length → ∃ r, indexes_Check.l0 (n + 1) x l (l.length : Int) (i : Int) = some r
  | 0, i, x, h => ⟨0, by unfold indexes_Check.l0; rw [if_neg (by omega)]⟩
  | n + 1, i, x, h => by
    have e2 : wrap64 ((i : Int) + 1) = ((i + 1 : Nat) : Int) := by unfold wrap64; omega
    unfold indexes_Check.l0
    rw [if_pos (by omega), if_pos (by omega), if_pos (by omega), e2]
    split
    · exact ⟨_, rfl⟩
    · split
      · exact ⟨_, rfl⟩
      · exact idx_l l hl n (i + 1) _ (by omega)
theorem idx_tot (l : List Int) (m : Int) (hl : l.length < 17592186044416) : ∃ r, indexes_Check.f (l.length + 2) l m = some r := by
  have h := idx_l l hl l.length 0 (-1) (by omega)
  have j : ∀ b, ∃ r, indexes_Check.j0 (l.length + 2) b l m = some r := by
    intro b
    unfold indexes_Check.j0
    cases b with
    | true => exact ⟨2, by simp⟩
    | false => simpa using h
  unfold indexes_Check.f
  split
  · exact j _
  · split
    · exact j _
    · exact j _
theorem has_l (l : List Int) (x : Int) (hl : l.length ≤ 20) : ∀ n i e, n + i = l.length → ∃ r, slices_Index_uint32_uint32.l0 (n + 1 + e) l x (l.length : Int) (i : Int) = some r
  | 0, i, e, h => ⟨-1, by rw [show 0 + 1 + e = e + 1 by omega, slices_Index_uint32_uint32.l0, if_neg (by omega)]⟩
  | n + 1, i, e, h => by
    have e2 : wrap64 ((i : Int) + 1) = ((i + 1 : Nat) : Int) := by unfold wrap64; omega
    rw [show n + 1 + 1 + e = (n + 1 + e) + 1 by omega, slices_Index_uint32_uint32.l0, if_pos (by omega), if_pos (by omega), if_pos (by omega), e2]
    split
    · exact ⟨_, rfl⟩
    · exact has_l l x hl n (i + 1) e (by omega)
theorem has_tot (l : List Int) (x : Int) (hl : l.length ≤ 20) (k : Nat) (hk : 21 ≤ k) : ∃ r, slices_Contains_uint32_uint32.f k l x = some r := by
  obtain ⟨r, hr⟩ := has_l l x hl l.length 0 (k - l.length - 1) (by omega)
  rw [show l.length + 1 + (k - l.length - 1) = k by omega] at hr
  have hr2 : slices_Index_uint32_uint32.f k l x = some r := hr
  exact ⟨_, by unfold slices_Contains_uint32_uint32.f; rw [hr2, Option.bind_some]⟩
theorem dep_l (l : List S105) (hl : l.length < 4398046511104) : ∀ n i, n + i = l.length → ∃ r, depend_Check.l0 (n + 23) l (l.length : Int) (i : Int) = some r
  | 0, i, h => ⟨0, by unfold depend_Check.l0; rw [if_neg (by omega)]⟩
  | n + 1, i, h => by
    have e2 : wrap64 ((i : Int) + 1) = ((i + 1 : Nat) : Int) := by unfold wrap64; omega
    rw [show n + 1 + 23 = (n + 23) + 1 by omega]
    unfold depend_Check.l0
    rw [if_pos (by omega), if_pos (by omega), if_pos (by omega), e2]
    split
    · exact ⟨_, rfl⟩
    split
    · exact ⟨_, rfl⟩
    split
    · exact ⟨_, rfl⟩
    split
    · exact ⟨_, rfl⟩
    rename_i h20
    obtain ⟨b, hb⟩ := has_tot (rd_T105 l (i : Int)).f1 0 (by omega) (n + 23) (by omega)
    rw [hb, Option.bind_some]
    split
    · exact ⟨_, rfl⟩
    · exact dep_l l hl n (i + 1) (by omega)
theorem dep_tot (b : Bool) (l : List S105) (hl : l.length < 4398046511104) : ∃ r, depend_Check.f (l.length + 24) b l = some r := by
  have h := dep_l l hl l.length 0 (by omega)
  have j : ∀ c, ∃ r, depend_Check.j0 (l.length + 24) c b l = some r := by
    intro c
    unfold depend_Check.j0
    cases c with
    | true => exact ⟨2, by simp⟩
    | false => simpa using h
  unfold depend_Check.f
  split
  · exact j _
  · split
    · exact j _
    · exact j _
theorem run_tot (s : ByteArray) : ∃ r, script_run.f s = some r := by
  unfold script_run.f strings_HasPrefix.f
  split
  · exact ⟨_, rfl⟩
  · exact ⟨_, rfl⟩
theorem name_tot (s : ByteArray) (h : s.size ≤ 140737488351232) : ∃ r, script_Name.f s = some r := ⟨_, by unfold script_Name.f; rw [if_pos h]⟩
theorem empty_tot (l : List Int) (m : Int) : ∃ r, script_empty.f l m = some r := by
  unfold script_empty.f
  split
  · exact ⟨_, rfl⟩
  · exact ⟨_, rfl⟩
/-- a spec of those that the laws' own are -/
structure GoodS (s : S41) : Prop where
  n0 : s.f0 = (⟨#[106]⟩ : ByteArray)
  n1 : s.f1 = (⟨#[97, 110, 110]⟩ : ByteArray)
  n2 : s.f2 = (⟨#[109, 97, 105, 110]⟩ : ByteArray) ∨ s.f2 = (⟨#[103, 112, 117]⟩ : ByteArray)
  n3 : s.f3 = (⟨#[110, 111, 114, 109, 97, 108]⟩ : ByteArray) ∨ s.f3 = (⟨#[104, 105, 103, 104]⟩ : ByteArray)
  a4 : 1 ≤ s.f4
  b4 : s.f4 ≤ 1024
  a5 : 1 ≤ s.f5
  b5 : s.f5 ≤ 1073741824
  l6 : s.f6.f0 = [] ∨ s.f6.f0 = [0, 1]
  m6 : s.f6.f1 = 0
  d7 : s.f7.f0 = false
  l7 : s.f7.f1 = []
  v8 : s.f8 = 0
  v9 : s.f9 = 0
  r12 : s.f12 = (⟨#[]⟩ : ByteArray)
theorem num_bad {s : S41} (g : GoodS s) : ¬ s.f9 < 0 ∧ ¬ 10000 < s.f8 ∧ ¬ s.f8 < -10000 ∧ ¬ 1073741824 < s.f5 ∧ ¬ s.f5 < 1 ∧ ¬ 1024 < s.f4 ∧ ¬ s.f4 < 1 := by
  have := g.a4; have := g.b4; have := g.a5; have := g.b5; have := g.v8; have := g.v9
  omega
/-- what script.Check may say -/
def ChkR (s : S41) (r : Int) : Prop := (r = 0 ∨ r = 90) ∧ (r = 0 → 1 ≤ s.f4 ∧ s.f4 ≤ 1024) ∧ (GoodS s → r = 0)
theorem name_g0 : script_Name.f (⟨#[106]⟩ : ByteArray) = some true := by decide +kernel
theorem name_g1 : script_Name.f (⟨#[97, 110, 110]⟩ : ByteArray) = some true := by decide +kernel
theorem name_g2 : script_Name.f (⟨#[109, 97, 105, 110]⟩ : ByteArray) = some true := by decide +kernel
theorem name_g3 : script_Name.f (⟨#[103, 112, 117]⟩ : ByteArray) = some true := by decide +kernel
theorem name_g4 : script_Name.f (⟨#[110, 111, 114, 109, 97, 108]⟩ : ByteArray) = some true := by decide +kernel
theorem name_g5 : script_Name.f (⟨#[104, 105, 103, 104]⟩ : ByteArray) = some true := by decide +kernel
theorem info36s : (Tryd.prog.info? 36).map (·.size) = some 2 := by kernel_rfl
theorem info39s : (Tryd.prog.info? 39).map (·.size) = some 2 := by kernel_rfl
set_option maxHeartbeats 4000000 in
set_option maxRecDepth 100000 in
theorem check_any (s : S41) (hs : szS s) (A6 : Option Addr) (c6 : Nat) (A9 : Option Addr) (c9 : Nat) (W : World) (hG : Glob W) (h6 : Kd.C (Kd.int .i64) W A6 s.f6.f0.length s.f6.f0) (hc6 : s.f6.f0.length ≤ c6) (h9 : Kd.C k105 W A9 s.f7.f1.length s.f7.f1) (hc9 : s.f7.f1.length ≤ c9) :
    Calls Tryd.prog 33 #[.agg #[.string s.f0, .string s.f1, .string s.f2, .string s.f3, .int .i64 s.f4, .int .i64 s.f5, .slice A6 s.f6.f0.length c6, .int .i64 s.f6.f1, .bool s.f7.f0, .slice A9 s.f7.f1.length c9, .int .i64 s.f8, .int .i64 s.f9, .bool s.f10, .bool s.f11, .string s.f12]] W fun e w' => ∃ r, e = .returned (.int .i64 r) ∧ ChkR s r ∧ Below W.heap.size W w' := by
  have hu41 := Tryd.underlying41
  have hu36 := Tryd.underlying36
  have hu39 := Tryd.underlying39
  obtain ⟨b0, h0⟩ := name_tot s.f0 hs.1
  obtain ⟨b1, h1⟩ := name_tot s.f1 hs.2.1
  obtain ⟨b2, h2⟩ := name_tot s.f2 hs.2.2.1
  obtain ⟨b3, h3⟩ := name_tot s.f3 hs.2.2.2.1
  obtain ⟨be, he⟩ := empty_tot s.f6.f0 s.f6.f1
  obtain ⟨ri, hi⟩ := idx_tot s.f6.f0 s.f6.f1 hs.2.2.2.2.1
  obtain ⟨rp, hp⟩ := dep_tot s.f7.f0 s.f7.f1 hs.2.2.2.2.2.1
  obtain ⟨br, hr⟩ := run_tot s.f12
  have n0 : GoodS s → b0 = true := fun g => by rw [g.n0, name_g0] at h0; exact (Option.some.inj h0).symm
  have n1 : GoodS s → b1 = true := fun g => by rw [g.n1, name_g1] at h1; exact (Option.some.inj h1).symm
  have n2 : GoodS s → b2 = true := fun g => by
    rcases g.n2 with e | e
    · rw [e, name_g2] at h2; exact (Option.some.inj h2).symm
    · rw [e, name_g3] at h2; exact (Option.some.inj h2).symm
  have n3 : GoodS s → b3 = true := fun g => by
    rcases g.n3 with e | e
    · rw [e, name_g4] at h3; exact (Option.some.inj h3).symm
    · rw [e, name_g5] at h3; exact (Option.some.inj h3).symm
  have nl : GoodS s → (be = true ∨ ri = 0) ∧ rp = 0 := fun g => by
    refine ⟨?_, ?_⟩
    · rcases g.l6 with e | e
      · rw [e, g.m6] at he; left; simp [script_empty.f] at he; exact he
      · rw [e, g.m6] at hi; right; have hz : indexes_Check.f 4 [0, 1] 0 = some 0 := by decide +kernel
        exact (Option.some.inj (hz.symm.trans hi)).symm
    · rw [g.l7, g.d7] at hp
      have hz : depend_Check.f 24 false [] = some 0 := by decide +kernel
      exact (Option.some.inj (hz.symm.trans hp)).symm
  have nr : GoodS s → br = true := fun g => by
    rw [g.r12] at hr
    have hz : script_run.f ⟨#[]⟩ = some true := by decide +kernel
    exact (Option.some.inj (hz.symm.trans hr)).symm
  have N0 := Aside0.mk n0
  have N1 := Aside0.mk n1
  have N2 := Aside0.mk n2
  have N3 := Aside0.mk n3
  have NL := Aside0.mk nl
  have NR := Aside0.mk nr
  have H0 := Aside0.mk h0
  have H1 := Aside0.mk h1
  have H2 := Aside0.mk h2
  have H3 := Aside0.mk h3
  have HE := Aside0.mk he
  have HI := Aside0.mk hi
  have HP := Aside0.mk hp
  have HR := Aside0.mk hr
  have HG := Aside0.mk hG
  have G6 := Aside0.mk h6
  have G9 := Aside0.mk h9
  have L6 := Aside0.mk hc6
  have L9 := Aside0.mk hc9
  clear n0 n1 n2 n3 nl nr h0 h1 h2 h3 he hi hp hr hG h6 h9 hc6 hc9 hs
  go_enter Tryd.func33, Tryd.ntmps33
  go_upto_region 1 with ((with_reducible refine gate_dst (N := 1) rfl ?_); refine box_event ?hg (N := 1) ?hd (cs := #[.string s.f0, .string s.f1, .string s.f2, .string s.f3, .int .i64 s.f4, .int .i64 s.f5, .slice A6 s.f6.f0.length c6, .int .i64 s.f6.f1, .bool s.f7.f0, .slice A9 s.f7.f1.length c9, .int .i64 s.f8, .int .i64 s.f9, .bool s.f10, .bool s.f11, .string s.f12]) (t := 41) ?hr ?_; (case hd => rfl); (case hg => rfl); (case hr => first | (go_simp; done) | (go_simp; rfl)); intro gb1 hg w1 hbox hb; have KX := Aside0.mk hbox; have HB := Aside0.mk hb; clear hb hg hbox)
  go_cut [3] (fun s3 wx => ∃ b : Bool, s3 = .bool b ∧ Aside0 (GoodS s → b = true) ∧ Aside0 (wx.heap[gb1]? = some (.cells #[.string s.f0, .string s.f1, .string s.f2, .string s.f3, .int .i64 s.f4, .int .i64 s.f5, .slice A6 s.f6.f0.length c6, .int .i64 s.f6.f1, .bool s.f7.f0, .slice A9 s.f7.f1.length c9, .int .i64 s.f8, .int .i64 s.f9, .bool s.f10, .bool s.f11, .string s.f12] 41 (0, 0))) ∧ Aside0 (Below W.heap.size W wx))
  case first =>
    have kx0 := (blk_cell KX.out 0).trans rfl
    cases b0 with
    | false =>
      go_wp2_with (first | (go_at_call 55; (with_reducible refine (script_Name.calls s.f0 _ _ (Glob.below HG.out HB.out) H0.out).mono ?_); rintro e w2 ⟨rfl, hb⟩; have n0_ := Aside0.mk (below_step HB.out hb); have n1_ := Aside0.mk (blk_below KX.out hb); (try clear HB); (try clear KX); have HB := n0_; clear n0_; have KX := n1_; clear n1_; clear hb; have kx1 := (blk_cell KX.out 1).trans rfl))
      go_meet
      exact ⟨_, rfl, ⟨fun g => N0.out g⟩, KX, HB⟩
    | true =>
    cases b1 with
    | false =>
      go_wp2_with (first | (go_at_call 55; (with_reducible refine (script_Name.calls s.f0 _ _ (Glob.below HG.out HB.out) H0.out).mono ?_); rintro e w2 ⟨rfl, hb⟩; have n0_ := Aside0.mk (below_step HB.out hb); have n1_ := Aside0.mk (blk_below KX.out hb); (try clear HB); (try clear KX); have HB := n0_; clear n0_; have KX := n1_; clear n1_; clear hb; have kx1 := (blk_cell KX.out 1).trans rfl) | (go_at_call 55; (with_reducible refine (script_Name.calls s.f1 _ _ (Glob.below HG.out HB.out) H1.out).mono ?_); rintro e w2 ⟨rfl, hb⟩; have n0_ := Aside0.mk (below_step HB.out hb); have n1_ := Aside0.mk (blk_below KX.out hb); (try clear HB); (try clear KX); have HB := n0_; clear n0_; have KX := n1_; clear n1_; clear hb; have kx2 := (blk_cell KX.out 2).trans rfl))
      go_meet
      exact ⟨_, rfl, ⟨fun g => N1.out g⟩, KX, HB⟩
    | true =>
    cases b2 with
    | false =>
      go_wp2_with (first | (go_at_call 55; (with_reducible refine (script_Name.calls s.f0 _ _ (Glob.below HG.out HB.out) H0.out).mono ?_); rintro e w2 ⟨rfl, hb⟩; have n0_ := Aside0.mk (below_step HB.out hb); have n1_ := Aside0.mk (blk_below KX.out hb); (try clear HB); (try clear KX); have HB := n0_; clear n0_; have KX := n1_; clear n1_; clear hb; have kx1 := (blk_cell KX.out 1).trans rfl) | (go_at_call 55; (with_reducible refine (script_Name.calls s.f1 _ _ (Glob.below HG.out HB.out) H1.out).mono ?_); rintro e w2 ⟨rfl, hb⟩; have n0_ := Aside0.mk (below_step HB.out hb); have n1_ := Aside0.mk (blk_below KX.out hb); (try clear HB); (try clear KX); have HB := n0_; clear n0_; have KX := n1_; clear n1_; clear hb; have kx2 := (blk_cell KX.out 2).trans rfl) | (go_at_call 55; (with_reducible refine (script_Name.calls s.f2 _ _ (Glob.below HG.out HB.out) H2.out).mono ?_); rintro e w2 ⟨rfl, hb⟩; have n0_ := Aside0.mk (below_step HB.out hb); have n1_ := Aside0.mk (blk_below KX.out hb); (try clear HB); (try clear KX); have HB := n0_; clear n0_; have KX := n1_; clear n1_; clear hb; have kx3 := (blk_cell KX.out 3).trans rfl))
      go_meet
      exact ⟨_, rfl, ⟨fun g => N2.out g⟩, KX, HB⟩
    | true =>
    go_wp2_with (first | (go_at_call 55; (with_reducible refine (script_Name.calls s.f0 _ _ (Glob.below HG.out HB.out) H0.out).mono ?_); rintro e w2 ⟨rfl, hb⟩; have n0_ := Aside0.mk (below_step HB.out hb); have n1_ := Aside0.mk (blk_below KX.out hb); (try clear HB); (try clear KX); have HB := n0_; clear n0_; have KX := n1_; clear n1_; clear hb; have kx1 := (blk_cell KX.out 1).trans rfl) | (go_at_call 55; (with_reducible refine (script_Name.calls s.f1 _ _ (Glob.below HG.out HB.out) H1.out).mono ?_); rintro e w2 ⟨rfl, hb⟩; have n0_ := Aside0.mk (below_step HB.out hb); have n1_ := Aside0.mk (blk_below KX.out hb); (try clear HB); (try clear KX); have HB := n0_; clear n0_; have KX := n1_; clear n1_; clear hb; have kx2 := (blk_cell KX.out 2).trans rfl) | (go_at_call 55; (with_reducible refine (script_Name.calls s.f2 _ _ (Glob.below HG.out HB.out) H2.out).mono ?_); rintro e w2 ⟨rfl, hb⟩; have n0_ := Aside0.mk (below_step HB.out hb); have n1_ := Aside0.mk (blk_below KX.out hb); (try clear HB); (try clear KX); have HB := n0_; clear n0_; have KX := n1_; clear n1_; clear hb; have kx3 := (blk_cell KX.out 3).trans rfl) | (go_at_call 55; (with_reducible refine (script_Name.calls s.f3 _ _ (Glob.below HG.out HB.out) H3.out).mono ?_); rintro e w2 ⟨rfl, hb⟩; have n0_ := Aside0.mk (below_step HB.out hb); have n1_ := Aside0.mk (blk_below KX.out hb); (try clear HB); (try clear KX); have HB := n0_; clear n0_; have KX := n1_; clear n1_; clear hb))
    go_meet
    exact ⟨_, rfl, ⟨fun g => N3.out g⟩, KX, HB⟩
  case rest =>
    obtain ⟨t3, rfl, M3, KX, HB⟩ := hcut
    clear N0 N1 N2 N3 H0 H1 H2 H3
    go_upto_region 2 with fail
    go_cut [4] (fun s4 wx => ∃ b : Bool, s4 = .bool b ∧ Aside0 (GoodS s → b = true) ∧ Aside0 (wx.heap[gb1]? = some (.cells #[.string s.f0, .string s.f1, .string s.f2, .string s.f3, .int .i64 s.f4, .int .i64 s.f5, .slice A6 s.f6.f0.length c6, .int .i64 s.f6.f1, .bool s.f7.f0, .slice A9 s.f7.f1.length c9, .int .i64 s.f8, .int .i64 s.f9, .bool s.f10, .bool s.f11, .string s.f12] 41 (0, 0))) ∧ Aside0 (Below W.heap.size W wx))
    case first =>
      cases be with
      | true =>
        by_cases e0 : rp = 0
        · subst e0
          go_wp2_with (first | (go_at_call 56; (with_reducible refine (script_empty.calls A6 c6 s.f6.f0 s.f6.f1 _ _ (Kd.C_below G6.out HB.out) L6.out HE.out).mono ?_); rintro e w2 ⟨rfl, hb⟩; have n0_ := Aside0.mk (below_step HB.out hb); have n1_ := Aside0.mk (blk_below KX.out hb); (try clear HB); (try clear KX); have HB := n0_; clear n0_; have KX := n1_; clear n1_; clear hb) | (go_at_call 57; (with_reducible refine (indexes_Check.calls _ A6 c6 s.f6.f0 s.f6.f1 _ _ (Kd.C_below G6.out HB.out) L6.out HI.out).mono ?_); rintro e w2 ⟨rfl, hb⟩; have n0_ := Aside0.mk (below_step HB.out hb); have n1_ := Aside0.mk (blk_below KX.out hb); (try clear HB); (try clear KX); have HB := n0_; clear n0_; have KX := n1_; clear n1_; clear hb) | (go_at_call 58; (with_reducible refine (depend_Check.calls _ s.f7.f0 A9 c9 s.f7.f1 _ _ (Kd.C_below G9.out HB.out) L9.out HP.out).mono ?_); rintro e w2 ⟨rfl, hb⟩; have n0_ := Aside0.mk (below_step HB.out hb); have n1_ := Aside0.mk (blk_below KX.out hb); (try clear HB); (try clear KX); have HB := n0_; clear n0_; have KX := n1_; clear n1_; clear hb) | ((with_reducible refine gate_ (.load 36 (.tmp 24)) rfl ?_); (try (refine gate_guard (by rfl) ?_; dsimp only)); refine agg_load rfl (N := 25) rfl rfl Tryd.underlying36 info36s (g := gb1) (off := 6) rfl [.slice A6 s.f6.f0.length c6, .int .i64 s.f6.f1] rfl (blk_seg KX.out 6 2 rfl) ?_) | ((with_reducible refine gate_ (.load 36 (.tmp 28)) rfl ?_); (try (refine gate_guard (by rfl) ?_; dsimp only)); refine agg_load rfl (N := 29) rfl rfl Tryd.underlying36 info36s (g := gb1) (off := 6) rfl [.slice A6 s.f6.f0.length c6, .int .i64 s.f6.f1] rfl (blk_seg KX.out 6 2 rfl) ?_) | ((with_reducible refine gate_ (.load 39 (.tmp 34)) rfl ?_); (try (refine gate_guard (by rfl) ?_; dsimp only)); refine agg_load rfl (N := 35) rfl rfl Tryd.underlying39 info39s (g := gb1) (off := 8) rfl [.bool s.f7.f0, .slice A9 s.f7.f1.length c9] rfl (blk_seg KX.out 8 2 rfl) ?_))
          go_meet
          exact ⟨_, rfl, ⟨fun g => rfl⟩, KX, HB⟩
        · have e1 := beq_eq_false_iff_ne.2 e0
          have E0 := Aside0.mk e0
          clear e0
          go_wp2_with (first | (go_at_call 56; (with_reducible refine (script_empty.calls A6 c6 s.f6.f0 s.f6.f1 _ _ (Kd.C_below G6.out HB.out) L6.out HE.out).mono ?_); rintro e w2 ⟨rfl, hb⟩; have n0_ := Aside0.mk (below_step HB.out hb); have n1_ := Aside0.mk (blk_below KX.out hb); (try clear HB); (try clear KX); have HB := n0_; clear n0_; have KX := n1_; clear n1_; clear hb) | (go_at_call 57; (with_reducible refine (indexes_Check.calls _ A6 c6 s.f6.f0 s.f6.f1 _ _ (Kd.C_below G6.out HB.out) L6.out HI.out).mono ?_); rintro e w2 ⟨rfl, hb⟩; have n0_ := Aside0.mk (below_step HB.out hb); have n1_ := Aside0.mk (blk_below KX.out hb); (try clear HB); (try clear KX); have HB := n0_; clear n0_; have KX := n1_; clear n1_; clear hb) | (go_at_call 58; (with_reducible refine (depend_Check.calls _ s.f7.f0 A9 c9 s.f7.f1 _ _ (Kd.C_below G9.out HB.out) L9.out HP.out).mono ?_); rintro e w2 ⟨rfl, hb⟩; have n0_ := Aside0.mk (below_step HB.out hb); have n1_ := Aside0.mk (blk_below KX.out hb); (try clear HB); (try clear KX); have HB := n0_; clear n0_; have KX := n1_; clear n1_; clear hb) | ((with_reducible refine gate_ (.load 36 (.tmp 24)) rfl ?_); (try (refine gate_guard (by rfl) ?_; dsimp only)); refine agg_load rfl (N := 25) rfl rfl Tryd.underlying36 info36s (g := gb1) (off := 6) rfl [.slice A6 s.f6.f0.length c6, .int .i64 s.f6.f1] rfl (blk_seg KX.out 6 2 rfl) ?_) | ((with_reducible refine gate_ (.load 36 (.tmp 28)) rfl ?_); (try (refine gate_guard (by rfl) ?_; dsimp only)); refine agg_load rfl (N := 29) rfl rfl Tryd.underlying36 info36s (g := gb1) (off := 6) rfl [.slice A6 s.f6.f0.length c6, .int .i64 s.f6.f1] rfl (blk_seg KX.out 6 2 rfl) ?_) | ((with_reducible refine gate_ (.load 39 (.tmp 34)) rfl ?_); (try (refine gate_guard (by rfl) ?_; dsimp only)); refine agg_load rfl (N := 35) rfl rfl Tryd.underlying39 info39s (g := gb1) (off := 8) rfl [.bool s.f7.f0, .slice A9 s.f7.f1.length c9] rfl (blk_seg KX.out 8 2 rfl) ?_))
          go_meet
          exact ⟨_, rfl, ⟨fun g => absurd (NL.out g).2 E0.out⟩, KX, HB⟩
      | false =>
        by_cases e0 : ri = 0
        · subst e0
          by_cases e0 : rp = 0
          · subst e0
            go_wp2_with (first | (go_at_call 56; (with_reducible refine (script_empty.calls A6 c6 s.f6.f0 s.f6.f1 _ _ (Kd.C_below G6.out HB.out) L6.out HE.out).mono ?_); rintro e w2 ⟨rfl, hb⟩; have n0_ := Aside0.mk (below_step HB.out hb); have n1_ := Aside0.mk (blk_below KX.out hb); (try clear HB); (try clear KX); have HB := n0_; clear n0_; have KX := n1_; clear n1_; clear hb) | (go_at_call 57; (with_reducible refine (indexes_Check.calls _ A6 c6 s.f6.f0 s.f6.f1 _ _ (Kd.C_below G6.out HB.out) L6.out HI.out).mono ?_); rintro e w2 ⟨rfl, hb⟩; have n0_ := Aside0.mk (below_step HB.out hb); have n1_ := Aside0.mk (blk_below KX.out hb); (try clear HB); (try clear KX); have HB := n0_; clear n0_; have KX := n1_; clear n1_; clear hb) | (go_at_call 58; (with_reducible refine (depend_Check.calls _ s.f7.f0 A9 c9 s.f7.f1 _ _ (Kd.C_below G9.out HB.out) L9.out HP.out).mono ?_); rintro e w2 ⟨rfl, hb⟩; have n0_ := Aside0.mk (below_step HB.out hb); have n1_ := Aside0.mk (blk_below KX.out hb); (try clear HB); (try clear KX); have HB := n0_; clear n0_; have KX := n1_; clear n1_; clear hb) | ((with_reducible refine gate_ (.load 36 (.tmp 24)) rfl ?_); (try (refine gate_guard (by rfl) ?_; dsimp only)); refine agg_load rfl (N := 25) rfl rfl Tryd.underlying36 info36s (g := gb1) (off := 6) rfl [.slice A6 s.f6.f0.length c6, .int .i64 s.f6.f1] rfl (blk_seg KX.out 6 2 rfl) ?_) | ((with_reducible refine gate_ (.load 36 (.tmp 28)) rfl ?_); (try (refine gate_guard (by rfl) ?_; dsimp only)); refine agg_load rfl (N := 29) rfl rfl Tryd.underlying36 info36s (g := gb1) (off := 6) rfl [.slice A6 s.f6.f0.length c6, .int .i64 s.f6.f1] rfl (blk_seg KX.out 6 2 rfl) ?_) | ((with_reducible refine gate_ (.load 39 (.tmp 34)) rfl ?_); (try (refine gate_guard (by rfl) ?_; dsimp only)); refine agg_load rfl (N := 35) rfl rfl Tryd.underlying39 info39s (g := gb1) (off := 8) rfl [.bool s.f7.f0, .slice A9 s.f7.f1.length c9] rfl (blk_seg KX.out 8 2 rfl) ?_))
            go_meet
            exact ⟨_, rfl, ⟨fun g => rfl⟩, KX, HB⟩
          · have e1 := beq_eq_false_iff_ne.2 e0
            have E0 := Aside0.mk e0
            clear e0
            go_wp2_with (first | (go_at_call 56; (with_reducible refine (script_empty.calls A6 c6 s.f6.f0 s.f6.f1 _ _ (Kd.C_below G6.out HB.out) L6.out HE.out).mono ?_); rintro e w2 ⟨rfl, hb⟩; have n0_ := Aside0.mk (below_step HB.out hb); have n1_ := Aside0.mk (blk_below KX.out hb); (try clear HB); (try clear KX); have HB := n0_; clear n0_; have KX := n1_; clear n1_; clear hb) | (go_at_call 57; (with_reducible refine (indexes_Check.calls _ A6 c6 s.f6.f0 s.f6.f1 _ _ (Kd.C_below G6.out HB.out) L6.out HI.out).mono ?_); rintro e w2 ⟨rfl, hb⟩; have n0_ := Aside0.mk (below_step HB.out hb); have n1_ := Aside0.mk (blk_below KX.out hb); (try clear HB); (try clear KX); have HB := n0_; clear n0_; have KX := n1_; clear n1_; clear hb) | (go_at_call 58; (with_reducible refine (depend_Check.calls _ s.f7.f0 A9 c9 s.f7.f1 _ _ (Kd.C_below G9.out HB.out) L9.out HP.out).mono ?_); rintro e w2 ⟨rfl, hb⟩; have n0_ := Aside0.mk (below_step HB.out hb); have n1_ := Aside0.mk (blk_below KX.out hb); (try clear HB); (try clear KX); have HB := n0_; clear n0_; have KX := n1_; clear n1_; clear hb) | ((with_reducible refine gate_ (.load 36 (.tmp 24)) rfl ?_); (try (refine gate_guard (by rfl) ?_; dsimp only)); refine agg_load rfl (N := 25) rfl rfl Tryd.underlying36 info36s (g := gb1) (off := 6) rfl [.slice A6 s.f6.f0.length c6, .int .i64 s.f6.f1] rfl (blk_seg KX.out 6 2 rfl) ?_) | ((with_reducible refine gate_ (.load 36 (.tmp 28)) rfl ?_); (try (refine gate_guard (by rfl) ?_; dsimp only)); refine agg_load rfl (N := 29) rfl rfl Tryd.underlying36 info36s (g := gb1) (off := 6) rfl [.slice A6 s.f6.f0.length c6, .int .i64 s.f6.f1] rfl (blk_seg KX.out 6 2 rfl) ?_) | ((with_reducible refine gate_ (.load 39 (.tmp 34)) rfl ?_); (try (refine gate_guard (by rfl) ?_; dsimp only)); refine agg_load rfl (N := 35) rfl rfl Tryd.underlying39 info39s (g := gb1) (off := 8) rfl [.bool s.f7.f0, .slice A9 s.f7.f1.length c9] rfl (blk_seg KX.out 8 2 rfl) ?_))
            go_meet
            exact ⟨_, rfl, ⟨fun g => absurd (NL.out g).2 E0.out⟩, KX, HB⟩
        · have e1 := beq_eq_false_iff_ne.2 e0
          have E0 := Aside0.mk e0
          clear e0
          go_wp2_with (first | (go_at_call 56; (with_reducible refine (script_empty.calls A6 c6 s.f6.f0 s.f6.f1 _ _ (Kd.C_below G6.out HB.out) L6.out HE.out).mono ?_); rintro e w2 ⟨rfl, hb⟩; have n0_ := Aside0.mk (below_step HB.out hb); have n1_ := Aside0.mk (blk_below KX.out hb); (try clear HB); (try clear KX); have HB := n0_; clear n0_; have KX := n1_; clear n1_; clear hb) | (go_at_call 57; (with_reducible refine (indexes_Check.calls _ A6 c6 s.f6.f0 s.f6.f1 _ _ (Kd.C_below G6.out HB.out) L6.out HI.out).mono ?_); rintro e w2 ⟨rfl, hb⟩; have n0_ := Aside0.mk (below_step HB.out hb); have n1_ := Aside0.mk (blk_below KX.out hb); (try clear HB); (try clear KX); have HB := n0_; clear n0_; have KX := n1_; clear n1_; clear hb) | (go_at_call 58; (with_reducible refine (depend_Check.calls _ s.f7.f0 A9 c9 s.f7.f1 _ _ (Kd.C_below G9.out HB.out) L9.out HP.out).mono ?_); rintro e w2 ⟨rfl, hb⟩; have n0_ := Aside0.mk (below_step HB.out hb); have n1_ := Aside0.mk (blk_below KX.out hb); (try clear HB); (try clear KX); have HB := n0_; clear n0_; have KX := n1_; clear n1_; clear hb) | ((with_reducible refine gate_ (.load 36 (.tmp 24)) rfl ?_); (try (refine gate_guard (by rfl) ?_; dsimp only)); refine agg_load rfl (N := 25) rfl rfl Tryd.underlying36 info36s (g := gb1) (off := 6) rfl [.slice A6 s.f6.f0.length c6, .int .i64 s.f6.f1] rfl (blk_seg KX.out 6 2 rfl) ?_) | ((with_reducible refine gate_ (.load 36 (.tmp 28)) rfl ?_); (try (refine gate_guard (by rfl) ?_; dsimp only)); refine agg_load rfl (N := 29) rfl rfl Tryd.underlying36 info36s (g := gb1) (off := 6) rfl [.slice A6 s.f6.f0.length c6, .int .i64 s.f6.f1] rfl (blk_seg KX.out 6 2 rfl) ?_) | ((with_reducible refine gate_ (.load 39 (.tmp 34)) rfl ?_); (try (refine gate_guard (by rfl) ?_; dsimp only)); refine agg_load rfl (N := 35) rfl rfl Tryd.underlying39 info39s (g := gb1) (off := 8) rfl [.bool s.f7.f0, .slice A9 s.f7.f1.length c9] rfl (blk_seg KX.out 8 2 rfl) ?_))
          go_meet
          exact ⟨_, rfl, ⟨fun g => (NL.out g).1.elim (fun h => by cases h) (fun h => absurd h E0.out)⟩, KX, HB⟩
    case rest =>
      obtain ⟨t4, rfl, M4, KX, HB⟩ := hcut
      clear NL HE HI HP
      have kx4 := (blk_cell KX.out 4).trans rfl
      have kx5 := (blk_cell KX.out 5).trans rfl
      have kx10 := (blk_cell KX.out 10).trans rfl
      have kx11 := (blk_cell KX.out 11).trans rfl
      go_upto_region 3 with fail
      go_cut [5] (fun s5 wx => ∃ b : Bool, s5 = .bool b ∧ Aside0 (b = true → 1 ≤ s.f4 ∧ s.f4 ≤ 1024) ∧ Aside0 (GoodS s → b = true) ∧ Aside0 (wx.heap[gb1]? = some (.cells #[.string s.f0, .string s.f1, .string s.f2, .string s.f3, .int .i64 s.f4, .int .i64 s.f5, .slice A6 s.f6.f0.length c6, .int .i64 s.f6.f1, .bool s.f7.f0, .slice A9 s.f7.f1.length c9, .int .i64 s.f8, .int .i64 s.f9, .bool s.f10, .bool s.f11, .string s.f12] 41 (0, 0))) ∧ Aside0 (Below W.heap.size W wx))
      case first =>
        go_wp2
        all_goals go_meet
        all_goals first
          | exact ⟨false, rfl, ⟨fun h => by cases h⟩, ⟨fun g => absurd (a := s.f9 < 0) (by assumption) (num_bad g).1⟩, ‹_›, ‹_›⟩
          | exact ⟨false, rfl, ⟨fun h => by cases h⟩, ⟨fun g => absurd (a := 10000 < s.f8) (by assumption) (num_bad g).2.1⟩, ‹_›, ‹_›⟩
          | exact ⟨false, rfl, ⟨fun h => by cases h⟩, ⟨fun g => absurd (a := s.f8 < -10000) (by assumption) (num_bad g).2.2.1⟩, ‹_›, ‹_›⟩
          | exact ⟨false, rfl, ⟨fun h => by cases h⟩, ⟨fun g => absurd (a := 1073741824 < s.f5) (by assumption) (num_bad g).2.2.2.1⟩, ‹_›, ‹_›⟩
          | exact ⟨false, rfl, ⟨fun h => by cases h⟩, ⟨fun g => absurd (a := s.f5 < 1) (by assumption) (num_bad g).2.2.2.2.1⟩, ‹_›, ‹_›⟩
          | exact ⟨false, rfl, ⟨fun h => by cases h⟩, ⟨fun g => absurd (a := 1024 < s.f4) (by assumption) (num_bad g).2.2.2.2.2.1⟩, ‹_›, ‹_›⟩
          | exact ⟨false, rfl, ⟨fun h => by cases h⟩, ⟨fun g => absurd (a := s.f4 < 1) (by assumption) (num_bad g).2.2.2.2.2.2⟩, ‹_›, ‹_›⟩
          | exact ⟨_, rfl, ⟨fun _ => ⟨by assumption, by assumption⟩⟩, ⟨fun g => by rw [g.v9]; decide⟩, ‹_›, ‹_›⟩
      case rest =>
        obtain ⟨t5, rfl, M5, M6, KX, HB⟩ := hcut
        have kx14 := (blk_cell KX.out 14).trans rfl
        cases t3 with
        | false =>
          go_wp2
          go_ret
          exact ⟨_, rfl, ⟨Or.inr rfl, (fun h => by cases h), fun g => absurd (M3.out g) (by simp)⟩, HB.out⟩
        | true =>
        cases t4 with
        | false =>
          go_wp2
          go_ret
          exact ⟨_, rfl, ⟨Or.inr rfl, (fun h => by cases h), fun g => absurd (M4.out g) (by simp)⟩, HB.out⟩
        | true =>
        cases t5 with
        | false =>
          go_wp2
          go_ret
          exact ⟨_, rfl, ⟨Or.inr rfl, (fun h => by cases h), fun g => absurd (M6.out g) (by simp)⟩, HB.out⟩
        | true =>
        cases br with
        | false =>
          go_wp2_with (first | (go_at_call 59; (with_reducible refine (script_run.calls s.f12 _ _ (Glob.below HG.out HB.out) HR.out).mono ?_); rintro e w2 ⟨rfl, hb⟩; have n0_ := Aside0.mk (below_step HB.out hb); (try clear HB); have HB := n0_; clear n0_; clear hb))
          go_ret
          exact ⟨_, rfl, ⟨Or.inr rfl, (fun h => by cases h), fun g => absurd (NR.out g) (by simp)⟩, HB.out⟩
        | true =>
          go_wp2_with (first | (go_at_call 59; (with_reducible refine (script_run.calls s.f12 _ _ (Glob.below HG.out HB.out) HR.out).mono ?_); rintro e w2 ⟨rfl, hb⟩; have n0_ := Aside0.mk (below_step HB.out hb); (try clear HB); have HB := n0_; clear n0_; clear hb))
          go_ret
          exact ⟨_, rfl, ⟨Or.inl rfl, fun _ => M5.out trivial, fun _ => rfl⟩, HB.out⟩
end Go.Proofs.YtgkedamhicemiaaDoor.P
