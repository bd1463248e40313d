/- cut to what one law reaches -/
import Derived.Test.YtgkedamhicemiaaDoorJaJ12
namespace Go.Proofs.YtgkedamhicemiaaDoor.P
open Go.RowKit Go.Proofs.YtgkedamhicemiaaDoorW.PrintWords Go.Proofs.YtgkedamhicemiaaDoorW.PrintLast Go.Proofs.YtgkedamhicemiaaDoorW.PrintMore
attribute [local go_sem] max2_int min2_int max_two min_two max_three min_three max_four min_four
set_option linter.unusedVariables false
set_option linter.unusedSimpArgs false
attribute [local go_sem] isSome_setCell
theorem info3s : (Tryd.prog.info? 3).map (·.size) = some 1 := by kernel_rfl
theorem info9s : (Tryd.prog.info? 9).map (·.size) = some 1 := by kernel_rfl
/-- one and the number's rest -/
def szz (m size : Int) : Int := wrap64 (1 + wrap64 ((IntKind.u64.wrap size).tmod m))
theorem szz_in (m size : Int) (h1 : 1 ≤ m) (h2 : m ≤ 1000) : 1 ≤ szz m size ∧ szz m size ≤ m := by
  unfold szz
  rw [IntKind.wrap_u64]
  have h0 : 0 ≤ size % 18446744073709551616 := Int.emod_nonneg _ (by omega)
  rw [Int.tmod_eq_emod_of_nonneg h0]
  generalize size % 18446744073709551616 = v at *
  have a1 : 0 ≤ v % m := Int.emod_nonneg _ (by omega)
  have a2 : v % m < m := Int.emod_lt_of_pos _ (by omega)
  generalize v % m = r at *
  have e2 : wrap64 r = r := by unfold wrap64; omega
  rw [e2]
  have e3 : wrap64 (1 + r) = 1 + r := by unfold wrap64; omega
  rw [e3]
  omega
def mostI (gpu : Bool) : Int := if gpu = true then 2 else 8
def ptN (gpu : Bool) : ByteArray := if gpu = true then nmGpu else nmMain
def longF (gpu : Bool) (limit : Int) : Int := if maxL gpu < limit then 3 else 0
def wantF (gpu : Bool) (size limit : Int) : Int := if mostI gpu < size then 2 else longF gpu limit
theorem most_up_ : ∀ s : Fin 41, ∀ gpu : Bool, 1 ≤ s.val → (maxO gpu < upO (s.val : Int) ↔ mostI gpu < (s.val : Int)) := by decide +kernel
theorem most_up (gpu : Bool) (s : Int) (h1 : 1 ≤ s) (h2 : s ≤ 40) : maxO gpu < upO s ↔ mostI gpu < s := by
  have h := most_up_ ⟨s.toNat, by omega⟩ gpu (by show 1 ≤ s.toNat; omega)
  have e : ((s.toNat : Nat) : Int) = s := by omega
  simp only [e] at h
  exact h
theorem about_nil (q : ByteArray) : aboutP q [] = 0 := rfl
theorem first_sub {rq : Int} {x : Cg} (hX : SmX rq x) {gpu : Bool} {size limit : Int} {q : Int} {o : List Int} {L' : List S58} (h1 : 1 ≤ size) (h2 : size ≤ 40) (l1 : 1 ≤ limit) (l2 : limit ≤ 200) (h : SubR x (spc (ptN gpu) nmNormal size limit []) 0 [] q o L') : q = wantF gpu size limit := by
  obtain ⟨r, hR, h⟩ := h
  have hr : r = 0 := hR.2.2 (spc_good gpu false size limit h1 (by omega) l1 (by omega) [] (Or.inl rfl))
  rcases h with ⟨h, _⟩ | ⟨_, p, hA, h⟩
  · exact absurd hr h
  · have e := adm_sm hX (gpu := gpu) (high := false) hA (by decide) (by decide)
    have e2 : q = (p, q).2 := rfl
    rw [e2, e]
    unfold wantF longF
    by_cases c1 : mostI gpu < size
    · rw [if_pos ((most_up gpu size h1 h2).2 c1), if_pos c1]
    · rw [if_neg (fun c => c1 ((most_up gpu size h1 h2).1 c)), if_neg c1]
      by_cases c2 : maxL gpu < limit
      · rw [if_pos c2, if_pos c2]
      · rw [if_neg c2, if_neg c2]
        refine congrArg Prod.snd (if_neg ?_)
        have e1 : (idxs (spc (ptN gpu) nmNormal size limit [])).length = 1 := rfl
        rintro (h | h)
        · rw [e1] at h; revert h; decide
        · rw [e1, about_nil] at h; revert h; decide
def hspec : S41 := spc nmMain nmHigh 1 50 []
theorem hsz : szS hspec := spc_sz _ _ _ _ _ (by decide +kernel) (by decide +kernel) (by decide)
def hL1 : List S58 := newsK hspec 0 0 [] 1
def hL2 : List S58 := hL1 ++ newsK hspec 0 0 hL1 1
def hL3 : List S58 := (endP 1 0 7 hL2).2
def hLn : Nat → List S58 | 0 => [] | 1 => hL1 | _ => hL2
theorem high_sub {rq : Int} {x : Cg} (hX : SmX rq x) {L : List S58} {q : Int} {o : List Int} {L' : List S58} (hn : ¬ (500 < (L.length : Int) + 1 ∨ room true < aboutP nmHigh L + 1)) (h : SubR x hspec 0 L q o L') : q = 0 ∧ L' = L ++ newsK hspec 0 0 L 1 := by
  obtain ⟨r, hR, h⟩ := h
  have hr : r = 0 := hR.2.2 (spc_good false true 1 50 (by decide) (by decide) (by decide) (by decide) [] (Or.inl rfl))
  rcases h with ⟨h, _⟩ | ⟨_, p, hA, h⟩
  · exact absurd hr h
  · have e := adm_sm hX (gpu := false) (high := true) hA (by decide) (by decide)
    have e2 : (p, q) = (0, 0) := by
      rw [e, if_neg (by decide +kernel), if_neg (by decide +kernel)]
      exact if_neg hn
    injection e2 with e3 e4
    subst e3
    subst e4
    rcases h with ⟨h, _⟩ | ⟨_, _, rfl⟩
    · exact absurd rfl h
    · exact ⟨rfl, rfl⟩
theorem full_sub {rq : Int} {x : Cg} (hX : SmX rq x) {q : Int} {o : List Int} {L' : List S58} (h : SubR x hspec 0 hL2 q o L') : q = 5 ∧ L' = hL2 := by
  obtain ⟨r, hR, h⟩ := h
  have hr : r = 0 := hR.2.2 (spc_good false true 1 50 (by decide) (by decide) (by decide) (by decide) [] (Or.inl rfl))
  rcases h with ⟨h, _⟩ | ⟨_, p, hA, h⟩
  · exact absurd hr h
  · have e := adm_sm hX (gpu := false) (high := true) hA (by decide) (by decide)
    have e2 : (p, q) = (0, 5) := e.trans (by decide +kernel)
    injection e2 with e3 e4
    subst e3
    subst e4
    rcases h with ⟨_, _, rfl⟩ | ⟨h, _⟩
    · exact ⟨rfl, rfl⟩
    · exact absurd h (by decide)
theorem hroom : ∀ i, i < 2 → ¬ (500 < ((hLn i).length : Int) + 1 ∨ room true < aboutP nmHigh (hLn i) + 1) := by
  intro i hi
  have h2 : i = 0 ∨ i = 1 := by omega
  rcases h2 with rfl | rfl <;> decide +kernel
theorem hroom3 : ¬ (500 < (hL3.length : Int) + 1 ∨ room true < aboutP nmHigh hL3 + 1) := by decide +kernel
theorem hnext : ∀ i, i < 2 → hLn i ++ newsK hspec 0 0 (hLn i) 1 = hLn (i + 1) := by
  intro i hi
  have h2 : i = 0 ∨ i = 1 := by omega
  rcases h2 with rfl | rfl <;> rfl
theorem hlen4 : (hL3 ++ newsK hspec 0 0 hL3 1).length = 3 := by decide +kernel
theorem hlen : ∀ i, i ≤ 2 → (hLn i).length ≤ 500 := by
  intro i hi
  have h2 : i = 0 ∨ i = 1 ∨ i = 2 := by omega
  rcases h2 with rfl | rfl | rfl <;> decide +kernel
theorem hlen3 : hL3.length ≤ 500 := by decide +kernel
section
variable {W : World}
set_option maxHeartbeats 16000000 in
set_option maxRecDepth 100000 in
theorem admits_law (size limit : Int) (gpu : Bool) (hG : Glob W) : Calls Tryd.prog 3 #[.int .i64 size, .int .i64 limit, .bool gpu] W (KnownPost W) := by
  have hu41 := Tryd.underlying41
  have hu58 := Tryd.underlying58
  have HG := Aside0.mk hG
  have SZ := Aside0.mk (szz_in 40 size (by omega) (by omega))
  have LZ := Aside0.mk (szz_in 200 limit (by omega) (by omega))
  clear hG
  go_enter Tryd.func3, Tryd.ntmps3
  go_upto_if 49 with (first | (go_at_call 10; refine (gangerlaw13_small.calls _ _ _ _ _ _ _ _ _ _ _ _ _ rfl).mono ?_; rintro e ws ⟨v9_, v10_, v11_, rfl, r9, r10, r11, hb⟩; obtain ⟨Bs9, ds9, rfl⟩ := Kd.R_slice r9; obtain ⟨Bs10, ds10, rfl⟩ := Kd.R_slice r10; obtain ⟨Bs11, ds11, rfl⟩ := Kd.R_slice r11; have RS9 := Aside0.mk (Kd.R_reads' r9).2; have RS10 := Aside0.mk (Kd.R_reads' r10).2; have RS11 := Aside0.mk (Kd.R_reads' r11).2; have HBS := Aside0.mk hb; clear r9 r10 r11 hb) | (go_at_call 9; refine (new_at 1 (by decide) (by decide) Bs9 ds9 Bs10 ds10 Bs11 ds11 (Glob.below HG.out HBS.out) RS9.out.2 RS9.out.1 RS10.out.2 RS10.out.1 RS11.out.2 RS11.out.1).mono ?_; rintro e wn ⟨t, x, rfl, hX, hT, hb⟩; have SX := Aside0.mk hX; have TN := Aside0.mk hT; have HBN := Aside0.mk hb; clear hX hT hb) | (go_at_call 11; refine (gangerlaw13_spec.calls (1) _ _ _ _ _ _ _ _ _ _ _ _ _ _ _ _ rfl).mono ?_; rintro e wp ⟨v6_, v9_, rfl, r6, r9, hb⟩; obtain ⟨Ap6, cp6, rfl⟩ := Kd.R_slice r6; obtain ⟨Ap9, cp9, rfl⟩ := Kd.R_slice (Kd.S_R r9); have HB := Aside0.mk (below_step (below_step HBS.out HBN.out) hb); have TB := Aside0.mk (TN.out.below hb); have ML := Aside0.mk hb.size; clear r6 r9 hb) | ((with_reducible refine gate_dst (N := 9) rfl ?_); refine box_event ?hg (N := 9) ?hd (cs := #[.string ⟨#[]⟩, .string ⟨#[]⟩, .string ⟨#[]⟩, .string ⟨#[]⟩, .int .i64 0, .int .i64 0, .slice none 0 0, .int .i64 0, .bool false, .slice none 0 0, .int .i64 0, .int .i64 0, .bool false, .bool false, .string ⟨#[]⟩]) (t := 41) ?hr ?_; (case hd => rfl); (case hg => rfl); (case hr => first | (go_simp; done) | (go_simp; rfl)); intro gb9 hg w9 hbox hb; have KX := Aside0.mk hbox; have GX := Aside0.mk (show W.heap.size ≤ gb9 by rw [hg]; exact below_size HB.out); have MX := Aside0.mk (show wn.heap.size ≤ gb9 by rw [hg]; exact ML.out); have n0_ := Aside0.mk (below_step HB.out hb); have n1_ := Aside0.mk (TB.out.below hb); have n2_ := Aside0.mk (Nat.le_trans ML.out hb.size); (try clear HB); (try clear TB); (try clear ML); have HB := n0_; clear n0_; have TB := n1_; clear n1_; have ML := n2_; clear n2_; clear hb hg hbox) | ((with_reducible refine gate_ (.store 41 (.tmp 9) (.tmp 36)) rfl ?_); refine agg_store rfl rfl rfl (g := gb9) (off := 0) (u := .agg #[.string ⟨#[106]⟩, .string ⟨#[97, 110, 110]⟩, .string ⟨#[109, 97, 105, 110]⟩, .string ⟨#[110, 111, 114, 109, 97, 108]⟩, .int .i64 1, .int .i64 50, .slice Ap6 0 cp6, .int .i64 0, .bool false, .slice Ap9 0 cp9, .int .i64 0, .int .i64 0, .bool false, .bool false, .string ⟨#[]⟩]) rfl rfl info41s KX.out [.string ⟨#[106]⟩, .string ⟨#[97, 110, 110]⟩, .string ⟨#[109, 97, 105, 110]⟩, .string ⟨#[110, 111, 114, 109, 97, 108]⟩, .int .i64 1, .int .i64 50, .slice Ap6 0 cp6, .int .i64 0, .bool false, .slice Ap9 0 cp9, .int .i64 0, .int .i64 0, .bool false, .bool false, .string ⟨#[]⟩] rfl rfl (by simp) (by simp [Value.oneCell']) #[.string ⟨#[106]⟩, .string ⟨#[97, 110, 110]⟩, .string ⟨#[109, 97, 105, 110]⟩, .string ⟨#[110, 111, 114, 109, 97, 108]⟩, .int .i64 1, .int .i64 50, .slice Ap6 0 cp6, .int .i64 0, .bool false, .slice Ap9 0 cp9, .int .i64 0, .int .i64 0, .bool false, .bool false, .string ⟨#[]⟩] rfl ?_; intro w5 hX hO; have n0_ := Aside0.mk (hO.below HB.out GX.out); have n1_ := Aside0.mk (hX); have n2_ := Aside0.mk (Tb_only hO TB.out (fun k hk e => by have h2 := hk.2; have h3 := MX.out; omega)); have n3_ := Aside0.mk (Nat.le_trans ML.out (Nat.le_of_eq hO.size.symm)); (try clear HB); (try clear KX); (try clear TB); (try clear ML); have HB := n0_; clear n0_; have KX := n1_; clear n1_; have TB := n2_; clear n2_; have ML := n3_; clear n3_; clear hX hO) | ((with_reducible refine gate_ (.store 3 (.tmp 42) (.tmp 41)) rfl ?_); refine agg_store rfl rfl rfl (g := gb9) (off := 4) (u := .int .i64 (szz 40 size)) rfl rfl info3s KX.out [.int .i64 (szz 40 size)] rfl rfl (by simp) (by simp [Value.oneCell']) #[.string ⟨#[106]⟩, .string ⟨#[97, 110, 110]⟩, .string ⟨#[109, 97, 105, 110]⟩, .string ⟨#[110, 111, 114, 109, 97, 108]⟩, .int .i64 (szz 40 size), .int .i64 50, .slice Ap6 0 cp6, .int .i64 0, .bool false, .slice Ap9 0 cp9, .int .i64 0, .int .i64 0, .bool false, .bool false, .string ⟨#[]⟩] rfl ?_; intro w42 hX hO; have n0_ := Aside0.mk (hO.below HB.out GX.out); have n1_ := Aside0.mk (hX); have n2_ := Aside0.mk (Tb_only hO TB.out (fun k hk e => by have h2 := hk.2; have h3 := MX.out; omega)); have n3_ := Aside0.mk (Nat.le_trans ML.out (Nat.le_of_eq hO.size.symm)); (try clear HB); (try clear KX); (try clear TB); (try clear ML); have HB := n0_; clear n0_; have KX := n1_; clear n1_; have TB := n2_; clear n2_; have ML := n3_; clear n3_; clear hX hO) | ((with_reducible refine gate_ (.store 3 (.tmp 48) (.tmp 47)) rfl ?_); refine agg_store rfl rfl rfl (g := gb9) (off := 5) (u := .int .i64 (szz 200 limit)) rfl rfl info3s KX.out [.int .i64 (szz 200 limit)] rfl rfl (by simp) (by simp [Value.oneCell']) #[.string ⟨#[106]⟩, .string ⟨#[97, 110, 110]⟩, .string ⟨#[109, 97, 105, 110]⟩, .string ⟨#[110, 111, 114, 109, 97, 108]⟩, .int .i64 (szz 40 size), .int .i64 (szz 200 limit), .slice Ap6 0 cp6, .int .i64 0, .bool false, .slice Ap9 0 cp9, .int .i64 0, .int .i64 0, .bool false, .bool false, .string ⟨#[]⟩] rfl ?_; intro w48 hX hO; have n0_ := Aside0.mk (hO.below HB.out GX.out); have n1_ := Aside0.mk (hX); have n2_ := Aside0.mk (Tb_only hO TB.out (fun k hk e => by have h2 := hk.2; have h3 := MX.out; omega)); have n3_ := Aside0.mk (Nat.le_trans ML.out (Nat.le_of_eq hO.size.symm)); (try clear HB); (try clear KX); (try clear TB); (try clear ML); have HB := n0_; clear n0_; have KX := n1_; clear n1_; have TB := n2_; clear n2_; have ML := n3_; clear n3_; clear hX hO))
  go_cut [10, 11] (fun s10 s11 wx => s10 = .int .i64 (mostI gpu) ∧ s11 = .int .i64 (maxL gpu) ∧ Aside0 (wx.heap[gb9]? = some (.cells #[.string ⟨#[106]⟩, .string ⟨#[97, 110, 110]⟩, .string (ptN gpu), .string ⟨#[110, 111, 114, 109, 97, 108]⟩, .int .i64 (szz 40 size), .int .i64 (szz 200 limit), .slice Ap6 0 cp6, .int .i64 0, .bool false, .slice Ap9 0 cp9, .int .i64 0, .int .i64 0, .bool false, .bool false, .string ⟨#[]⟩] 41 (0, 0))) ∧ Aside0 (Below W.heap.size W wx) ∧ Aside0 (Tb wx ws.heap.size (fun k => ws.heap.size ≤ k ∧ k < wn.heap.size) t x []) ∧ Aside0 (wn.heap.size ≤ wx.heap.size))
  case first =>
    cases gpu with
    | false =>
      go_wp2
      go_meet
      exact ⟨rfl, rfl, KX, HB, TB, ML⟩
    | true =>
      go_wp2_with (first | ((with_reducible refine gate_ (.store 9 (.tmp 50) (.const (.string ⟨#[103, 112, 117]⟩))) rfl ?_); refine agg_store rfl rfl rfl (g := gb9) (off := 2) (u := .string ⟨#[103, 112, 117]⟩) rfl rfl info9s KX.out [.string ⟨#[103, 112, 117]⟩] rfl rfl (by simp) (by simp [Value.oneCell']) #[.string ⟨#[106]⟩, .string ⟨#[97, 110, 110]⟩, .string ⟨#[103, 112, 117]⟩, .string ⟨#[110, 111, 114, 109, 97, 108]⟩, .int .i64 (szz 40 size), .int .i64 (szz 200 limit), .slice Ap6 0 cp6, .int .i64 0, .bool false, .slice Ap9 0 cp9, .int .i64 0, .int .i64 0, .bool false, .bool false, .string ⟨#[]⟩] rfl ?_; intro w50 hX hO; have n0_ := Aside0.mk (hO.below HB.out GX.out); have n1_ := Aside0.mk (hX); have n2_ := Aside0.mk (Tb_only hO TB.out (fun k hk e => by have h2 := hk.2; have h3 := MX.out; omega)); have n3_ := Aside0.mk (Nat.le_trans ML.out (Nat.le_of_eq hO.size.symm)); (try clear HB); (try clear KX); (try clear TB); (try clear ML); have HB := n0_; clear n0_; have KX := n1_; clear n1_; have TB := n2_; clear n2_; have ML := n3_; clear n3_; clear hX hO))
      go_meet
      exact ⟨rfl, rfl, KX, HB, TB, ML⟩
  case rest =>
    obtain ⟨rfl, rfl, KX, HB, TB, ML⟩ := hcut
    generalize szz 40 size = sz at SZ KX
    generalize szz 200 limit = lim at LZ KX
    go_upto_if 60 with (first | ((with_reducible refine gate_ (.load 41 (.tmp 9)) rfl ?_); refine agg_load rfl (N := 53) rfl rfl Tryd.underlying41 info41s (g := gb9) (off := 0) rfl [.string ⟨#[106]⟩, .string ⟨#[97, 110, 110]⟩, .string (ptN gpu), .string ⟨#[110, 111, 114, 109, 97, 108]⟩, .int .i64 sz, .int .i64 lim, .slice Ap6 0 cp6, .int .i64 0, .bool false, .slice Ap9 0 cp9, .int .i64 0, .int .i64 0, .bool false, .bool false, .string ⟨#[]⟩] rfl (blk_seg KX.out 0 15 rfl) ?_) | (go_at_call 12; refine (submit_at (M := (fun k => ws.heap.size ≤ k ∧ k < wn.heap.size)) (spc (ptN gpu) nmNormal sz lim []) (spc_sz _ _ _ _ _ (by cases gpu <;> decide +kernel) (by decide +kernel) (by decide)) Ap6 cp6 Ap9 cp9 0 (Glob.below HG.out HB.out) (fun w' h => C_zero _ _ _) (by show (0 : Nat) ≤ _; omega) (fun w' h => C_zero _ _ _) (by show (0 : Nat) ≤ _; omega) (by decide) (fun k hk => Nat.lt_of_lt_of_le hk.2 ML.out) TB.out).mono ?_; rintro e w6 ⟨M2, Ao, co, o2, L2, q2, rfl, hS, hT, m1, m2, m3, hR, hK⟩; have HQ := Aside0.mk (first_sub SX.out SZ.out.1 SZ.out.2 LZ.out.1 LZ.out.2 hS); have NK := Aside0.mk (show ¬ (ws.heap.size ≤ gb9 ∧ gb9 < wn.heap.size) from fun h => by have := MX.out; omega); have n0_ := Aside0.mk (hK.below HB.out (fun k hk => Nat.le_trans HBS.out.size hk.1)); have n1_ := Aside0.mk (hK.blk KX.out NK.out); (try clear HB); (try clear KX); have HB := n0_; clear n0_; have KX := n1_; clear n1_; clear TB; have kx4 := (blk_cell KX.out 4).trans rfl; have kx5 := (blk_cell KX.out 5).trans rfl; clear hS hT m1 m2 m3 hR hK))
    go_cut [14] (fun s14 wx => s14 = .int .i64 (longF gpu lim) ∧ wx = w6)
    case first =>
      by_cases hc : maxL gpu < lim
      · go_wp2
        go_meet
        exact ⟨by rw [longF, if_pos hc], rfl⟩
      · have hc2 : lim ≤ maxL gpu := by omega
        go_wp2
        go_meet
        exact ⟨by rw [longF, if_neg (Int.not_lt.2 hc2)], rfl⟩
    case rest =>
    obtain ⟨rfl, rfl⟩ := hcut
    go_upto_if 64 with fail
    go_cut [14] (fun s14 wx => s14 = .int .i64 (wantF gpu sz lim) ∧ wx = wc)
    case first =>
      by_cases hc : mostI gpu < sz
      · go_wp2
        go_meet
        exact ⟨by rw [wantF, if_pos hc], rfl⟩
      · have hc2 : sz ≤ mostI gpu := by omega
        go_wp2
        go_meet
        exact ⟨by rw [wantF, if_neg (Int.not_lt.2 hc2)], rfl⟩
    case rest =>
    obtain ⟨rfl, rfl⟩ := hcut
    have hq := HQ.out
    subst hq
    have HB0 := HB
    clear HB KX ML NK kx4 kx5 SZ LZ HQ GX MX SX TN HBN HBS RS9 RS10 RS11
    go_upto_region 24 with (first | (go_at_call 10; refine (gangerlaw13_small.calls _ _ _ _ _ _ _ _ _ _ _ _ _ rfl).mono ?_; rintro e ws ⟨v9_, v10_, v11_, rfl, r9, r10, r11, hb⟩; obtain ⟨Bs9, ds9, rfl⟩ := Kd.R_slice r9; obtain ⟨Bs10, ds10, rfl⟩ := Kd.R_slice r10; obtain ⟨Bs11, ds11, rfl⟩ := Kd.R_slice r11; have RS9 := Aside0.mk (Kd.R_reads' r9).2; have RS10 := Aside0.mk (Kd.R_reads' r10).2; have RS11 := Aside0.mk (Kd.R_reads' r11).2; have HBS := Aside0.mk hb; clear r9 r10 r11 hb) | (go_at_call 9; refine (new_at 1 (by decide) (by decide) Bs9 ds9 Bs10 ds10 Bs11 ds11 (Glob.below HG.out (below_step HB0.out HBS.out)) RS9.out.2 RS9.out.1 RS10.out.2 RS10.out.1 RS11.out.2 RS11.out.1).mono ?_; rintro e wn ⟨t, x, rfl, hX, hT, hb⟩; have SX := Aside0.mk hX; have TN := Aside0.mk hT; have HBN := Aside0.mk hb; clear hX hT hb) | (go_at_call 11; refine (gangerlaw13_spec.calls (1) _ _ _ _ _ _ _ _ _ _ _ _ _ _ _ _ rfl).mono ?_; rintro e wp ⟨v6_, v9_, rfl, r6, r9, hb⟩; obtain ⟨Ap6, cp6, rfl⟩ := Kd.R_slice r6; obtain ⟨Ap9, cp9, rfl⟩ := Kd.R_slice (Kd.S_R r9); have HB := Aside0.mk (below_step (below_step (below_step HB0.out HBS.out) HBN.out) hb); have TB := Aside0.mk (TN.out.below hb); have ML := Aside0.mk hb.size; clear r6 r9 hb) | ((with_reducible refine gate_dst (N := 17) rfl ?_); refine box_event ?hg (N := 17) ?hd (cs := #[.string ⟨#[]⟩, .string ⟨#[]⟩, .string ⟨#[]⟩, .string ⟨#[]⟩, .int .i64 0, .int .i64 0, .slice none 0 0, .int .i64 0, .bool false, .slice none 0 0, .int .i64 0, .int .i64 0, .bool false, .bool false, .string ⟨#[]⟩]) (t := 41) ?hr ?_; (case hd => rfl); (case hg => rfl); (case hr => first | (go_simp; done) | (go_simp; rfl)); intro gb17 hg w17 hbox hb; have KX := Aside0.mk hbox; have GX := Aside0.mk (show W.heap.size ≤ gb17 by rw [hg]; exact below_size HB.out); have MX := Aside0.mk (show wn.heap.size ≤ gb17 by rw [hg]; exact ML.out); have n0_ := Aside0.mk (below_step HB.out hb); have n1_ := Aside0.mk (TB.out.below hb); have n2_ := Aside0.mk (Nat.le_trans ML.out hb.size); (try clear HB); (try clear TB); (try clear ML); have HB := n0_; clear n0_; have TB := n1_; clear n1_; have ML := n2_; clear n2_; clear hb hg hbox) | ((with_reducible refine gate_ (.store 41 (.tmp 17) (.tmp 73)) rfl ?_); refine agg_store rfl rfl rfl (g := gb17) (off := 0) (u := .agg #[.string ⟨#[106]⟩, .string ⟨#[97, 110, 110]⟩, .string ⟨#[109, 97, 105, 110]⟩, .string ⟨#[110, 111, 114, 109, 97, 108]⟩, .int .i64 1, .int .i64 50, .slice Ap6 0 cp6, .int .i64 0, .bool false, .slice Ap9 0 cp9, .int .i64 0, .int .i64 0, .bool false, .bool false, .string ⟨#[]⟩]) rfl rfl info41s KX.out [.string ⟨#[106]⟩, .string ⟨#[97, 110, 110]⟩, .string ⟨#[109, 97, 105, 110]⟩, .string ⟨#[110, 111, 114, 109, 97, 108]⟩, .int .i64 1, .int .i64 50, .slice Ap6 0 cp6, .int .i64 0, .bool false, .slice Ap9 0 cp9, .int .i64 0, .int .i64 0, .bool false, .bool false, .string ⟨#[]⟩] rfl rfl (by simp) (by simp [Value.oneCell']) #[.string ⟨#[106]⟩, .string ⟨#[97, 110, 110]⟩, .string ⟨#[109, 97, 105, 110]⟩, .string ⟨#[110, 111, 114, 109, 97, 108]⟩, .int .i64 1, .int .i64 50, .slice Ap6 0 cp6, .int .i64 0, .bool false, .slice Ap9 0 cp9, .int .i64 0, .int .i64 0, .bool false, .bool false, .string ⟨#[]⟩] rfl ?_; intro w17 hX hO; have n0_ := Aside0.mk (hO.below HB.out GX.out); have n1_ := Aside0.mk (hX); have n2_ := Aside0.mk (Tb_only hO TB.out (fun k hk e => by have h2 := hk.2; have h3 := MX.out; omega)); have n3_ := Aside0.mk (Nat.le_trans ML.out (Nat.le_of_eq hO.size.symm)); (try clear HB); (try clear KX); (try clear TB); (try clear ML); have HB := n0_; clear n0_; have KX := n1_; clear n1_; have TB := n2_; clear n2_; have ML := n3_; clear n3_; clear hX hO) | ((with_reducible refine gate_ (.store 9 (.tmp 74) (.const (.string ⟨#[104, 105, 103, 104]⟩))) rfl ?_); refine agg_store rfl rfl rfl (g := gb17) (off := 3) (u := .string ⟨#[104, 105, 103, 104]⟩) rfl rfl info9s KX.out [.string ⟨#[104, 105, 103, 104]⟩] rfl rfl (by simp) (by simp [Value.oneCell']) #[.string ⟨#[106]⟩, .string ⟨#[97, 110, 110]⟩, .string ⟨#[109, 97, 105, 110]⟩, .string ⟨#[104, 105, 103, 104]⟩, .int .i64 1, .int .i64 50, .slice Ap6 0 cp6, .int .i64 0, .bool false, .slice Ap9 0 cp9, .int .i64 0, .int .i64 0, .bool false, .bool false, .string ⟨#[]⟩] rfl ?_; intro w74 hX hO; have n0_ := Aside0.mk (hO.below HB.out GX.out); have n1_ := Aside0.mk (hX); have n2_ := Aside0.mk (Tb_only hO TB.out (fun k hk e => by have h2 := hk.2; have h3 := MX.out; omega)); have n3_ := Aside0.mk (Nat.le_trans ML.out (Nat.le_of_eq hO.size.symm)); (try clear HB); (try clear KX); (try clear TB); (try clear ML); have HB := n0_; clear n0_; have KX := n1_; clear n1_; have TB := n2_; clear n2_; have ML := n3_; clear n3_; clear hX hO))
    have WS := Aside0.mk (below_step HB0.out HBS.out).size
    go_wp2
    go_loopg [18] 3 (fun gk s18 wr => ∃ (i : Nat) (M1 : Nat → Prop), s18 = .int .i64 i ∧ Aside0 (i + gk = 3 ∧ i ≤ 2) ∧ Aside0 (Tb wr ws.heap.size M1 t x (hLn i)) ∧ Aside0 ((∀ k, M1 k → ws.heap.size ≤ k) ∧ (∀ k, M1 k → k < wr.heap.size) ∧ ¬ M1 gb17) ∧ Aside0 (wr.heap[gb17]? = some (.cells #[.string ⟨#[106]⟩, .string ⟨#[97, 110, 110]⟩, .string ⟨#[109, 97, 105, 110]⟩, .string ⟨#[104, 105, 103, 104]⟩, .int .i64 1, .int .i64 50, .slice Ap6 0 cp6, .int .i64 0, .bool false, .slice Ap9 0 cp9, .int .i64 0, .int .i64 0, .bool false, .bool false, .string ⟨#[]⟩] 41 (0, 0))) ∧ Aside0 (Below W.heap.size W wr) ∧ Aside0 (ws.heap.size ≤ wr.heap.size))
    case atStart => exact ⟨0, fun k => ws.heap.size ≤ k ∧ k < wn.heap.size, rfl, ⟨by omega, by omega⟩, TB, ⟨fun k h => h.1, fun k h => Nat.lt_of_lt_of_le h.2 ML.out, fun h => by have := MX.out; have := h.2; omega⟩, KX, HB, ⟨Nat.le_trans HBN.out.size ML.out⟩⟩
    case round =>
      obtain ⟨i, M1, rfl, GK, TB, MM, KX, HB, WL⟩ := hrel
      by_cases hlt : i < 2
      · have HLT := Aside0.mk hlt
        have hz : (i : Int) < 2 := by omega
        obtain ⟨gk, rfl⟩ : ∃ m, gk = m + 1 := ⟨gk - 1, by have := GK.out; omega⟩
        clear hlt
        go_wp2_with (first | ((with_reducible refine gate_ (.load 41 (.tmp 17)) rfl ?_); refine agg_load rfl (N := 81) rfl rfl Tryd.underlying41 info41s (g := gb17) (off := 0) rfl [.string ⟨#[106]⟩, .string ⟨#[97, 110, 110]⟩, .string ⟨#[109, 97, 105, 110]⟩, .string ⟨#[104, 105, 103, 104]⟩, .int .i64 1, .int .i64 50, .slice Ap6 0 cp6, .int .i64 0, .bool false, .slice Ap9 0 cp9, .int .i64 0, .int .i64 0, .bool false, .bool false, .string ⟨#[]⟩] rfl (blk_seg KX.out 0 15 rfl) ?_) | (go_at_call 12; refine (submit_at (M := M1) (hspec) (hsz) Ap6 cp6 Ap9 cp9 0 (Glob.below HG.out HB.out) (fun w' h => C_zero _ _ _) (by show (0 : Nat) ≤ _; omega) (fun w' h => C_zero _ _ _) (by show (0 : Nat) ≤ _; omega) (hlen i (by have := HLT.out; omega)) (MM.out.2.1) TB.out).mono ?_; rintro e w7 ⟨M2, Ao, co, o2, L2, q2, rfl, hS, hT, m1, m2, m3, hR, hK⟩; obtain ⟨rfl, rfl⟩ := high_sub SX.out (hroom i HLT.out) hS; have MN := Aside0.mk (show (∀ k, M2 k → ws.heap.size ≤ k) ∧ (∀ k, M2 k → k < w7.heap.size) ∧ ¬ M2 gb17 from ⟨fun k hk => (m2 k hk).elim (MM.out.1 k) (fun q => Nat.le_trans WL.out q), m3, fun hk => (m2 _ hk).elim MM.out.2.2 (fun q => by have := blk_lt KX.out; omega)⟩); have T2 := Aside0.mk hT; have n0_ := Aside0.mk (hK.below HB.out (fun k hk => Nat.le_trans WS.out (MM.out.1 k hk))); have n1_ := Aside0.mk (hK.blk KX.out MM.out.2.2); have n2_ := Aside0.mk (Nat.le_trans WL.out hK.size); (try clear HB); (try clear KX); (try clear WL); have HB := n0_; clear n0_; have KX := n1_; clear n1_; have WL := n2_; clear n2_; have MM2 := MN; clear hS hT m1 m2 m3 hR hK))
        go_roundg gk
        case measure => exact Nat.lt_succ_self _
        case rel => exact ⟨i + 1, M2, by go_num, ⟨by have := GK.out; omega, by have := HLT.out; omega⟩, ⟨by rw [← hnext i HLT.out]; exact T2.out⟩, MM2, KX, HB, WL⟩
      · have hz : (2 : Int) ≤ (i : Int) := by omega
        obtain rfl : i = 2 := by have := GK.out; omega
        have TB : Aside0 (Tb wr ws.heap.size M1 t x hL2) := TB
        clear hlt GK
        go_wp2_with (first | ((with_reducible refine gate_ (.load 41 (.tmp 17)) rfl ?_); refine agg_load rfl (N := 89) rfl rfl Tryd.underlying41 info41s (g := gb17) (off := 0) rfl [.string ⟨#[106]⟩, .string ⟨#[97, 110, 110]⟩, .string ⟨#[109, 97, 105, 110]⟩, .string ⟨#[104, 105, 103, 104]⟩, .int .i64 1, .int .i64 50, .slice Ap6 0 cp6, .int .i64 0, .bool false, .slice Ap9 0 cp9, .int .i64 0, .int .i64 0, .bool false, .bool false, .string ⟨#[]⟩] rfl (blk_seg KX.out 0 15 rfl) ?_) | (go_at_call 12; refine (submit_at (M := M1) (hspec) (hsz) Ap6 cp6 Ap9 cp9 0 (Glob.below HG.out HB.out) (fun w' h => C_zero _ _ _) (by show (0 : Nat) ≤ _; omega) (fun w' h => C_zero _ _ _) (by show (0 : Nat) ≤ _; omega) (hlen 2 (by decide)) (MM.out.2.1) TB.out).mono ?_; rintro e w8 ⟨M2, Ao, co, o2, L2, q2, rfl, hS, hT, m1, m2, m3, hR, hK⟩; obtain ⟨rfl, rfl⟩ := full_sub SX.out hS; have MN := Aside0.mk (show (∀ k, M2 k → ws.heap.size ≤ k) ∧ (∀ k, M2 k → k < w8.heap.size) ∧ ¬ M2 gb17 from ⟨fun k hk => (m2 k hk).elim (MM.out.1 k) (fun q => Nat.le_trans WL.out q), m3, fun hk => (m2 _ hk).elim MM.out.2.2 (fun q => by have := blk_lt KX.out; omega)⟩); have T2 := Aside0.mk hT; have n0_ := Aside0.mk (hK.below HB.out (fun k hk => Nat.le_trans WS.out (MM.out.1 k hk))); have n1_ := Aside0.mk (hK.blk KX.out MM.out.2.2); have n2_ := Aside0.mk (Nat.le_trans WL.out hK.size); (try clear HB); (try clear KX); (try clear WL); have HB := n0_; clear n0_; have KX := n1_; clear n1_; have WL := n2_; clear n2_; clear MM TB; have MM := MN; have TB := T2; clear MN T2; clear hS hT m1 m2 m3 hR hK) | (go_at_call 13; (with_reducible refine (t_end 1 0 7 k01 k1m TB.out).mono ?_); rintro e w9 ⟨he, c2, k2⟩; generalize (endP 1 0 7 hL2).1 = z at he; subst he; have n0_ := Aside0.mk ((show Tb w9 _ M2 t x hL3 from c2)); have n1_ := Aside0.mk (k2.below HB.out (fun k hk => Nat.le_trans WS.out (MM.out.1 k hk))); have n2_ := Aside0.mk (k2.blk KX.out MM.out.2.2); have n3_ := Aside0.mk ((⟨MM.out.1, fun k hk => Nat.lt_of_lt_of_le (MM.out.2.1 k hk) k2.size, MM.out.2.2⟩ : (∀ k, M2 k → ws.heap.size ≤ k) ∧ (∀ k, M2 k → k < w9.heap.size) ∧ ¬ M2 gb17)); have n4_ := Aside0.mk (Nat.le_trans WL.out k2.size); (try clear TB); (try clear HB); (try clear KX); (try clear MM); (try clear WL); have TB := n0_; clear n0_; have HB := n1_; clear n1_; have KX := n2_; clear n2_; have MM := n3_; clear n3_; have WL := n4_; clear n4_; clear c2 k2) | ((with_reducible refine gate_ (.load 41 (.tmp 17)) rfl ?_); refine agg_load rfl (N := 97) rfl rfl Tryd.underlying41 info41s (g := gb17) (off := 0) rfl [.string ⟨#[106]⟩, .string ⟨#[97, 110, 110]⟩, .string ⟨#[109, 97, 105, 110]⟩, .string ⟨#[104, 105, 103, 104]⟩, .int .i64 1, .int .i64 50, .slice Ap6 0 cp6, .int .i64 0, .bool false, .slice Ap9 0 cp9, .int .i64 0, .int .i64 0, .bool false, .bool false, .string ⟨#[]⟩] rfl (blk_seg KX.out 0 15 rfl) ?_) | (go_at_call 12; refine (submit_at (M := M2) (hspec) (hsz) Ap6 cp6 Ap9 cp9 0 (Glob.below HG.out HB.out) (fun w' h => C_zero _ _ _) (by show (0 : Nat) ≤ _; omega) (fun w' h => C_zero _ _ _) (by show (0 : Nat) ≤ _; omega) (hlen3) (MM.out.2.1) TB.out).mono ?_; rintro e w10 ⟨M3, Ao, co, o2, L2, q2, rfl, hS, hT, m1, m2, m3, hR, hK⟩; obtain ⟨rfl, rfl⟩ := high_sub SX.out hroom3 hS; have MN := Aside0.mk (show (∀ k, M3 k → ws.heap.size ≤ k) ∧ (∀ k, M3 k → k < w10.heap.size) ∧ ¬ M3 gb17 from ⟨fun k hk => (m2 k hk).elim (MM.out.1 k) (fun q => Nat.le_trans WL.out q), m3, fun hk => (m2 _ hk).elim MM.out.2.2 (fun q => by have := blk_lt KX.out; omega)⟩); have T2 := Aside0.mk hT; have n0_ := Aside0.mk (hK.below HB.out (fun k hk => Nat.le_trans WS.out (MM.out.1 k hk))); have n1_ := Aside0.mk (hK.blk KX.out MM.out.2.2); have n2_ := Aside0.mk (Nat.le_trans WL.out hK.size); (try clear HB); (try clear KX); (try clear WL); have HB := n0_; clear n0_; have KX := n1_; clear n1_; have WL := n2_; clear n2_; clear MM TB; have MM := MN; have TB := T2; clear MN T2; clear hS hT m1 m2 m3 hR hK) | (go_at_call 14; obtain ⟨_, _, c14⟩ := TB.out; refine (len_at c14).mono ?_; rintro e w14 ⟨he, rfl⟩; rw [hlen4] at he; subst he) | (go_at_call 15; refine (known_at (Glob.below HG.out HB.out)).mono ?_; rintro e w15 ⟨rfl, hb⟩; have HBK := Aside0.mk (below_step HB.out hb); clear hb))
        go_ret
        exact ⟨rfl, HBK.out⟩
end
end Go.Proofs.YtgkedamhicemiaaDoor.P
