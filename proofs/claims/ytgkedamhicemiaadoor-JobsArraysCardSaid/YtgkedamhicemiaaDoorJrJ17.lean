/- cut to what one law reaches -/
import Derived.Test.YtgkedamhicemiaaDoorJrJ13
import Derived.Test.YtgkedamhicemiaaDoorJrJ16
namespace Go.Proofs.YtgkedamhicemiaaDoor.P
open Go.RowKit Go.Proofs.YtgkedamhicemiaaDoorW.PrintWords Go.Proofs.YtgkedamhicemiaaDoorW.PrintLast Go.Proofs.YtgkedamhicemiaaDoorW.PrintMore
attribute [local go_sem] max2_int min2_int max_two min_two max_three min_three max_four min_four
set_option linter.unusedVariables false
set_option linter.unusedSimpArgs false
attribute [local go_sem] isSome_setCell
/-- what Submit says to an array, told in numbers -/
theorem arr_sub {x : Cg} {s : S41} {now q : Int} {L L' : List S58} {o : List Int} (h : SubR x s now L q o L') : (q ≠ 0 ∧ o = [] ∧ L' = L) ∨ (q = 0 ∧ (L.length : Int) + ((idxs s).length : Int) ≤ 500 ∧ ∃ p, o = idsK L (idxs s).length ∧ L' = L ++ newsK s p now L (idxs s).length) := by
  obtain ⟨r, hR, h⟩ := h
  rcases h with ⟨_, rfl, rfl, rfl⟩ | ⟨_, p, hA, ⟨h1, rfl, rfl⟩ | ⟨rfl, rfl, rfl⟩⟩
  · exact Or.inl ⟨by decide, rfl, rfl⟩
  · exact Or.inl ⟨h1, rfl, rfl⟩
  · exact Or.inr ⟨rfl, adm_ok hA, p, rfl, rfl⟩
theorem ids_rd (L : List S58) (k i : Nat) (h : i < k) : rd (idsK L k) (i : Int) = (L.length : Int) + 1 + i := by
  rw [rd, Int.toNat_natCast, List.getD_eq_getElem?_getD, List.getElem?_eq_getElem (by rw [idsK_len]; exact h)]
  simp [idsK]
theorem news_rd (s : S41) (p now : Int) (L : List S58) (k i : Nat) (h : i < k) : rd_T58 (L ++ newsK s p now L k) ((L.length + i : Nat) : Int) = mkJob s p now (firstId s L) ((L.length : Int) + 1 + i) ((idxs s).getD i 0) := by
  rw [rd_T58, Int.toNat_natCast, List.getD_eq_getElem?_getD, List.getElem?_append_right (by omega), Nat.add_sub_cancel_left, List.getElem?_eq_getElem (by rw [newsK_len]; exact h)]
  simp [newsK]
section
variable {W : World}
set_option maxHeartbeats 16000000 in
set_option maxRecDepth 100000 in
theorem arrays_at (l : List S70) (A : Option Addr) (cl : Nat) (ix : List Int) (Ai : Option Addr) (ci : Nat) (size : Int) (hC : Kd.C k70 W A l.length l) (hs : ∀ a ∈ l, szA a) (hI : Kd.C (Kd.int .i64) W Ai ix.length ix) (hci : ix.length ≤ ci) (hil : ix.length < 17592186044416) (hG : Glob W) :
    Calls Tryd.prog 7 #[.slice A l.length cl, .slice Ai ix.length ci, .int .i64 size] W (KnownPost W) := by
  have hu41 := Tryd.underlying41
  have hu36 := Tryd.underlying36
  have hu58 := Tryd.underlying58
  have HC := Aside0.mk hC
  have HS := Aside0.mk hs
  have HG := Aside0.mk hG
  have HX := Aside0.mk hI
  have CX := Aside0.mk hci
  have LX := Aside0.mk hil
  have SZ := Aside0.mk (szz_in 8 size (by omega) (by omega))
  clear hC hs hG hI hci hil
  go_enter Tryd.func7, Tryd.ntmps7
  go_upto_if 28 with (first | (go_at_call 21; refine (table_at l A cl (HC.out) HS.out (Glob.below HG.out (Below.refl _ _))).mono ?_; rintro e w2 ⟨t, rfl, x, M, N, L, hX, hN, hI, hT, m0, m1, hb⟩; have SX := Aside0.mk hX; have NN := Aside0.mk hN; have II := Aside0.mk hI; have T := Aside0.mk hT; have M0 := Aside0.mk m0; have M1 := Aside0.mk m1; have HBT := Aside0.mk hb; clear hX hN hI hT m0 m1 hb) | (go_at_call 22; refine (long_at l A cl (Kd.C_below HC.out HBT.out)).mono ?_; rintro e w3 ⟨bl, rfl, hb⟩; have n0_ := Aside0.mk (below_step HBT.out hb); have n1_ := Aside0.mk (T.out.below hb); have n2_ := Aside0.mk ((fun k h => Nat.lt_of_lt_of_le (M1.out k h) hb.size : ∀ k, M k → k < w3.heap.size)); (try clear HBL); (try clear T); (try clear M1); have HBL := n0_; clear n0_; have T := n1_; clear n1_; have M1 := n2_; clear n2_; clear hb; cases bl))
  rotate_left
  · go_wp2_with (first | (go_at_call 15; refine (known_at (Glob.below HG.out HBL.out)).mono ?_; rintro e w4 ⟨rfl, hb⟩; have HBK := Aside0.mk (below_step HBL.out hb); clear hb))
    go_ret
    exact ⟨rfl, HBK.out⟩
  · by_cases hx : (1100 : Int) < (ix.length : Int)
    · go_wp2_with (first | (go_at_call 15; refine (known_at (Glob.below HG.out HBL.out)).mono ?_; rintro e w4 ⟨rfl, hb⟩; have HBK := Aside0.mk (below_step HBL.out hb); clear hb))
      go_ret
      exact ⟨rfl, HBK.out⟩
    · have hx2 : (ix.length : Int) ≤ 1100 := by omega
      clear hx
      go_upto_if 52 with (first | (go_at_call 14; obtain ⟨_, _, c14⟩ := T.out; refine (len_at c14).mono ?_; rintro e w14 ⟨rfl, rfl⟩) | (go_at_call 11; refine (gangerlaw13_spec.calls (szz 8 size) _ _ _ _ _ _ _ _ _ _ _ _ _ _ _ _ rfl).mono ?_; rintro e wp ⟨v6_, v9_, rfl, r6, r9, hb⟩; obtain ⟨Ap6, cp6, rfl⟩ := Kd.R_slice r6; obtain ⟨Ap9, cp9, rfl⟩ := Kd.R_slice (Kd.S_R r9); have HB := Aside0.mk (below_step HBL.out hb); have TB := Aside0.mk (T.out.below hb); have ML := Aside0.mk (Nat.le_trans HBL.out.size hb.size); have MB := Aside0.mk (fun k h => Nat.lt_of_lt_of_le (M1.out k h) hb.size : ∀ k, M k → k < wp.heap.size); clear r6 r9 hb) | ((with_reducible refine gate_dst (N := 9) rfl ?_); refine box_event ?hg (N := 9) ?hd (cs := #[.string ⟨#[]⟩, .string ⟨#[]⟩, .string ⟨#[]⟩, .string ⟨#[]⟩, .int .i64 0, .int .i64 0, .slice none 0 0, .int .i64 0, .bool false, .slice none 0 0, .int .i64 0, .int .i64 0, .bool false, .bool false, .string ⟨#[]⟩]) (t := 41) ?hr ?_; (case hd => rfl); (case hg => rfl); (case hr => first | (go_simp; done) | (go_simp; rfl)); intro gb9 hg w9 hbox hb; have KX := Aside0.mk hbox; have GX := Aside0.mk (show W.heap.size ≤ gb9 by rw [hg]; exact below_size HB.out); have NX := Aside0.mk (show ¬ M gb9 from fun h => by have := MB.out _ h; omega); have n0_ := Aside0.mk (below_step HB.out hb); have n1_ := Aside0.mk (TB.out.below hb); have n2_ := Aside0.mk ((fun k h => Nat.lt_of_lt_of_le (MB.out k h) hb.size : ∀ k, M k → k < w9.heap.size)); (try clear HB); (try clear TB); (try clear MB); have HB := n0_; clear n0_; have TB := n1_; clear n1_; have MB := n2_; clear n2_; clear hb hg hbox) | ((with_reducible refine gate_ (.store 41 (.tmp 9) (.tmp 41)) rfl ?_); refine agg_store rfl rfl rfl (g := gb9) (off := 0) (u := .agg #[.string ⟨#[106]⟩, .string ⟨#[97, 110, 110]⟩, .string ⟨#[109, 97, 105, 110]⟩, .string ⟨#[110, 111, 114, 109, 97, 108]⟩, .int .i64 (szz 8 size), .int .i64 50, .slice Ap6 0 cp6, .int .i64 0, .bool false, .slice Ap9 0 cp9, .int .i64 0, .int .i64 0, .bool false, .bool false, .string ⟨#[]⟩]) rfl rfl info41s KX.out [.string ⟨#[106]⟩, .string ⟨#[97, 110, 110]⟩, .string ⟨#[109, 97, 105, 110]⟩, .string ⟨#[110, 111, 114, 109, 97, 108]⟩, .int .i64 (szz 8 size), .int .i64 50, .slice Ap6 0 cp6, .int .i64 0, .bool false, .slice Ap9 0 cp9, .int .i64 0, .int .i64 0, .bool false, .bool false, .string ⟨#[]⟩] rfl rfl (by simp) (by simp [Value.oneCell']) #[.string ⟨#[106]⟩, .string ⟨#[97, 110, 110]⟩, .string ⟨#[109, 97, 105, 110]⟩, .string ⟨#[110, 111, 114, 109, 97, 108]⟩, .int .i64 (szz 8 size), .int .i64 50, .slice Ap6 0 cp6, .int .i64 0, .bool false, .slice Ap9 0 cp9, .int .i64 0, .int .i64 0, .bool false, .bool false, .string ⟨#[]⟩] rfl ?_; intro w5 hX hO; have n0_ := Aside0.mk (hO.below HB.out GX.out); have n1_ := Aside0.mk (hX); have n2_ := Aside0.mk (Tb_only hO TB.out (fun k hk e => NX.out (e ▸ hk))); have n3_ := Aside0.mk ((fun k h => by rw [hO.size]; exact MB.out k h : ∀ k, M k → k < w5.heap.size)); (try clear HB); (try clear KX); (try clear TB); (try clear MB); have HB := n0_; clear n0_; have KX := n1_; clear n1_; have TB := n2_; clear n2_; have MB := n3_; clear n3_; clear hX hO) | ((with_reducible refine gate_ (.store 34 (.tmp 44) (.tmp 42)) rfl ?_); refine agg_store rfl rfl rfl (g := gb9) (off := 6) (u := .slice Ai ix.length ci) rfl rfl infoS34 KX.out [.slice Ai ix.length ci] rfl rfl (by simp) (by simp [Value.oneCell']) #[.string ⟨#[106]⟩, .string ⟨#[97, 110, 110]⟩, .string ⟨#[109, 97, 105, 110]⟩, .string ⟨#[110, 111, 114, 109, 97, 108]⟩, .int .i64 (szz 8 size), .int .i64 50, .slice Ai ix.length ci, .int .i64 0, .bool false, .slice Ap9 0 cp9, .int .i64 0, .int .i64 0, .bool false, .bool false, .string ⟨#[]⟩] rfl ?_; intro w34 hX hO; have n0_ := Aside0.mk (hO.below HB.out GX.out); have n1_ := Aside0.mk (hX); have n2_ := Aside0.mk (Tb_only hO TB.out (fun k hk e => NX.out (e ▸ hk))); have n3_ := Aside0.mk ((fun k h => by rw [hO.size]; exact MB.out k h : ∀ k, M k → k < w34.heap.size)); (try clear HB); (try clear KX); (try clear TB); (try clear MB); have HB := n0_; clear n0_; have KX := n1_; clear n1_; have TB := n2_; clear n2_; have MB := n3_; clear n3_; clear hX hO) | ((with_reducible refine gate_ (.load 41 (.tmp 9)) rfl ?_); refine agg_load rfl (N := 47) rfl rfl Tryd.underlying41 info41s (g := gb9) (off := 0) rfl [.string ⟨#[106]⟩, .string ⟨#[97, 110, 110]⟩, .string ⟨#[109, 97, 105, 110]⟩, .string ⟨#[110, 111, 114, 109, 97, 108]⟩, .int .i64 (szz 8 size), .int .i64 50, .slice Ai ix.length ci, .int .i64 0, .bool false, .slice Ap9 0 cp9, .int .i64 0, .int .i64 0, .bool false, .bool false, .string ⟨#[]⟩] rfl (blk_seg KX.out 0 15 rfl) ?_) | (go_at_call 12; refine (submit_at (M := M) (spc nmMain nmNormal (szz 8 size) 50 ix) (spc_sz _ _ _ _ _ (by decide +kernel) (by decide +kernel) LX.out) Ai ci Ap9 cp9 7 (Glob.below HG.out HB.out) (fun w' h => Kd.C_below HX.out (h.below HB.out M0.out)) CX.out (fun w' h => C_zero _ _ _) (by show (0 : Nat) ≤ _; omega) II.out.len MB.out TB.out).mono ?_; rintro e w6 ⟨M2, Ao, co, o2, L2, q2, rfl, hS, hT, m1, m2, m3, hR, hK⟩; have HQ := Aside0.mk (arr_sub hS); have RO := Aside0.mk hR; have M3 := Aside0.mk m3; have T2 := Aside0.mk hT; have n0_ := Aside0.mk (hK.below HB.out M0.out); (try clear HB); have HB := n0_; clear n0_; clear hS hT m1 m2 m3 hR hK))
      rcases HQ.out with ⟨hq, rfl, rfl⟩ | ⟨rfl, h5, p, rfl, rfl⟩
      · have T := T2
        have hq1 : (q2 == 0) = false := beq_false_of_ne hq
        have hq2 : (q2 != 0) = true := bne_iff_ne.2 hq
        clear hq HQ
        go_wp2_with (first | (go_at_call 14; obtain ⟨_, _, c14⟩ := T.out; refine (len_at c14).mono ?_; rintro e w14 ⟨rfl, rfl⟩) | (go_at_call 15; refine (known_at (Glob.below HG.out HB.out)).mono ?_; rintro e w15 ⟨rfl, hb⟩; have HBK := Aside0.mk (below_step HB.out hb); clear hb))
        go_ret
        exact ⟨rfl, HBK.out⟩
      · clear HQ
        have H5 := Aside0.mk h5
        have hmx : max (ix.length : Int) 1 = ((idxs (spc nmMain nmNormal (szz 8 size) 50 ix)).length : Int) := by
          by_cases e : ix = []
          · subst e; rfl
          · rw [show idxs (spc nmMain nmNormal (szz 8 size) 50 ix) = ix from if_neg e]
            have : 0 < ix.length := List.length_pos_iff.2 e
            omega
        have hk5 : ((idxs (spc nmMain nmNormal (szz 8 size) 50 ix)).length : Int) ≤ 500 := by omega
        have hk1 : 1 ≤ ((idxs (spc nmMain nmNormal (szz 8 size) 50 ix)).length : Int) := by omega
        have hnz : (L.length : Int) ≤ 499 := by omega
        obtain ⟨sS, hsS⟩ : ∃ s, s = spc nmMain nmNormal (szz 8 size) 50 ix := ⟨_, rfl⟩
        have HSS := Aside0.mk hsS
        rw [← hsS] at hmx hk5 hk1 RO T2
        clear h5 H5
        simp only [← hsS, idsK_len]
        clear hsS
        have RO2 : Aside0 (Kd.R (Kd.int .u32) 48 w6 _ _ (.slice Ao (idxs sS).length co) (idsK L (idxs sS).length)) := ⟨by have h := RO.out; rw [idsK_len] at h; exact h⟩
        obtain ⟨kk, hkk⟩ : ∃ k, k = (idxs sS).length := ⟨_, rfl⟩
        have HKK := Aside0.mk hkk
        rw [← hkk] at hmx hk5 hk1 RO2 T2 ⊢
        clear hkk RO
        obtain ⟨ao, eO, _⟩ := Kd.at_int (Kd.R_reads' RO2.out).2.2 0 (by omega) (by rw [idsK_len]; omega)
        subst eO
        have hsum : wrap64 ((L.length : Int) + (kk : Int)) = (L.length : Int) + (kk : Int) := by unfold wrap64; omega
        by_cases e : ix = []
        · subst e
          obtain rfl : kk = 1 := by rw [HKK.out, HSS.out]; rfl
          go_wp2_with (first | (go_at_call 14; obtain ⟨_, _, c14⟩ := T2.out; refine (len_at c14).mono ?_; rintro e w14 ⟨he, hw⟩; have hw := hw.symm; subst hw; rw [List.length_append, newsK_len, Int.natCast_add] at he; subst he))
          go_loopg [13] (1 + 1) (fun gk s13 wr => ∃ i : Nat, s13 = .int .i64 i ∧ Aside0 (i + gk = 1 + 1 ∧ i ≤ 1) ∧ Aside0 (Below w6.heap.size w6 wr))
          case atStart => exact ⟨0, rfl, ⟨by omega, by omega⟩, ⟨Below.refl _ _⟩⟩
          case round =>
            obtain ⟨i, rfl, GK, HR⟩ := hrel
            by_cases hlt : i < 1
            · have hlz : (i : Int) < (1 : Int) := by omega
              have HLT := Aside0.mk hlt
              obtain ⟨gk, rfl⟩ : ∃ m, gk = m + 1 := ⟨gk - 1, by have := GK.out; omega⟩
              have hm1 : ((L.length : Int) + 1 + (i : Int)) % 4294967296 = (L.length : Int) + 1 + (i : Int) := by omega
              have hm2 : ((L.length : Int) + 1) % 4294967296 = (L.length : Int) + 1 := by omega
              have hw1 : IntKind.i64.wrap ((L.length : Int) + 1) = (L.length : Int) + 1 := by rw [i64_w]; unfold wrap64; omega
              have hw2 : wrap64 ((L.length : Int) + 1) = (L.length : Int) + 1 := by unfold wrap64; omega
              have hw3 : wrap64 ((L.length : Int) + 1 + (i : Int)) = (L.length : Int) + 1 + (i : Int) := by unfold wrap64; omega
              obtain ⟨ad, eA, cI⟩ := Kd.at_int (Kd.R_reads' RO2.out).2.2 (i : Int) (by omega) (by rw [idsK_len]; omega)
              injection eA with eA
              subst eA
              rw [Int.toNat_natCast, ids_rd L 1 i hlt] at cI
              have CI := Aside0.mk cI
              have cO := pw_cell_below HR.out cI
              clear cI
              have T := Aside0.mk (T2.out.below HR.out)
              obtain ⟨j, ej⟩ : ∃ j, j = mkJob sS p 7 (firstId sS L) ((L.length : Int) + 1 + (i : Int)) ((idxs sS).getD i 0) := ⟨_, rfl⟩
              have HJ := Aside0.mk ((news_rd sS p 7 L 1 i hlt).trans ej.symm)
              have F1 : Aside0 (j.f1 = 0) := ⟨by rw [ej, HSS.out]; exact (show firstId (spc nmMain nmNormal (szz 8 size) 50 []) L = 0 from if_pos rfl)⟩
              have F2 : Aside0 (j.f2 = -1) := ⟨by rw [ej, HSS.out]; (obtain rfl : i = 0 := by omega); rfl⟩
              have F5 : Aside0 (j.f5 = 1) := ⟨by rw [ej, HSS.out]; rfl⟩
              have F6 : Aside0 (j.f6 = 7) := ⟨by rw [ej]; rfl⟩
              have FS : Aside0 (szS j.f3) := ⟨by rw [ej, HSS.out]; exact spc_sz _ _ _ _ _ (by decide +kernel) (by decide +kernel) LX.out⟩
              clear ej hlt
              skip
              go_upto_region 19 with (first | (go_at_call 19; have hg_ := t_get (L.length + i) ((L.length : Int) + 1 + (i : Int)) (by omega) (by omega) (by omega) (by rw [List.length_append, newsK_len, Int.natCast_add]; omega) (by rw [HJ.out]; exact FS.out) T.out; rw [HJ.out] at hg_; refine hg_.mono ?_; clear hg_; rintro e w7 ⟨A9, d9, A12, d12, rfl, r9, r12, hb⟩; have n0_ := Aside0.mk (below_step HR.out hb); (try clear HR); have HR := n0_; clear n0_; have cO := pw_cell_below HR.out CI.out; clear r9 r12 hb) | ((with_reducible refine gate_dst (N := 14) rfl ?_); refine box_event ?hg (N := 14) ?hd (cs := #[.int .u32 0, .int .u32 0, .int .i64 0, .string ⟨#[]⟩, .string ⟨#[]⟩, .string ⟨#[]⟩, .string ⟨#[]⟩, .int .i64 0, .int .i64 0, .slice none 0 0, .int .i64 0, .bool false, .slice none 0 0, .int .i64 0, .int .i64 0, .bool false, .bool false, .string ⟨#[]⟩, .int .i64 0, .int .i64 0, .int .i64 0, .int .i64 0, .int .i64 0, .int .i64 0, .int .i64 0, .int .i64 0]) (t := 58) ?hr ?_; (case hd => rfl); (case hg => rfl); (case hr => first | (go_simp; done) | (go_simp; rfl)); intro gb14 hg w14 hbox hb; have KV := Aside0.mk hbox; have GV := Aside0.mk (show w6.heap.size ≤ gb14 by rw [hg]; exact below_size HR.out); have n0_ := Aside0.mk (below_step HR.out hb); (try clear HR); have HR := n0_; clear n0_; have cO := pw_cell_below HR.out CI.out; clear hb hg hbox) | ((with_reducible refine gate_ (.store 58 (.tmp 14) (.tmp 92)) rfl ?_); refine agg_store rfl rfl rfl (g := gb14) (off := 0) (u := .agg #[.int .u32 j.f0, .int .u32 j.f1, .int .i64 j.f2, .string j.f3.f0, .string j.f3.f1, .string j.f3.f2, .string j.f3.f3, .int .i64 j.f3.f4, .int .i64 j.f3.f5, .slice A9 j.f3.f6.f0.length d9, .int .i64 j.f3.f6.f1, .bool j.f3.f7.f0, .slice A12 j.f3.f7.f1.length d12, .int .i64 j.f3.f8, .int .i64 j.f3.f9, .bool j.f3.f10, .bool j.f3.f11, .string j.f3.f12, .int .i64 j.f4, .int .i64 j.f5, .int .i64 j.f6, .int .i64 j.f7, .int .i64 j.f8, .int .i64 j.f9, .int .i64 j.f10.f0, .int .i64 j.f10.f1]) rfl rfl info58s KV.out [.int .u32 j.f0, .int .u32 j.f1, .int .i64 j.f2, .string j.f3.f0, .string j.f3.f1, .string j.f3.f2, .string j.f3.f3, .int .i64 j.f3.f4, .int .i64 j.f3.f5, .slice A9 j.f3.f6.f0.length d9, .int .i64 j.f3.f6.f1, .bool j.f3.f7.f0, .slice A12 j.f3.f7.f1.length d12, .int .i64 j.f3.f8, .int .i64 j.f3.f9, .bool j.f3.f10, .bool j.f3.f11, .string j.f3.f12, .int .i64 j.f4, .int .i64 j.f5, .int .i64 j.f6, .int .i64 j.f7, .int .i64 j.f8, .int .i64 j.f9, .int .i64 j.f10.f0, .int .i64 j.f10.f1] rfl rfl (by simp) (by simp [Value.oneCell']) #[.int .u32 j.f0, .int .u32 j.f1, .int .i64 j.f2, .string j.f3.f0, .string j.f3.f1, .string j.f3.f2, .string j.f3.f3, .int .i64 j.f3.f4, .int .i64 j.f3.f5, .slice A9 j.f3.f6.f0.length d9, .int .i64 j.f3.f6.f1, .bool j.f3.f7.f0, .slice A12 j.f3.f7.f1.length d12, .int .i64 j.f3.f8, .int .i64 j.f3.f9, .bool j.f3.f10, .bool j.f3.f11, .string j.f3.f12, .int .i64 j.f4, .int .i64 j.f5, .int .i64 j.f6, .int .i64 j.f7, .int .i64 j.f8, .int .i64 j.f9, .int .i64 j.f10.f0, .int .i64 j.f10.f1] rfl ?_; intro w8 hX hO; have n0_ := Aside0.mk (hO.below HR.out GV.out); have n1_ := Aside0.mk (hX); (try clear HR); (try clear KV); have HR := n0_; clear n0_; have KV := n1_; clear n1_; have cO := pw_cell_below HR.out CI.out; have kz1 := (blk_cell KV.out 1).trans (congrArg (fun z => some (Value.int .u32 z)) F1.out); have kz2 := (blk_cell KV.out 2).trans (congrArg (fun z => some (Value.int .i64 z)) F2.out); have kz19 := (blk_cell KV.out 19).trans (congrArg (fun z => some (Value.int .i64 z)) F5.out); have kz20 := (blk_cell KV.out 20).trans (congrArg (fun z => some (Value.int .i64 z)) F6.out); clear hX hO))
              have q1 : (((0 : Nat) : Int) == 0) = true := rfl
              go_wp2
              go_region
              all_goals go_wp2
              all_goals (go_roundg gk; (case measure => exact Nat.lt_succ_self _); (case rel => exact ⟨i + 1, by go_num, ⟨by have := GK.out; omega, HLT.out⟩, ⟨by repeat (first | exact HR.out | apply pw_below_drewN | apply below_drew1)⟩⟩))
            · have hlz : (1 : Int) ≤ (i : Int) := by omega
              clear hlt
              go_wp2_with (first | (go_at_call 15; refine (known_at (Glob.below HG.out (below_step HB.out HR.out))).mono ?_; rintro e w15 ⟨rfl, hb⟩; have HBK := Aside0.mk (below_step (below_step HB.out HR.out) hb); clear hb))
              go_ret
              exact ⟨rfl, HBK.out⟩
        · have NE := Aside0.mk e
          obtain rfl : kk = ix.length := by rw [HKK.out, HSS.out]; exact congrArg List.length (if_neg e)
          clear e
          go_wp2_with (first | (go_at_call 14; obtain ⟨_, _, c14⟩ := T2.out; refine (len_at c14).mono ?_; rintro e w14 ⟨he, hw⟩; have hw := hw.symm; subst hw; rw [List.length_append, newsK_len, Int.natCast_add] at he; subst he))
          go_loopg [13] (ix.length + 1) (fun gk s13 wr => ∃ i : Nat, s13 = .int .i64 i ∧ Aside0 (i + gk = ix.length + 1 ∧ i ≤ ix.length) ∧ Aside0 (Below w6.heap.size w6 wr))
          case atStart => exact ⟨0, rfl, ⟨by omega, by omega⟩, ⟨Below.refl _ _⟩⟩
          case round =>
            obtain ⟨i, rfl, GK, HR⟩ := hrel
            by_cases hlt : i < ix.length
            · have hlz : (i : Int) < (ix.length : Int) := by omega
              have HLT := Aside0.mk hlt
              obtain ⟨gk, rfl⟩ : ∃ m, gk = m + 1 := ⟨gk - 1, by have := GK.out; omega⟩
              have hm1 : ((L.length : Int) + 1 + (i : Int)) % 4294967296 = (L.length : Int) + 1 + (i : Int) := by omega
              have hm2 : ((L.length : Int) + 1) % 4294967296 = (L.length : Int) + 1 := by omega
              have hw1 : IntKind.i64.wrap ((L.length : Int) + 1) = (L.length : Int) + 1 := by rw [i64_w]; unfold wrap64; omega
              have hw2 : wrap64 ((L.length : Int) + 1) = (L.length : Int) + 1 := by unfold wrap64; omega
              have hw3 : wrap64 ((L.length : Int) + 1 + (i : Int)) = (L.length : Int) + 1 + (i : Int) := by unfold wrap64; omega
              obtain ⟨ad, eA, cI⟩ := Kd.at_int (Kd.R_reads' RO2.out).2.2 (i : Int) (by omega) (by rw [idsK_len]; omega)
              injection eA with eA
              subst eA
              rw [Int.toNat_natCast, ids_rd L ix.length i hlt] at cI
              have CI := Aside0.mk cI
              have cO := pw_cell_below HR.out cI
              clear cI
              have T := Aside0.mk (T2.out.below HR.out)
              obtain ⟨j, ej⟩ : ∃ j, j = mkJob sS p 7 (firstId sS L) ((L.length : Int) + 1 + (i : Int)) ((idxs sS).getD i 0) := ⟨_, rfl⟩
              have HJ := Aside0.mk ((news_rd sS p 7 L ix.length i hlt).trans ej.symm)
              have F1 : Aside0 (j.f1 = (L.length : Int) + 1) := ⟨by rw [ej, HSS.out]; show firstId _ L = _; exact if_neg NE.out⟩
              have F2 : Aside0 (j.f2 = rd ix (i : Int)) := ⟨by rw [ej, HSS.out]; rw [show idxs (spc nmMain nmNormal (szz 8 size) 50 ix) = ix from if_neg NE.out, mkJob, rd, Int.toNat_natCast]⟩
              have F5 : Aside0 (j.f5 = 1) := ⟨by rw [ej, HSS.out]; rfl⟩
              have F6 : Aside0 (j.f6 = 7) := ⟨by rw [ej]; rfl⟩
              have FS : Aside0 (szS j.f3) := ⟨by rw [ej, HSS.out]; exact spc_sz _ _ _ _ _ (by decide +kernel) (by decide +kernel) LX.out⟩
              clear ej hlt
              obtain ⟨ax, eX, cX0⟩ := Kd.at_int HX.out (i : Int) (by omega) hlz
              subst eX
              rw [Int.toNat_natCast] at cX0
              have CXX := Aside0.mk cX0
              clear cX0
              go_upto_region 19 with (first | (go_at_call 19; have hg_ := t_get (L.length + i) ((L.length : Int) + 1 + (i : Int)) (by omega) (by omega) (by omega) (by rw [List.length_append, newsK_len, Int.natCast_add]; omega) (by rw [HJ.out]; exact FS.out) T.out; rw [HJ.out] at hg_; refine hg_.mono ?_; clear hg_; rintro e w7 ⟨A9, d9, A12, d12, rfl, r9, r12, hb⟩; have n0_ := Aside0.mk (below_step HR.out hb); (try clear HR); have HR := n0_; clear n0_; have cO := pw_cell_below HR.out CI.out; clear r9 r12 hb) | ((with_reducible refine gate_dst (N := 14) rfl ?_); refine box_event ?hg (N := 14) ?hd (cs := #[.int .u32 0, .int .u32 0, .int .i64 0, .string ⟨#[]⟩, .string ⟨#[]⟩, .string ⟨#[]⟩, .string ⟨#[]⟩, .int .i64 0, .int .i64 0, .slice none 0 0, .int .i64 0, .bool false, .slice none 0 0, .int .i64 0, .int .i64 0, .bool false, .bool false, .string ⟨#[]⟩, .int .i64 0, .int .i64 0, .int .i64 0, .int .i64 0, .int .i64 0, .int .i64 0, .int .i64 0, .int .i64 0]) (t := 58) ?hr ?_; (case hd => rfl); (case hg => rfl); (case hr => first | (go_simp; done) | (go_simp; rfl)); intro gb14 hg w14 hbox hb; have KV := Aside0.mk hbox; have GV := Aside0.mk (show w6.heap.size ≤ gb14 by rw [hg]; exact below_size HR.out); have n0_ := Aside0.mk (below_step HR.out hb); (try clear HR); have HR := n0_; clear n0_; have cO := pw_cell_below HR.out CI.out; clear hb hg hbox) | ((with_reducible refine gate_ (.store 58 (.tmp 14) (.tmp 92)) rfl ?_); refine agg_store rfl rfl rfl (g := gb14) (off := 0) (u := .agg #[.int .u32 j.f0, .int .u32 j.f1, .int .i64 j.f2, .string j.f3.f0, .string j.f3.f1, .string j.f3.f2, .string j.f3.f3, .int .i64 j.f3.f4, .int .i64 j.f3.f5, .slice A9 j.f3.f6.f0.length d9, .int .i64 j.f3.f6.f1, .bool j.f3.f7.f0, .slice A12 j.f3.f7.f1.length d12, .int .i64 j.f3.f8, .int .i64 j.f3.f9, .bool j.f3.f10, .bool j.f3.f11, .string j.f3.f12, .int .i64 j.f4, .int .i64 j.f5, .int .i64 j.f6, .int .i64 j.f7, .int .i64 j.f8, .int .i64 j.f9, .int .i64 j.f10.f0, .int .i64 j.f10.f1]) rfl rfl info58s KV.out [.int .u32 j.f0, .int .u32 j.f1, .int .i64 j.f2, .string j.f3.f0, .string j.f3.f1, .string j.f3.f2, .string j.f3.f3, .int .i64 j.f3.f4, .int .i64 j.f3.f5, .slice A9 j.f3.f6.f0.length d9, .int .i64 j.f3.f6.f1, .bool j.f3.f7.f0, .slice A12 j.f3.f7.f1.length d12, .int .i64 j.f3.f8, .int .i64 j.f3.f9, .bool j.f3.f10, .bool j.f3.f11, .string j.f3.f12, .int .i64 j.f4, .int .i64 j.f5, .int .i64 j.f6, .int .i64 j.f7, .int .i64 j.f8, .int .i64 j.f9, .int .i64 j.f10.f0, .int .i64 j.f10.f1] rfl rfl (by simp) (by simp [Value.oneCell']) #[.int .u32 j.f0, .int .u32 j.f1, .int .i64 j.f2, .string j.f3.f0, .string j.f3.f1, .string j.f3.f2, .string j.f3.f3, .int .i64 j.f3.f4, .int .i64 j.f3.f5, .slice A9 j.f3.f6.f0.length d9, .int .i64 j.f3.f6.f1, .bool j.f3.f7.f0, .slice A12 j.f3.f7.f1.length d12, .int .i64 j.f3.f8, .int .i64 j.f3.f9, .bool j.f3.f10, .bool j.f3.f11, .string j.f3.f12, .int .i64 j.f4, .int .i64 j.f5, .int .i64 j.f6, .int .i64 j.f7, .int .i64 j.f8, .int .i64 j.f9, .int .i64 j.f10.f0, .int .i64 j.f10.f1] rfl ?_; intro w8 hX hO; have n0_ := Aside0.mk (hO.below HR.out GV.out); have n1_ := Aside0.mk (hX); (try clear HR); (try clear KV); have HR := n0_; clear n0_; have KV := n1_; clear n1_; have cO := pw_cell_below HR.out CI.out; have kz1 := (blk_cell KV.out 1).trans (congrArg (fun z => some (Value.int .u32 z)) F1.out); have kz2 := (blk_cell KV.out 2).trans (congrArg (fun z => some (Value.int .i64 z)) F2.out); have kz19 := (blk_cell KV.out 19).trans (congrArg (fun z => some (Value.int .i64 z)) F5.out); have kz20 := (blk_cell KV.out 20).trans (congrArg (fun z => some (Value.int .i64 z)) F6.out); clear hX hO))
              have q1 : ((ix.length : Int) == 0) = false := beq_false_of_ne (by omega)
              have q2 : decide (0 < (ix.length : Int)) = true := decide_eq_true (by omega)
              have q3 : 0 < ix.length := by omega
              have q4 : decide (0 < ix.length) = true := decide_eq_true q3
              have cX := pw_cell_below (below_step HB.out HR.out) CXX.out
              go_wp2
              go_region
              all_goals go_wp2
              all_goals (go_roundg gk; (case measure => exact Nat.lt_succ_self _); (case rel => exact ⟨i + 1, by go_num, ⟨by have := GK.out; omega, HLT.out⟩, ⟨by repeat (first | exact HR.out | apply pw_below_drewN | apply below_drew1)⟩⟩))
            · have hlz : (ix.length : Int) ≤ (i : Int) := by omega
              clear hlt
              go_wp2_with (first | (go_at_call 15; refine (known_at (Glob.below HG.out (below_step HB.out HR.out))).mono ?_; rintro e w15 ⟨rfl, hb⟩; have HBK := Aside0.mk (below_step (below_step HB.out HR.out) hb); clear hb))
              go_ret
              exact ⟨rfl, HBK.out⟩
end
end Go.Proofs.YtgkedamhicemiaaDoor.P
