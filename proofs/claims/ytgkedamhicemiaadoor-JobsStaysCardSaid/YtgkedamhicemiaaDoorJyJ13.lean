/- cut to what one law reaches -/
import Derived.Test.YtgkedamhicemiaaDoorJyJ11
namespace Go.Proofs.YtgkedamhicemiaaDoor.P
open Go.RowKit Go.Proofs.YtgkedamhicemiaaDoorW.PrintWords Go.Proofs.YtgkedamhicemiaaDoorW.PrintLast Go.Proofs.YtgkedamhicemiaaDoorW.PrintMore
attribute [local go_sem] max2_int min2_int max_two min_two max_three min_three max_four min_four
set_option linter.unusedVariables false
set_option linter.unusedSimpArgs false
attribute [local go_sem] isSome_setCell
theorem sub1 {α : Type} {x : α} {seg rest : List α} {j : Nat} {u : α} (h : seg[j]? = some u) : (x :: (seg ++ rest))[1 + j]? = some u := by
  rw [Nat.add_comm, List.getElem?_cons_succ]
  have hj : j < seg.length := by
    rcases Nat.lt_or_ge j seg.length with q | q
    · exact q
    · rw [List.getElem?_eq_none q] at h; cases h
  rw [List.getElem?_append_left hj]
  exact h
def BoolPost (W : World) (e : Ending) (w' : World) : Prop := ∃ b : Bool, e = .returned (.bool b) ∧ Below W.heap.size W w'
section
variable {W : World}
set_option maxHeartbeats 8000000 in
set_option maxRecDepth 100000 in
theorem long_at (l : List S70) (A : Option Addr) (cl : Nat) (hC : Kd.C k70 W A l.length l) : Calls Tryd.prog 22 #[.slice A l.length cl] W (BoolPost W) := by
  have hu70 := Tryd.underlying70
  have hu41 := Tryd.underlying41
  have hu36 := Tryd.underlying36
  have hu39 := Tryd.underlying39
  have hu105 := Tryd.underlying105
  have HC := Aside0.mk hC
  have hmax := hC.2.1
  clear hC
  go_enter Tryd.func22, Tryd.ntmps22
  go_wp2
  go_loopg [3] 201 (fun gk s3 wr => ∃ (i : Nat), s3 = .int .i64 i ∧ Aside0 (i + gk = 201 ∧ i ≤ 200) ∧ Aside0 (Below W.heap.size W wr))
  case atStart => exact ⟨0, rfl, ⟨by omega, by omega⟩, ⟨Below.refl _ _⟩⟩
  case round =>
    obtain ⟨i, rfl, GK, HB⟩ := hrel
    by_cases hlt : i < l.length
    · by_cases h50 : i < 200
      · have H5 := Aside0.mk h50
        have hlz : (i : Int) < (l.length : Int) := by omega
        have hz50 : (i : Int) < 200 := by omega
        obtain ⟨g0, rfl⟩ : ∃ m, gk = m + 1 := ⟨gk - 1, by have := GK.out; omega⟩
        obtain ⟨ad, ce, eA, hcl, hK, hcc⟩ := Kd.C_get HC.out z70 (i : Int) (by omega) hlz
        subst eA
        have hia : l.getD (i : Int).toNat z70 = l[i] := by rw [Int.toNat_natCast, List.getD_eq_getElem?_getD, List.getElem?_eq_getElem hlt]; rfl
        rw [hia] at hK
        obtain ⟨A6, c6, A9, c9, rfl, hc6, g6, hc9, g9⟩ := k70_open hK
        have G9 := Aside0.mk g9
        have hm9 := g9.2.1
        have hm6 := g6.2.1
        have hcc2 : ∀ j u, ([.string l[i].f1.f0, .string l[i].f1.f1, .string l[i].f1.f2, .string l[i].f1.f3, .int .i64 l[i].f1.f4, .int .i64 l[i].f1.f5, .slice A6 l[i].f1.f6.f0.length c6, .int .i64 l[i].f1.f6.f1, .bool l[i].f1.f7.f0, .slice A9 l[i].f1.f7.f1.length c9, .int .i64 l[i].f1.f8, .int .i64 l[i].f1.f9, .bool l[i].f1.f10, .bool l[i].f1.f11, .string l[i].f1.f12] : List Value)[j]? = some u → W.cell? ⟨(ad.add (i * 24)).block, ((ad.add (i * 24)).off + 1) + j, none⟩ = some u := fun j u hu => by
          have h := hcc (1 + j) u (sub1 (rest := [.int .i64 l[i].f2, .int .i64 l[i].f3.f0, .int .u32 l[i].f3.f1, .int .i64 l[i].f3.f2, .int .i64 l[i].f3.f3.f0, .int .i64 l[i].f3.f3.f1, .int .i64 l[i].f3.f4, .bool l[i].f4]) hu)
          rw [show (i : Int).toNat * k70.sz + (1 + j) = i * 24 + (1 + j) from rfl, add_field _ _ _ (by omega)] at h
          rw [Nat.add_assoc]
          exact h
        have HCC := Aside0.mk hcc2
        clear hcc hcc2 hK hcl hia hc6 hc9 g6 g9 h50
        generalize l[i] = a at G9 HCC hm6 hm9
        clear hlt
        go_upto_region 5 with (first | ((with_reducible refine gate_ (.load 41 (.tmp 19)) rfl ?_); refine agg_load rfl (N := 20) rfl rfl Tryd.underlying41 info41s (g := ((ad.add (i * 24)).block)) (off := ((ad.add (i * 24)).off + 1)) rfl [.string a.f1.f0, .string a.f1.f1, .string a.f1.f2, .string a.f1.f3, .int .i64 a.f1.f4, .int .i64 a.f1.f5, .slice A6 a.f1.f6.f0.length c6, .int .i64 a.f1.f6.f1, .bool a.f1.f7.f0, .slice A9 a.f1.f7.f1.length c9, .int .i64 a.f1.f8, .int .i64 a.f1.f9, .bool a.f1.f10, .bool a.f1.f11, .string a.f1.f12] rfl (fun j u hu => pw_cell_below HB.out (HCC.out j u hu)) ?_) | ((with_reducible refine gate_dst (N := 4) rfl ?_); refine box_event ?hg (N := 4) ?hd (cs := #[.string ⟨#[]⟩, .string ⟨#[]⟩, .string ⟨#[]⟩, .string ⟨#[]⟩, .int .i64 0, .int .i64 0, .slice none 0 0, .int .i64 0, .bool false, .slice none 0 0, .int .i64 0, .int .i64 0, .bool false, .bool false, .string ⟨#[]⟩]) (t := 41) ?hr ?_; (case hd => rfl); (case hg => rfl); (case hr => first | (go_simp; done) | (go_simp; rfl)); intro gb4 hg w4 hbox hb; have KX := Aside0.mk hbox; have GX := Aside0.mk (show W.heap.size ≤ gb4 by rw [hg]; exact below_size HB.out); have n0_ := Aside0.mk (below_step HB.out hb); (try clear HB); have HB := n0_; clear n0_; clear hb hg hbox) | ((with_reducible refine gate_ (.store 41 (.tmp 4) (.tmp 20)) rfl ?_); refine agg_store rfl rfl rfl (g := gb4) (off := 0) (u := .agg #[.string a.f1.f0, .string a.f1.f1, .string a.f1.f2, .string a.f1.f3, .int .i64 a.f1.f4, .int .i64 a.f1.f5, .slice A6 a.f1.f6.f0.length c6, .int .i64 a.f1.f6.f1, .bool a.f1.f7.f0, .slice A9 a.f1.f7.f1.length c9, .int .i64 a.f1.f8, .int .i64 a.f1.f9, .bool a.f1.f10, .bool a.f1.f11, .string a.f1.f12]) rfl rfl info41s KX.out [.string a.f1.f0, .string a.f1.f1, .string a.f1.f2, .string a.f1.f3, .int .i64 a.f1.f4, .int .i64 a.f1.f5, .slice A6 a.f1.f6.f0.length c6, .int .i64 a.f1.f6.f1, .bool a.f1.f7.f0, .slice A9 a.f1.f7.f1.length c9, .int .i64 a.f1.f8, .int .i64 a.f1.f9, .bool a.f1.f10, .bool a.f1.f11, .string a.f1.f12] rfl rfl (by simp) (by simp [Value.oneCell']) #[.string a.f1.f0, .string a.f1.f1, .string a.f1.f2, .string a.f1.f3, .int .i64 a.f1.f4, .int .i64 a.f1.f5, .slice A6 a.f1.f6.f0.length c6, .int .i64 a.f1.f6.f1, .bool a.f1.f7.f0, .slice A9 a.f1.f7.f1.length c9, .int .i64 a.f1.f8, .int .i64 a.f1.f9, .bool a.f1.f10, .bool a.f1.f11, .string a.f1.f12] rfl ?_; intro w5 hX hO; have n0_ := Aside0.mk (hO.below HB.out GX.out); have n1_ := Aside0.mk (hX); (try clear HB); (try clear KX); have HB := n0_; clear n0_; have KX := n1_; clear n1_; clear hX hO))
        have kx0 := (blk_cell KX.out 0).trans rfl
        have kx1 := (blk_cell KX.out 1).trans rfl
        have kx2 := (blk_cell KX.out 2).trans rfl
        have kx3 := (blk_cell KX.out 3).trans rfl
        have kx14 := (blk_cell KX.out 14).trans rfl
        have kx6 := (blk_cell KX.out 6).trans rfl
        have kx9 := (blk_cell KX.out 9).trans rfl
        simp only [Act.put, List.setIfInBounds_toArray, List.set_cons_zero, List.set_cons_succ]
        go_cut [62] (fun s62 wx => ∃ b : Bool, s62 = .bool b ∧ Aside0 (wx.heap[gb4]? = some (.cells #[.string a.f1.f0, .string a.f1.f1, .string a.f1.f2, .string a.f1.f3, .int .i64 a.f1.f4, .int .i64 a.f1.f5, .slice A6 a.f1.f6.f0.length c6, .int .i64 a.f1.f6.f1, .bool a.f1.f7.f0, .slice A9 a.f1.f7.f1.length c9, .int .i64 a.f1.f8, .int .i64 a.f1.f9, .bool a.f1.f10, .bool a.f1.f11, .string a.f1.f12] 41 (0, 0))) ∧ Aside0 (Below W.heap.size W wx))
        case first =>
          go_wp2
          all_goals go_meet
          all_goals exact ⟨_, rfl, by assumption, by assumption⟩
        case rest =>
          obtain ⟨b, rfl, KX, HB⟩ := hcut
          cases b with
          | true =>
            go_wp2
            go_ret
            exact ⟨true, rfl, HB.out⟩
          | false =>
            have kx9 := (blk_cell KX.out 9).trans rfl
            go_wp2
            go_loopg [5] (a.f1.f7.f1.length + 1) (fun gj s5 wr => ∃ (k : Nat), s5 = .int .i64 k ∧ Aside0 (k + gj = a.f1.f7.f1.length + 1 ∧ k ≤ a.f1.f7.f1.length) ∧ wr = wc)
            case atStart => exact ⟨0, rfl, ⟨by omega, by omega⟩, rfl⟩
            case round =>
              obtain ⟨k, rfl, GJ, rfl⟩ := hrel
              by_cases hk : k < a.f1.f7.f1.length
              · have HK := Aside0.mk hk
                obtain ⟨gj, rfl⟩ : ∃ m, gk = m + 1 := ⟨gk - 1, by have := GJ.out; omega⟩
                have hkz : (k : Int) < (a.f1.f7.f1.length : Int) := by omega
                obtain ⟨ae, A1, c1, eE, e0, e1, hle, hC1⟩ := at_T105 (Kd.C_below G9.out HB.out) (k : Int) (by omega) hkz
                have hm1 := hC1.2.1
                subst eE
                rw [Int.toNat_natCast] at e0 e1
                clear hle hC1 hk
                generalize (rd_T105 a.f1.f7.f1 (k : Int)).f1.length = m1 at e1 hm1
                by_cases h30 : 30 < m1
                · have h31 : (30 : Int) < (m1 : Int) := by omega
                  clear h30
                  go_wp2
                  go_ret
                  exact ⟨true, rfl, HB.out⟩
                · have h31 : (m1 : Int) ≤ 30 := by omega
                  clear h30
                  go_wp2
                  go_roundg gj
                  case measure => exact Nat.lt_succ_self _
                  case rel => exact ⟨k + 1, by go_num, ⟨by have := GJ.out; omega, HK.out⟩, rfl⟩
              · have hkz : (a.f1.f7.f1.length : Int) ≤ (k : Int) := by omega
                clear hk
                go_wp2
                go_roundg g0
                case measure => exact Nat.lt_succ_self _
                case rel => exact ⟨i + 1, by go_num, ⟨by have := GK.out; omega, H5.out⟩, HB⟩
      · have h51 : (200 : Int) ≤ (i : Int) := by omega
        have hlz : (i : Int) < (l.length : Int) := by omega
        clear h50 hlt
        go_wp2
        go_ret
        exact ⟨false, rfl, HB.out⟩
    · have hle : (l.length : Int) ≤ (i : Int) := by omega
      clear hlt
      go_wp2
      go_ret
      exact ⟨false, rfl, HB.out⟩
end
end Go.Proofs.YtgkedamhicemiaaDoor.P
