/- cut to what one law reaches -/
import Derived.Test.YtgkedamhicemiaaDoorJyJ10
namespace Go.Proofs.YtgkedamhicemiaaDoor.P
open Go.RowKit Go.Proofs.YtgkedamhicemiaaDoorW.PrintWords Go.Proofs.YtgkedamhicemiaaDoorW.PrintLast Go.Proofs.YtgkedamhicemiaaDoorW.PrintMore
attribute [local go_sem] max2_int min2_int max_two min_two max_three min_three max_four min_four
set_option linter.unusedVariables false
set_option linter.unusedSimpArgs false
attribute [local go_sem] isSome_setCell
/-- what table leaves: a table of the laws' configuration, in blocks of its own -/
def TblAt (W : World) (t : Nat) (w' : World) : Prop := ∃ (x : Cg) (M : Nat → Prop) (N : Nat) (L : List S58), SmX 1 x ∧ N ≤ 50 ∧ Inv x N L ∧ Tb w' W.heap.size M t x L ∧ (∀ k, M k → W.heap.size ≤ k) ∧ (∀ k, M k → k < w'.heap.size) ∧ Below W.heap.size W w'
def TblPost (W : World) (e : Ending) (w' : World) : Prop := ∃ t, e = .returned (.pointer (some ⟨t, 0, none⟩)) ∧ TblAt W t w'
theorem info70s : (Tryd.prog.info? 70).map (·.size) = some 24 := by kernel_rfl
/-- the acts' own sizes -/
def szA (a : S70) : Prop := szS a.f1 ∧ 0 ≤ a.f3.f1 ∧ a.f3.f1 ≤ 4294967295
section
variable {W : World}
set_option maxHeartbeats 8000000 in
set_option maxRecDepth 100000 in
theorem table_at (l : List S70) (A : Option Addr) (cl : Nat) (hC : Kd.C k70 W A l.length l) (hs : ∀ a ∈ l, szA a) (hG : Glob W) :
    Calls Tryd.prog 21 #[.slice A l.length cl] W (TblPost W) := by
  have hu70 := Tryd.underlying70
  have HC := Aside0.mk hC
  have HS := Aside0.mk hs
  have HG := Aside0.mk hG
  have hmax := hC.2.1
  clear hC hs hG
  go_enter Tryd.func21, Tryd.ntmps21
  go_wp2_with (first | (go_at_call 10; refine (gangerlaw13_small.calls _ _ _ _ _ _ _ _ _ _ _ _ _ rfl).mono ?_; rintro e ws ⟨v9_, v10_, v11_, rfl, r9, r10, r11, hb⟩; obtain ⟨Bs9, ds9, rfl⟩ := Kd.R_slice r9; obtain ⟨Bs10, ds10, rfl⟩ := Kd.R_slice r10; obtain ⟨Bs11, ds11, rfl⟩ := Kd.R_slice r11; have RS9 := Aside0.mk (Kd.R_reads' r9).2; have RS10 := Aside0.mk (Kd.R_reads' r10).2; have RS11 := Aside0.mk (Kd.R_reads' r11).2; have HBS := Aside0.mk hb; clear r9 r10 r11 hb) | (go_at_call 9; refine (new_at 1 (by decide) (by decide) Bs9 ds9 Bs10 ds10 Bs11 ds11 (Glob.below HG.out HBS.out) RS9.out.2 RS9.out.1 RS10.out.2 RS10.out.1 RS11.out.2 RS11.out.1).mono ?_; rintro e wn ⟨t, x, rfl, hX, hT, hb⟩; have SX := Aside0.mk hX; have TN := Aside0.mk hT; have HBN := Aside0.mk hb; clear hX hT hb))
  go_loopg [5] 51 (fun gk s5 wr => ∃ (i : Nat) (M1 : Nat → Prop) (L1 : List S58), s5 = .int .i64 i ∧ Aside0 (i + gk = 51 ∧ i ≤ 50 ∧ i ≤ l.length) ∧ Aside0 (Tb wr W.heap.size M1 t x L1) ∧ Aside0 (Inv x i L1) ∧ Aside0 ((∀ k, M1 k → W.heap.size ≤ k) ∧ (∀ k, M1 k → k < wr.heap.size)) ∧ Aside0 (Below W.heap.size W wr))
  case atStart => exact ⟨0, fun k => ws.heap.size ≤ k ∧ k < wn.heap.size, [], rfl, ⟨by omega, by omega, by omega⟩, ⟨by obtain ⟨Aj, cj, c⟩ := TN.out; exact ⟨Aj, cj, ⟨fun k hk => Nat.le_trans HBS.out.size (c.mb k hk), c.mt, c.b, Kd.R_lower c.r9 HBS.out.size, Kd.R_lower c.r10 HBS.out.size, Kd.R_lower c.r11 HBS.out.size, Kd.R_lower c.rj HBS.out.size⟩⟩⟩, ⟨Inv.nil x⟩, ⟨fun k hk => Nat.le_trans HBS.out.size hk.1, fun k hk => hk.2⟩, ⟨below_step HBS.out HBN.out⟩⟩
  case round =>
    obtain ⟨i, M1, L1, rfl, GK, T1, I1, MM, HB⟩ := hrel
    by_cases hlt : i < l.length
    · by_cases h50 : i < 50
      · have H5 := Aside0.mk h50
        have HL := Aside0.mk hlt
        have hlz : (i : Int) < (l.length : Int) := by omega
        have hz50 : (i : Int) < 50 := by omega
        obtain ⟨gk, rfl⟩ : ∃ m, gk = m + 1 := ⟨gk - 1, by have := GK.out; omega⟩
        obtain ⟨ad, ce, eA, hcl, hK, hcc⟩ := Kd.C_get HC.out z70 (i : Int) (by omega) hlz
        subst eA
        have hia : l.getD (i : Int).toNat z70 = l[i] := by rw [Int.toNat_natCast, List.getD_eq_getElem?_getD, List.getElem?_eq_getElem hlt]; rfl
        rw [hia] at hK
        obtain ⟨A6, c6, A9, c9, rfl, hc6, g6, hc9, g9⟩ := k70_open hK
        have hsa := HS.out _ (List.getElem_mem hlt)
        have HSA := Aside0.mk hsa
        have HC6 := Aside0.mk hc6
        have HC9 := Aside0.mk hc9
        have G6 := Aside0.mk g6
        have G9 := Aside0.mk g9
        have hcc2 : ∀ j u, ([.int .i64 l[i].f0, .string l[i].f1.f0, .string l[i].f1.f1, .string l[i].f1.f2, .string l[i].f1.f3, .int .i64 l[i].f1.f4, .int .i64 l[i].f1.f5, .slice A6 l[i].f1.f6.f0.length c6, .int .i64 l[i].f1.f6.f1, .bool l[i].f1.f7.f0, .slice A9 l[i].f1.f7.f1.length c9, .int .i64 l[i].f1.f8, .int .i64 l[i].f1.f9, .bool l[i].f1.f10, .bool l[i].f1.f11, .string l[i].f1.f12, .int .i64 l[i].f2, .int .i64 l[i].f3.f0, .int .u32 l[i].f3.f1, .int .i64 l[i].f3.f2, .int .i64 l[i].f3.f3.f0, .int .i64 l[i].f3.f3.f1, .int .i64 l[i].f3.f4, .bool l[i].f4] : List Value)[j]? = some u → W.cell? ((ad.add (i * 24)).add j) = some u := fun j u hu => by rw [addr_add_add]; exact hcc j u hu
        have HCC := Aside0.mk hcc2
        clear hcc hcc2 hK hcl hia hc6 hc9 g6 g9 hsa h50
        generalize l[i] = a at HSA HC6 HC9 G6 G9 HCC
        clear hlt
        go_wp2_with (first | ((with_reducible refine gate_ (.load 70 (.tmp 30)) rfl ?_); refine agg_loadA rfl (N := 31) rfl rfl Tryd.underlying70 info70s (b := ad.add (i * 24)) rfl [.int .i64 a.f0, .string a.f1.f0, .string a.f1.f1, .string a.f1.f2, .string a.f1.f3, .int .i64 a.f1.f4, .int .i64 a.f1.f5, .slice A6 a.f1.f6.f0.length c6, .int .i64 a.f1.f6.f1, .bool a.f1.f7.f0, .slice A9 a.f1.f7.f1.length c9, .int .i64 a.f1.f8, .int .i64 a.f1.f9, .bool a.f1.f10, .bool a.f1.f11, .string a.f1.f12, .int .i64 a.f2, .int .i64 a.f3.f0, .int .u32 a.f3.f1, .int .i64 a.f3.f2, .int .i64 a.f3.f3.f0, .int .i64 a.f3.f3.f1, .int .i64 a.f3.f4, .bool a.f4] rfl (fun j u hu => pw_cell_below HB.out (HCC.out j u hu)) ?_) | (go_at_call 23; refine (step_at i a HSA.out.1 HSA.out.2.1 HSA.out.2.2 A6 c6 A9 c9 (Glob.below HG.out HB.out) (fun w' h => Kd.C_below G6.out (h.below HB.out MM.out.1)) HC6.out (fun w' h => Kd.C_below G9.out (h.below HB.out MM.out.1)) HC9.out I1.out MM.out.2 T1.out).mono ?_; rintro e w2 ⟨rfl, M2, L2, hS, hT, m1, m2, m3, hK⟩; have SR := Aside0.mk hS; have T2 := Aside0.mk hT; have MX := Aside0.mk (And.intro m1 (And.intro m2 m3)); have K2 := Aside0.mk hK; clear hS hT m1 m2 m3 hK))
        go_roundg gk
        case measure => exact Nat.lt_succ_self _
        case rel => exact ⟨i + 1, M2, L2, by go_num, ⟨by have := GK.out; omega, by have := H5.out; omega, HL.out⟩, T2, ⟨Inv.step I1.out (by have := H5.out; omega) HSA.out.1 HSA.out.2.1 SR.out⟩, ⟨fun k hk => (MX.out.2.1 k hk).elim (MM.out.1 k) (fun q => Nat.le_trans HB.out.size q), MX.out.2.2⟩, ⟨K2.out.below HB.out MM.out.1⟩⟩
      · have h51 : (50 : Int) ≤ (i : Int) := by omega
        have hlz : (i : Int) < (l.length : Int) := by omega
        have H5 := Aside0.mk GK.out.2.1
        clear h50 hlt
        go_wp2
        go_ret
        exact ⟨t, rfl, x, M1, i, L1, SX.out, H5.out, I1.out, T1.out, MM.out.1, MM.out.2, HB.out⟩
    · have hle : (l.length : Int) ≤ (i : Int) := by omega
      have H5 := Aside0.mk GK.out.2.1
      clear hlt
      go_wp2
      go_ret
      exact ⟨t, rfl, x, M1, i, L1, SX.out, H5.out, I1.out, T1.out, MM.out.1, MM.out.2, HB.out⟩
end
end Go.Proofs.YtgkedamhicemiaaDoor.P
