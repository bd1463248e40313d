/- cut to what one law reaches -/
import Derived.Test.YtgkedamhicemiaaDoorJyJ15
import Derived.Test.YtgkedamhicemiaaDoorJyJ16
namespace Go.Proofs.YtgkedamhicemiaaDoor.P
open Go.RowKit Go.Proofs.YtgkedamhicemiaaDoorW.PrintWords Go.Proofs.YtgkedamhicemiaaDoorW.PrintLast Go.Proofs.YtgkedamhicemiaaDoorW.PrintMore
attribute [local go_sem] max2_int min2_int max_two min_two max_three min_three max_four min_four
set_option linter.unusedVariables false
set_option linter.unusedSimpArgs false
attribute [local go_sem] isSome_setCell
theorem rd_app {L N : List S58} {k : Nat} (h : k < L.length) : rd_T58 (L ++ N) (k : Int) = rd_T58 L (k : Int) := by
  rw [rd_T58, rd_T58, Int.toNat_natCast, List.getD_eq_getElem?_getD, List.getD_eq_getElem?_getD, List.getElem?_append_left h]
/-- of an act: none is lost, and what had ended stays as it was -/
theorem step_len {x : Cg} {a : S70} {L L' : List S58} (h0 : 0 ≤ a.f3.f1) (h : StepR x a L L') : L.length ≤ L'.length := by
  rcases h with ⟨_, q, out, r, _, ⟨_, _, _, rfl⟩ | ⟨_, p, _, ⟨_, _, rfl⟩ | ⟨_, _, rfl⟩⟩⟩ | ⟨_, now, rfl⟩
  · exact Nat.le_refl _
  · exact Nat.le_refl _
  · rw [List.length_append]; omega
  · exact Nat.le_of_eq (call_len (call_r _ _ _ _ _ _ _ _ h0)).symm
theorem step_ended {x : Cg} {a : S70} {L L' : List S58} (h0 : 0 ≤ a.f3.f1) (h : StepR x a L L') {k : Nat} (hk : k < L.length) (h5 : 5 ≤ (rd_T58 L (k : Int)).f5) : rd_T58 L' (k : Int) = rd_T58 L (k : Int) := by
  rcases h with ⟨_, q, out, r, _, ⟨_, _, _, rfl⟩ | ⟨_, p, _, ⟨_, _, rfl⟩ | ⟨_, _, rfl⟩⟩⟩ | ⟨_, now, rfl⟩
  · rfl
  · rfl
  · exact rd_app hk
  · rcases call_at (call_r x.h.f3 a.f3.f0 a.f3.f1 now a.f3.f3.f0 a.f3.f3.f1 a.f3.f4 L h0) k hk with ⟨_, e⟩ | ⟨_, _, m⟩
    · exact e
    · have := m.o; omega
theorem nmN_l : nmNormal.toList = [110, 111, 114, 109, 97, 108] := by with_unfolding_all rfl
theorem nmH_l : nmHigh.toList = [104, 105, 103, 104] := by with_unfolding_all rfl
theorem run_loadJX {ev : Operand → Value} {o : Oper} {p : Operand} (ho : o.op = .load 58 p) {w' : World} {g off : Nat} (ha : ev p = .pointer (some ⟨g, off, none⟩)) (seg : List Value) (hl : seg.length = 26) (hc : ∀ j u, seg[j]? = some u → w'.cell? ⟨g, off + j, none⟩ = some u) :
    (execOp ev o).run Tryd.prog w' = .ok (.value (.agg seg.toArray)) w' := by
  have h2 := run_loadCells_at (P := Tryd.prog) seg hc
  rw [hl] at h2
  obtain ⟨i, hi, hsz⟩ := Option.map_eq_some_iff.1 info58s
  have h3 : (Instr.loadAt 58 (.pointer (some ⟨g, off, none⟩))).run Tryd.prog w' = .ok (.agg seg.toArray) w' := by
    simp [Instr.loadAt, Instr.sureAddr, loadVar, isAgg, run_underlying Tryd.underlying58, sizeOf, typeInfo, hi, hsz, h2]
  unfold execOp
  simp only [ho, ha, Sem.run_bind, Sem.run_pure, Result.andThen_ok, h3]
theorem inv_rd {x : Cg} {N : Nat} {L : List S58} (i : Inv x N L) {k : Nat} (hk : k < L.length) : (rd_T58 L (k : Int)).f0 = (k : Int) + 1 ∧ 1 ≤ (rd_T58 L (k : Int)).f5 ∧ (rd_T58 L (k : Int)).f5 ≤ 9 := by
  have h1 : rd_T58 L (k : Int) = L[k] := by rw [rd_T58, Int.toNat_natCast, List.getD_eq_getElem?_getD, List.getElem?_eq_getElem hk]; rfl
  rw [h1]
  exact ⟨i.num k hk, i.how _ (List.getElem_mem hk)⟩
theorem about_rd (qos : ByteArray) (L : List S58) (k : Nat) (h : k < L.length) : aboutP qos (L.take (k + 1)) = aboutP qos (L.take k) + if isAb qos (rd_T58 L (k : Int)) = true then 1 else 0 := by
  have h1 : rd_T58 L (k : Int) = L[k] := by rw [rd_T58, Int.toNat_natCast, List.getD_eq_getElem?_getD, List.getElem?_eq_getElem h]; rfl
  rw [h1]; exact about_succ qos L k h
section
variable {W : World}
set_option maxHeartbeats 16000000 in
set_option maxRecDepth 100000 in
theorem stays_at (l l1 : List S70) (A : Option Addr) (cl : Nat) (A1 : Option Addr) (cl1 : Nat) (hC : Kd.C k70 W A l.length l) (hs : ∀ a ∈ l, szA a) (hC1 : Kd.C k70 W A1 l1.length l1) (hs1 : ∀ a ∈ l1, szA a) (hG : Glob W) :
    Calls Tryd.prog 5 #[.slice A l.length cl, .slice A1 l1.length cl1] W (KnownPost W) := by
  have hu70 := Tryd.underlying70
  have hu58 := Tryd.underlying58
  have hu41 := Tryd.underlying41
  have HC := Aside0.mk hC
  have HS := Aside0.mk hs
  have HC1 := Aside0.mk hC1
  have HS1 := Aside0.mk hs1
  have HG := Aside0.mk hG
  have hmax := hC1.2.1
  clear hC hs hC1 hs1 hG
  go_enter Tryd.func5, Tryd.ntmps5
  go_upto_region 2 with (first | (go_at_call 21; refine (table_at l A cl (HC.out) HS.out (Glob.below HG.out (Below.refl _ _))).mono ?_; rintro e w2 ⟨t, rfl, x, M, N, L, hX, hN, hI, hT, m0, m1, hb⟩; have SX := Aside0.mk hX; have NN := Aside0.mk hN; have II := Aside0.mk hI; have T := Aside0.mk hT; have M0 := Aside0.mk m0; have M1 := Aside0.mk m1; have HBT := Aside0.mk hb; clear hX hN hI hT m0 m1 hb))
  have HBL := HBT
  go_upto_if 28 with (first | (go_at_call 22; (with_reducible refine (long_at l A cl (Kd.C_below HC.out HBL.out)).mono ?_); rintro e w3 ⟨bl, rfl, hb⟩; have n0_ := Aside0.mk (below_step HBL.out hb); have n1_ := Aside0.mk (T.out.below hb); have n2_ := Aside0.mk ((fun k h => Nat.lt_of_lt_of_le (M1.out k h) hb.size : ∀ k, M k → k < w3.heap.size)); (try clear HBL); (try clear T); (try clear M1); have HBL := n0_; clear n0_; have T := n1_; clear n1_; have M1 := n2_; clear n2_; clear hb; cases bl) | (go_at_call 22; (with_reducible refine (long_at l1 A1 cl1 (Kd.C_below HC1.out HBL.out)).mono ?_); rintro e w3 ⟨bl, rfl, hb⟩; have n0_ := Aside0.mk (below_step HBL.out hb); have n1_ := Aside0.mk (T.out.below hb); have n2_ := Aside0.mk ((fun k h => Nat.lt_of_lt_of_le (M1.out k h) hb.size : ∀ k, M k → k < w3.heap.size)); (try clear HBL); (try clear T); (try clear M1); have HBL := n0_; clear n0_; have T := n1_; clear n1_; have M1 := n2_; clear n2_; clear hb; cases bl))
  rotate_left
  iterate 2
    · go_wp2_with (first | (go_at_call 15; refine (known_at (Glob.below HG.out HBL.out)).mono ?_; rintro e w40 ⟨rfl, hb⟩; have HBK := Aside0.mk (below_step HBL.out hb); clear hb))
      go_ret
      exact ⟨rfl, HBK.out⟩
  clear HBT
  have NN0 := Aside0.mk (NN.out : N ≤ 50)
  go_wp2
  go_loopg [6] 51 (fun gk s6 wr => ∃ (i : Nat) (M' : Nat → Prop) (L1 : List S58), s6 = .int .i64 (i : Int) ∧ Aside0 (i + gk = 51 ∧ i ≤ 50 ∧ i ≤ l1.length) ∧ Aside0 (Tb wr W.heap.size M' t x L1) ∧ Aside0 (Inv x (N + i) L1) ∧ Aside0 ((∀ k, M' k → W.heap.size ≤ k) ∧ (∀ k, M' k → k < wr.heap.size)) ∧ Aside0 (Below W.heap.size W wr))
  case atStart => exact ⟨0, M, L, rfl, ⟨by omega, by omega, by omega⟩, T, II, ⟨M0.out, M1.out⟩, HBL⟩
  case round =>
    clear T II M0 M1 HBL
    obtain ⟨i, M', L1, rfl, GK, T, I1, MM, HB⟩ := hrel
    by_cases hlt : i < l1.length
    · by_cases h50 : i < 50
      · have H5 := Aside0.mk h50
        have HL := Aside0.mk hlt
        have hlz : (i : Int) < (l1.length : Int) := by omega
        have hz50 : (i : Int) < 50 := by omega
        have hL5 := I1.out.len
        obtain ⟨gko, rfl⟩ : ∃ m, gk = m + 1 := ⟨gk - 1, by have := GK.out; omega⟩
        clear hlt h50
        go_upto_region 10 with (first | (go_at_call 14; obtain ⟨_, _, c14⟩ := T.out; refine (len_at c14).mono ?_; rintro e w14 ⟨he, hw⟩; have hw := hw.symm; subst hw; subst he))
        rename World => wo
        have TO := T
        have HBO := HB
        go_loopg [8, 9] (L1.length + 1) (fun gk s8 s9 wr => ∃ (k : Nat) (Ao : Option Addr) (co : Nat), s9 = .int .i64 ((k : Int) + 1) ∧ s8 = .slice Ao k co ∧ Aside0 (k + gk = L1.length + 1 ∧ k ≤ L1.length) ∧ Aside0 (Kd.R k58 58 wr wo.heap.size (fun b => wo.heap.size ≤ b) (.slice Ao k co) (L1.take k)) ∧ Aside0 (Below wo.heap.size wo wr))
        case atStart => exact ⟨0, none, 0, rfl, rfl, ⟨by omega, by omega⟩, ⟨Kd.R_nil _ _ _ _ _⟩, ⟨Below.refl _ _⟩⟩
        case round =>
          obtain ⟨k, Ao, co, rfl, rfl, GI, RW, HB3⟩ := hrel
          have TW := Aside0.mk (TO.out.below HB3.out)
          by_cases hk : k < L1.length
          · have hkz : (k : Int) + 1 ≤ (L1.length : Int) := by omega
            have hk5 : (k : Int) ≤ 499 := by omega
            have hm1 : ((k : Int) + 1) % 4294967296 = (k : Int) + 1 := by omega
            have HK := Aside0.mk hk
            obtain ⟨gk, rfl⟩ : ∃ m, gk = m + 1 := ⟨gk - 1, by have := GI.out; omega⟩
            have HSZ := Aside0.mk ((I1.out.spec _ (rd_mem hk)).1)
            clear hk
            go_wp2_with (first | (go_at_call 19; refine (t_get k ((k : Int) + 1) (by omega) (by omega) (by omega) hkz HSZ.out TW.out).mono ?_; rintro e w5 ⟨A9, d9, A12, d12, rfl, r9, r12, hb⟩; have R9 := Aside0.mk r9; have R12 := Aside0.mk r12; have HBG := Aside0.mk hb; clear r9 r12 hb) | ((with_reducible refine gate_dst (N := 10) rfl ?_); refine box_event ?hg (N := 10) ?hd (cs := #[.int .u32 0, .int .u32 0, .int .i64 0, .string ⟨#[]⟩, .string ⟨#[]⟩, .string ⟨#[]⟩, .string ⟨#[]⟩, .int .i64 0, .int .i64 0, .slice none 0 0, .int .i64 0, .bool false, .slice none 0 0, .int .i64 0, .int .i64 0, .bool false, .bool false, .string ⟨#[]⟩, .int .i64 0, .int .i64 0, .int .i64 0, .int .i64 0, .int .i64 0, .int .i64 0, .int .i64 0, .int .i64 0]) (t := 58) ?hr ?_; (case hd => rfl); (case hg => rfl); (case hr => first | (go_simp; done) | (go_simp; rfl)); intro gb10 hg w10 hbox hb; have KZ := Aside0.mk hbox; have GZ := Aside0.mk (show wr.heap.size ≤ gb10 by rw [hg]; exact below_size HBG.out); have n0_ := Aside0.mk (Kd.R_below (Kd.R_mono (ok' := (fun b => wr.heap.size ≤ b ∧ b ≠ gb10)) (Kd.R_bound R9.out) (fun b hb_ => ⟨hb_.2.1, by have := hb_.2.2.1; omega⟩)) hb); have n1_ := Aside0.mk (Kd.R_below (Kd.R_mono (ok' := (fun b => wr.heap.size ≤ b ∧ b ≠ gb10)) (Kd.R_bound R12.out) (fun b hb_ => ⟨hb_.2.1, by have := hb_.2.2.1; omega⟩)) hb); have n2_ := Aside0.mk (below_step HBG.out hb); (try clear R9); (try clear R12); (try clear HBG); have R9 := n0_; clear n0_; have R12 := n1_; clear n1_; have HBG := n2_; clear n2_; clear hb hg hbox) | ((with_reducible refine gate_ (.store 58 (.tmp 10) (.tmp 56)) rfl ?_); refine agg_store rfl rfl rfl (g := gb10) (off := 0) (u := .agg #[.int .u32 (rd_T58 L1 (k : Int)).f0, .int .u32 (rd_T58 L1 (k : Int)).f1, .int .i64 (rd_T58 L1 (k : Int)).f2, .string (rd_T58 L1 (k : Int)).f3.f0, .string (rd_T58 L1 (k : Int)).f3.f1, .string (rd_T58 L1 (k : Int)).f3.f2, .string (rd_T58 L1 (k : Int)).f3.f3, .int .i64 (rd_T58 L1 (k : Int)).f3.f4, .int .i64 (rd_T58 L1 (k : Int)).f3.f5, .slice A9 (rd_T58 L1 (k : Int)).f3.f6.f0.length d9, .int .i64 (rd_T58 L1 (k : Int)).f3.f6.f1, .bool (rd_T58 L1 (k : Int)).f3.f7.f0, .slice A12 (rd_T58 L1 (k : Int)).f3.f7.f1.length d12, .int .i64 (rd_T58 L1 (k : Int)).f3.f8, .int .i64 (rd_T58 L1 (k : Int)).f3.f9, .bool (rd_T58 L1 (k : Int)).f3.f10, .bool (rd_T58 L1 (k : Int)).f3.f11, .string (rd_T58 L1 (k : Int)).f3.f12, .int .i64 (rd_T58 L1 (k : Int)).f4, .int .i64 (rd_T58 L1 (k : Int)).f5, .int .i64 (rd_T58 L1 (k : Int)).f6, .int .i64 (rd_T58 L1 (k : Int)).f7, .int .i64 (rd_T58 L1 (k : Int)).f8, .int .i64 (rd_T58 L1 (k : Int)).f9, .int .i64 (rd_T58 L1 (k : Int)).f10.f0, .int .i64 (rd_T58 L1 (k : Int)).f10.f1]) rfl rfl info58s KZ.out [.int .u32 (rd_T58 L1 (k : Int)).f0, .int .u32 (rd_T58 L1 (k : Int)).f1, .int .i64 (rd_T58 L1 (k : Int)).f2, .string (rd_T58 L1 (k : Int)).f3.f0, .string (rd_T58 L1 (k : Int)).f3.f1, .string (rd_T58 L1 (k : Int)).f3.f2, .string (rd_T58 L1 (k : Int)).f3.f3, .int .i64 (rd_T58 L1 (k : Int)).f3.f4, .int .i64 (rd_T58 L1 (k : Int)).f3.f5, .slice A9 (rd_T58 L1 (k : Int)).f3.f6.f0.length d9, .int .i64 (rd_T58 L1 (k : Int)).f3.f6.f1, .bool (rd_T58 L1 (k : Int)).f3.f7.f0, .slice A12 (rd_T58 L1 (k : Int)).f3.f7.f1.length d12, .int .i64 (rd_T58 L1 (k : Int)).f3.f8, .int .i64 (rd_T58 L1 (k : Int)).f3.f9, .bool (rd_T58 L1 (k : Int)).f3.f10, .bool (rd_T58 L1 (k : Int)).f3.f11, .string (rd_T58 L1 (k : Int)).f3.f12, .int .i64 (rd_T58 L1 (k : Int)).f4, .int .i64 (rd_T58 L1 (k : Int)).f5, .int .i64 (rd_T58 L1 (k : Int)).f6, .int .i64 (rd_T58 L1 (k : Int)).f7, .int .i64 (rd_T58 L1 (k : Int)).f8, .int .i64 (rd_T58 L1 (k : Int)).f9, .int .i64 (rd_T58 L1 (k : Int)).f10.f0, .int .i64 (rd_T58 L1 (k : Int)).f10.f1] rfl rfl (by simp) (by simp [Value.oneCell']) #[.int .u32 (rd_T58 L1 (k : Int)).f0, .int .u32 (rd_T58 L1 (k : Int)).f1, .int .i64 (rd_T58 L1 (k : Int)).f2, .string (rd_T58 L1 (k : Int)).f3.f0, .string (rd_T58 L1 (k : Int)).f3.f1, .string (rd_T58 L1 (k : Int)).f3.f2, .string (rd_T58 L1 (k : Int)).f3.f3, .int .i64 (rd_T58 L1 (k : Int)).f3.f4, .int .i64 (rd_T58 L1 (k : Int)).f3.f5, .slice A9 (rd_T58 L1 (k : Int)).f3.f6.f0.length d9, .int .i64 (rd_T58 L1 (k : Int)).f3.f6.f1, .bool (rd_T58 L1 (k : Int)).f3.f7.f0, .slice A12 (rd_T58 L1 (k : Int)).f3.f7.f1.length d12, .int .i64 (rd_T58 L1 (k : Int)).f3.f8, .int .i64 (rd_T58 L1 (k : Int)).f3.f9, .bool (rd_T58 L1 (k : Int)).f3.f10, .bool (rd_T58 L1 (k : Int)).f3.f11, .string (rd_T58 L1 (k : Int)).f3.f12, .int .i64 (rd_T58 L1 (k : Int)).f4, .int .i64 (rd_T58 L1 (k : Int)).f5, .int .i64 (rd_T58 L1 (k : Int)).f6, .int .i64 (rd_T58 L1 (k : Int)).f7, .int .i64 (rd_T58 L1 (k : Int)).f8, .int .i64 (rd_T58 L1 (k : Int)).f9, .int .i64 (rd_T58 L1 (k : Int)).f10.f0, .int .i64 (rd_T58 L1 (k : Int)).f10.f1] rfl ?_; intro w9 hX hO; have n0_ := Aside0.mk (hO.R R9.out (fun b hb_ _ => hb_.2)); have n1_ := Aside0.mk (hO.R R12.out (fun b hb_ _ => hb_.2)); have n2_ := Aside0.mk (hO.below HBG.out GZ.out); have n3_ := Aside0.mk (hX); (try clear R9); (try clear R12); (try clear HBG); (try clear KZ); have R9 := n0_; clear n0_; have R12 := n1_; clear n1_; have HBG := n2_; clear n2_; have KZ := n3_; clear n3_; clear hX hO) | ((with_reducible refine gate_ (.load 58 (.tmp 10)) rfl ?_); refine agg_load rfl (N := 59) rfl rfl Tryd.underlying58 info58s (g := gb10) (off := 0) rfl [.int .u32 (rd_T58 L1 (k : Int)).f0, .int .u32 (rd_T58 L1 (k : Int)).f1, .int .i64 (rd_T58 L1 (k : Int)).f2, .string (rd_T58 L1 (k : Int)).f3.f0, .string (rd_T58 L1 (k : Int)).f3.f1, .string (rd_T58 L1 (k : Int)).f3.f2, .string (rd_T58 L1 (k : Int)).f3.f3, .int .i64 (rd_T58 L1 (k : Int)).f3.f4, .int .i64 (rd_T58 L1 (k : Int)).f3.f5, .slice A9 (rd_T58 L1 (k : Int)).f3.f6.f0.length d9, .int .i64 (rd_T58 L1 (k : Int)).f3.f6.f1, .bool (rd_T58 L1 (k : Int)).f3.f7.f0, .slice A12 (rd_T58 L1 (k : Int)).f3.f7.f1.length d12, .int .i64 (rd_T58 L1 (k : Int)).f3.f8, .int .i64 (rd_T58 L1 (k : Int)).f3.f9, .bool (rd_T58 L1 (k : Int)).f3.f10, .bool (rd_T58 L1 (k : Int)).f3.f11, .string (rd_T58 L1 (k : Int)).f3.f12, .int .i64 (rd_T58 L1 (k : Int)).f4, .int .i64 (rd_T58 L1 (k : Int)).f5, .int .i64 (rd_T58 L1 (k : Int)).f6, .int .i64 (rd_T58 L1 (k : Int)).f7, .int .i64 (rd_T58 L1 (k : Int)).f8, .int .i64 (rd_T58 L1 (k : Int)).f9, .int .i64 (rd_T58 L1 (k : Int)).f10.f0, .int .i64 (rd_T58 L1 (k : Int)).f10.f1] rfl (blk_seg KZ.out 0 26 rfl) ?_) | ((with_reducible refine gate_builtin (b := .append) (xs := #[.tmp 58, .tmp 60]) rfl ?_); at_builtin; refine Kd.R_append k58 (w0 := wo) (W := w9) wo.heap.size rfl (.tmp 58) (.tmp 60) 65 58 (.agg #[(.int .u32 0), (.int .u32 0), (.int .i64 0), (.string ⟨#[]⟩), (.string ⟨#[]⟩), (.string ⟨#[]⟩), (.string ⟨#[]⟩), (.int .i64 0), (.int .i64 0), (.slice none 0 0), (.int .i64 0), (.bool false), (.slice none 0 0), (.int .i64 0), (.int .i64 0), (.bool false), (.bool false), (.string ⟨#[]⟩), (.int .i64 0), (.int .i64 0), (.int .i64 0), (.int .i64 0), (.int .i64 0), (.int .i64 0), (.int .i64 0), (.int .i64 0)]) 264 rfl Tryd.underlying65 info58 rfl (by decide) (by omega) (.slice Ao k co) (L1.take k) (rd_T58 L1 (k : Int)) [.int .u32 (rd_T58 L1 (k : Int)).f0, .int .u32 (rd_T58 L1 (k : Int)).f1, .int .i64 (rd_T58 L1 (k : Int)).f2, .string (rd_T58 L1 (k : Int)).f3.f0, .string (rd_T58 L1 (k : Int)).f3.f1, .string (rd_T58 L1 (k : Int)).f3.f2, .string (rd_T58 L1 (k : Int)).f3.f3, .int .i64 (rd_T58 L1 (k : Int)).f3.f4, .int .i64 (rd_T58 L1 (k : Int)).f3.f5, .slice A9 (rd_T58 L1 (k : Int)).f3.f6.f0.length d9, .int .i64 (rd_T58 L1 (k : Int)).f3.f6.f1, .bool (rd_T58 L1 (k : Int)).f3.f7.f0, .slice A12 (rd_T58 L1 (k : Int)).f3.f7.f1.length d12, .int .i64 (rd_T58 L1 (k : Int)).f3.f8, .int .i64 (rd_T58 L1 (k : Int)).f3.f9, .bool (rd_T58 L1 (k : Int)).f3.f10, .bool (rd_T58 L1 (k : Int)).f3.f11, .string (rd_T58 L1 (k : Int)).f3.f12, .int .i64 (rd_T58 L1 (k : Int)).f4, .int .i64 (rd_T58 L1 (k : Int)).f5, .int .i64 (rd_T58 L1 (k : Int)).f6, .int .i64 (rd_T58 L1 (k : Int)).f7, .int .i64 (rd_T58 L1 (k : Int)).f8, .int .i64 (rd_T58 L1 (k : Int)).f9, .int .i64 (rd_T58 L1 (k : Int)).f10.f0, .int .i64 (rd_T58 L1 (k : Int)).f10.f1] (fun b => wo.heap.size ≤ b) (fun b => wr.heap.size ≤ b ∧ b ≠ gb10) rfl (by first | (go_simp; done) | (go_simp; rfl)) ?aP ?aK ?aF ?aO ?aB ?aS ?aL ?_; (case aP => exact k58_mkM _ _ _ (rd_T58 L1 (k : Int)) (Kd.R_lower R9.out HB3.out.size) (Kd.R_lower R12.out HB3.out.size)); (case aK => exact fun b hb_ => ⟨Nat.le_trans HB3.out.size hb_.1, fun e => by have := R_lt RW.out b e.symm; have := hb_.1; omega⟩); (case aF => exact (fun b hb_ => Nat.le_trans (Nat.le_trans HB3.out.size HBG.out.size) hb_)); (case aO => exact Kd.R_below RW.out HBG.out); (case aB => exact below_then HB3.out HBG.out HB3.out.size); (case aS => exact Nat.le_trans HB3.out.size HBG.out.size); (case aL => rw [List.length_take]; have := HK.out; omega); intro v11 w11 ho hb hg hat; obtain ⟨A7, c7, e7⟩ := Kd.R_slice ho; have R4 := Aside0.mk ho; have HB4 := Aside0.mk hb; clear ho hb hg hat; rw [List.length_append, List.length_take, Nat.min_eq_left (Nat.le_of_lt HK.out)] at e7; subst e7))
            go_roundg gk
            case measure => exact Nat.lt_succ_self _
            case rel => exact ⟨k + 1, A7, c7, by go_num, rfl, ⟨by have := GI.out; omega, HK.out⟩, ⟨by rw [← take_rd HK.out]; exact R4.out⟩, HB4⟩
          · have hkz : (L1.length : Int) < (k : Int) + 1 := by omega
            have hke : k = L1.length := by have := GI.out; omega
            subst hke
            have RW2 : Aside0 (Kd.R k58 58 wr wo.heap.size (fun b => wo.heap.size ≤ b) (.slice Ao L1.length co) L1) := ⟨by have h := RW.out; rw [List.take_length] at h; exact h⟩
            clear hk GI RW
            obtain ⟨ad, ce, eA, hcl, hK, hcc⟩ := Kd.C_get HC1.out z70 (i : Int) (by omega) hlz
            subst eA
            have hia : l1.getD (i : Int).toNat z70 = l1[i]'HL.out := by rw [Int.toNat_natCast, List.getD_eq_getElem?_getD, List.getElem?_eq_getElem HL.out]; rfl
            rw [hia] at hK
            obtain ⟨A6, c6, A9, c9, rfl, hc6, g6, hc9, g9⟩ := k70_open hK
            have HSA := Aside0.mk (HS1.out _ (List.getElem_mem HL.out))
            have HC6 := Aside0.mk hc6
            have HC9 := Aside0.mk hc9
            have G6 := Aside0.mk g6
            have G9 := Aside0.mk g9
            have hcc2 : ∀ j u, ([.int .i64 (l1[i]'HL.out).f0, .string (l1[i]'HL.out).f1.f0, .string (l1[i]'HL.out).f1.f1, .string (l1[i]'HL.out).f1.f2, .string (l1[i]'HL.out).f1.f3, .int .i64 (l1[i]'HL.out).f1.f4, .int .i64 (l1[i]'HL.out).f1.f5, .slice A6 (l1[i]'HL.out).f1.f6.f0.length c6, .int .i64 (l1[i]'HL.out).f1.f6.f1, .bool (l1[i]'HL.out).f1.f7.f0, .slice A9 (l1[i]'HL.out).f1.f7.f1.length c9, .int .i64 (l1[i]'HL.out).f1.f8, .int .i64 (l1[i]'HL.out).f1.f9, .bool (l1[i]'HL.out).f1.f10, .bool (l1[i]'HL.out).f1.f11, .string (l1[i]'HL.out).f1.f12, .int .i64 (l1[i]'HL.out).f2, .int .i64 (l1[i]'HL.out).f3.f0, .int .u32 (l1[i]'HL.out).f3.f1, .int .i64 (l1[i]'HL.out).f3.f2, .int .i64 (l1[i]'HL.out).f3.f3.f0, .int .i64 (l1[i]'HL.out).f3.f3.f1, .int .i64 (l1[i]'HL.out).f3.f4, .bool (l1[i]'HL.out).f4] : List Value)[j]? = some u → W.cell? ((ad.add (i * 24)).add j) = some u := fun j u hu => by rw [addr_add_add]; exact hcc j u hu
            have HCC := Aside0.mk hcc2
            clear hcc hcc2 hK hcl hia hc6 hc9 g6 g9
            generalize l1[i]'HL.out = a at HSA HC6 HC9 G6 G9 HCC
            have HB := Aside0.mk (below_step HBO.out HB3.out)
            have MW := Aside0.mk (show ∀ b, M' b → b < wr.heap.size from fun b h => Nat.lt_of_lt_of_le (MM.out.2 b h) HB3.out.size)
            go_upto_region 18 with (first | ((with_reducible refine gate_ (.load 70 (.tmp 65)) rfl ?_); refine agg_loadA rfl (N := 66) rfl rfl Tryd.underlying70 info70s (b := ad.add (i * 24)) rfl [.int .i64 a.f0, .string a.f1.f0, .string a.f1.f1, .string a.f1.f2, .string a.f1.f3, .int .i64 a.f1.f4, .int .i64 a.f1.f5, .slice A6 a.f1.f6.f0.length c6, .int .i64 a.f1.f6.f1, .bool a.f1.f7.f0, .slice A9 a.f1.f7.f1.length c9, .int .i64 a.f1.f8, .int .i64 a.f1.f9, .bool a.f1.f10, .bool a.f1.f11, .string a.f1.f12, .int .i64 a.f2, .int .i64 a.f3.f0, .int .u32 a.f3.f1, .int .i64 a.f3.f2, .int .i64 a.f3.f3.f0, .int .i64 a.f3.f3.f1, .int .i64 a.f3.f4, .bool a.f4] rfl (fun j u hu => pw_cell_below HB.out (HCC.out j u hu)) ?_) | (go_at_call 23; refine (step_at (N + i) a HSA.out.1 HSA.out.2.1 HSA.out.2.2 A6 c6 A9 c9 (Glob.below HG.out HB.out) (fun w' h => Kd.C_below G6.out (h.below HB.out MM.out.1)) HC6.out (fun w' h => Kd.C_below G9.out (h.below HB.out MM.out.1)) HC9.out I1.out MW.out TW.out).mono ?_; rintro e w2 ⟨rfl, M2, L2, hS, hT, m1, m2, m3, hK⟩; have SR := Aside0.mk hS; have T2 := Aside0.mk hT; have MX := Aside0.mk (And.intro m1 (And.intro m2 m3)); have K2 := Aside0.mk hK; have RW3 := Aside0.mk (hK.R RW2.out (fun b hb_ hm => by have := MM.out.2 b hm; omega)); clear hS hT m1 m2 m3 hK))
            have LN := Aside0.mk (step_len HSA.out.2.1 SR.out)
            have EN := Aside0.mk (fun (k : Nat) (hk : k < L1.length) (h5 : 5 ≤ (rd_T58 L1 (k : Int)).f5) => step_ended HSA.out.2.1 SR.out hk h5)
            have I2 := Aside0.mk (Inv.step I1.out (by have := H5.out; have := NN0.out; omega) HSA.out.1 HSA.out.2.1 SR.out)
            have hL6 := I2.out.len
            go_loopg [12, 13, 14] (L2.length + 1) (fun gk s12 s13 s14 wr => ∃ (k : Nat), s14 = .int .i64 ((k : Int) + 1) ∧ s12 = .int .i64 (aboutP nmNormal (L2.take k)) ∧ s13 = .int .i64 (aboutP nmHigh (L2.take k)) ∧ Aside0 (k + gk = L2.length + 1 ∧ k ≤ L2.length) ∧ Aside0 (Below w2.heap.size w2 wr))
            case atStart => exact ⟨0, rfl, rfl, rfl, ⟨by omega, by omega⟩, ⟨Below.refl _ _⟩⟩
            case round =>
              obtain ⟨k, rfl, rfl, rfl, GJ, HR⟩ := hrel
              have T := Aside0.mk (T2.out.below HR.out)
              by_cases hk : k < L2.length
              · have hkz : (k : Int) + 1 ≤ (L2.length : Int) := by omega
                have hk5 : (k : Int) ≤ 499 := by omega
                have hm1 : ((k : Int) + 1) % 4294967296 = (k : Int) + 1 := by omega
                have HK := Aside0.mk hk
                obtain ⟨gk, rfl⟩ : ∃ m, gk = m + 1 := ⟨gk - 1, by have := GJ.out; omega⟩
                have HSZ := Aside0.mk ((I2.out.spec _ (rd_mem hk)).1)
                have IR := Aside0.mk (inv_rd I2.out hk)
                clear hk
                go_upto_region 21 with (first | (go_at_call 14; obtain ⟨_, _, c14⟩ := T.out; refine (len_at c14).mono ?_; rintro e w14 ⟨he, hw⟩; have hw := hw.symm; subst hw; subst he) | (go_at_call 19; refine (t_get k ((k : Int) + 1) (by omega) (by omega) (by omega) hkz HSZ.out T.out).mono ?_; rintro e w5 ⟨A9, d9, A12, d12, rfl, r9, r12, hb⟩; have RR9 := Aside0.mk r9; have RR12 := Aside0.mk r12; have HBG := Aside0.mk hb; clear r9 r12 hb) | ((with_reducible refine gate_dst (N := 15) rfl ?_); refine box_event ?hg (N := 15) ?hd (cs := #[.int .u32 0, .int .u32 0, .int .i64 0, .string ⟨#[]⟩, .string ⟨#[]⟩, .string ⟨#[]⟩, .string ⟨#[]⟩, .int .i64 0, .int .i64 0, .slice none 0 0, .int .i64 0, .bool false, .slice none 0 0, .int .i64 0, .int .i64 0, .bool false, .bool false, .string ⟨#[]⟩, .int .i64 0, .int .i64 0, .int .i64 0, .int .i64 0, .int .i64 0, .int .i64 0, .int .i64 0, .int .i64 0]) (t := 58) ?hr ?_; (case hd => rfl); (case hg => rfl); (case hr => first | (go_simp; done) | (go_simp; rfl)); intro gb15 hg w15 hbox hb; have KZ := Aside0.mk hbox; have GZ := Aside0.mk (show wr.heap.size ≤ gb15 by rw [hg]; exact below_size HBG.out); have RR9 := Aside0.mk (Kd.R_below (Kd.R_mono (ok' := fun b => b < w5.heap.size) (Kd.R_bound RR9.out) (fun b hb_ => hb_.2.2.1)) hb); have RR12 := Aside0.mk (Kd.R_below (Kd.R_mono (ok' := fun b => b < w5.heap.size) (Kd.R_bound RR12.out) (fun b hb_ => hb_.2.2.1)) hb); have NG := Aside0.mk (show w5.heap.size ≤ gb15 by omega); have n0_ := Aside0.mk (below_step HBG.out hb); (try clear HBG); have HBG := n0_; clear n0_; clear hb hg hbox) | ((with_reducible refine gate_ (.store 58 (.tmp 15) (.tmp 79)) rfl ?_); refine agg_store rfl rfl rfl (g := gb15) (off := 0) (u := .agg #[.int .u32 (rd_T58 L2 (k : Int)).f0, .int .u32 (rd_T58 L2 (k : Int)).f1, .int .i64 (rd_T58 L2 (k : Int)).f2, .string (rd_T58 L2 (k : Int)).f3.f0, .string (rd_T58 L2 (k : Int)).f3.f1, .string (rd_T58 L2 (k : Int)).f3.f2, .string (rd_T58 L2 (k : Int)).f3.f3, .int .i64 (rd_T58 L2 (k : Int)).f3.f4, .int .i64 (rd_T58 L2 (k : Int)).f3.f5, .slice A9 (rd_T58 L2 (k : Int)).f3.f6.f0.length d9, .int .i64 (rd_T58 L2 (k : Int)).f3.f6.f1, .bool (rd_T58 L2 (k : Int)).f3.f7.f0, .slice A12 (rd_T58 L2 (k : Int)).f3.f7.f1.length d12, .int .i64 (rd_T58 L2 (k : Int)).f3.f8, .int .i64 (rd_T58 L2 (k : Int)).f3.f9, .bool (rd_T58 L2 (k : Int)).f3.f10, .bool (rd_T58 L2 (k : Int)).f3.f11, .string (rd_T58 L2 (k : Int)).f3.f12, .int .i64 (rd_T58 L2 (k : Int)).f4, .int .i64 (rd_T58 L2 (k : Int)).f5, .int .i64 (rd_T58 L2 (k : Int)).f6, .int .i64 (rd_T58 L2 (k : Int)).f7, .int .i64 (rd_T58 L2 (k : Int)).f8, .int .i64 (rd_T58 L2 (k : Int)).f9, .int .i64 (rd_T58 L2 (k : Int)).f10.f0, .int .i64 (rd_T58 L2 (k : Int)).f10.f1]) rfl rfl info58s KZ.out [.int .u32 (rd_T58 L2 (k : Int)).f0, .int .u32 (rd_T58 L2 (k : Int)).f1, .int .i64 (rd_T58 L2 (k : Int)).f2, .string (rd_T58 L2 (k : Int)).f3.f0, .string (rd_T58 L2 (k : Int)).f3.f1, .string (rd_T58 L2 (k : Int)).f3.f2, .string (rd_T58 L2 (k : Int)).f3.f3, .int .i64 (rd_T58 L2 (k : Int)).f3.f4, .int .i64 (rd_T58 L2 (k : Int)).f3.f5, .slice A9 (rd_T58 L2 (k : Int)).f3.f6.f0.length d9, .int .i64 (rd_T58 L2 (k : Int)).f3.f6.f1, .bool (rd_T58 L2 (k : Int)).f3.f7.f0, .slice A12 (rd_T58 L2 (k : Int)).f3.f7.f1.length d12, .int .i64 (rd_T58 L2 (k : Int)).f3.f8, .int .i64 (rd_T58 L2 (k : Int)).f3.f9, .bool (rd_T58 L2 (k : Int)).f3.f10, .bool (rd_T58 L2 (k : Int)).f3.f11, .string (rd_T58 L2 (k : Int)).f3.f12, .int .i64 (rd_T58 L2 (k : Int)).f4, .int .i64 (rd_T58 L2 (k : Int)).f5, .int .i64 (rd_T58 L2 (k : Int)).f6, .int .i64 (rd_T58 L2 (k : Int)).f7, .int .i64 (rd_T58 L2 (k : Int)).f8, .int .i64 (rd_T58 L2 (k : Int)).f9, .int .i64 (rd_T58 L2 (k : Int)).f10.f0, .int .i64 (rd_T58 L2 (k : Int)).f10.f1] rfl rfl (by simp) (by simp [Value.oneCell']) #[.int .u32 (rd_T58 L2 (k : Int)).f0, .int .u32 (rd_T58 L2 (k : Int)).f1, .int .i64 (rd_T58 L2 (k : Int)).f2, .string (rd_T58 L2 (k : Int)).f3.f0, .string (rd_T58 L2 (k : Int)).f3.f1, .string (rd_T58 L2 (k : Int)).f3.f2, .string (rd_T58 L2 (k : Int)).f3.f3, .int .i64 (rd_T58 L2 (k : Int)).f3.f4, .int .i64 (rd_T58 L2 (k : Int)).f3.f5, .slice A9 (rd_T58 L2 (k : Int)).f3.f6.f0.length d9, .int .i64 (rd_T58 L2 (k : Int)).f3.f6.f1, .bool (rd_T58 L2 (k : Int)).f3.f7.f0, .slice A12 (rd_T58 L2 (k : Int)).f3.f7.f1.length d12, .int .i64 (rd_T58 L2 (k : Int)).f3.f8, .int .i64 (rd_T58 L2 (k : Int)).f3.f9, .bool (rd_T58 L2 (k : Int)).f3.f10, .bool (rd_T58 L2 (k : Int)).f3.f11, .string (rd_T58 L2 (k : Int)).f3.f12, .int .i64 (rd_T58 L2 (k : Int)).f4, .int .i64 (rd_T58 L2 (k : Int)).f5, .int .i64 (rd_T58 L2 (k : Int)).f6, .int .i64 (rd_T58 L2 (k : Int)).f7, .int .i64 (rd_T58 L2 (k : Int)).f8, .int .i64 (rd_T58 L2 (k : Int)).f9, .int .i64 (rd_T58 L2 (k : Int)).f10.f0, .int .i64 (rd_T58 L2 (k : Int)).f10.f1] rfl ?_; intro w6 hX hO; have RR9 := Aside0.mk (hO.R RR9.out (fun b hb_ _ e => by have := NG.out; omega)); have RR12 := Aside0.mk (hO.R RR12.out (fun b hb_ _ e => by have := NG.out; omega)); have n0_ := Aside0.mk (hO.below HBG.out GZ.out); have n1_ := Aside0.mk (hX); (try clear HBG); (try clear KZ); have HBG := n0_; clear n0_; have KZ := n1_; clear n1_; clear hX hO))
                have kz0 := (blk_cell KZ.out 0).trans (congrArg (fun z => some (Value.int .u32 z)) IR.out.1)
                have kz19 := (blk_cell KZ.out 19).trans rfl
                have dd1 : decide ((rd_T58 L2 (k : Int)).f5 < 1) = false := decide_eq_false (by have := IR.out.2.1; omega)
                have dd9 : decide (9 < (rd_T58 L2 (k : Int)).f5) = false := decide_eq_false (by have := IR.out.2.2; omega)
                go_upto_region 23 with fail
                have hw1 : wrap64 (k : Int) = (k : Int) := by unfold wrap64; omega
                go_cut [121] (fun s121 wx => s121 = .bool false ∧ Aside0 (Below w2.heap.size w2 wx) ∧ Aside0 (wx.heap[gb15]? = some (.cells #[.int .u32 (rd_T58 L2 (k : Int)).f0, .int .u32 (rd_T58 L2 (k : Int)).f1, .int .i64 (rd_T58 L2 (k : Int)).f2, .string (rd_T58 L2 (k : Int)).f3.f0, .string (rd_T58 L2 (k : Int)).f3.f1, .string (rd_T58 L2 (k : Int)).f3.f2, .string (rd_T58 L2 (k : Int)).f3.f3, .int .i64 (rd_T58 L2 (k : Int)).f3.f4, .int .i64 (rd_T58 L2 (k : Int)).f3.f5, .slice A9 (rd_T58 L2 (k : Int)).f3.f6.f0.length d9, .int .i64 (rd_T58 L2 (k : Int)).f3.f6.f1, .bool (rd_T58 L2 (k : Int)).f3.f7.f0, .slice A12 (rd_T58 L2 (k : Int)).f3.f7.f1.length d12, .int .i64 (rd_T58 L2 (k : Int)).f3.f8, .int .i64 (rd_T58 L2 (k : Int)).f3.f9, .bool (rd_T58 L2 (k : Int)).f3.f10, .bool (rd_T58 L2 (k : Int)).f3.f11, .string (rd_T58 L2 (k : Int)).f3.f12, .int .i64 (rd_T58 L2 (k : Int)).f4, .int .i64 (rd_T58 L2 (k : Int)).f5, .int .i64 (rd_T58 L2 (k : Int)).f6, .int .i64 (rd_T58 L2 (k : Int)).f7, .int .i64 (rd_T58 L2 (k : Int)).f8, .int .i64 (rd_T58 L2 (k : Int)).f9, .int .i64 (rd_T58 L2 (k : Int)).f10.f0, .int .i64 (rd_T58 L2 (k : Int)).f10.f1] 58 (0, 0))))
                case first =>
                  by_cases hq : k < L1.length
                  · have e1 : decide ((k : Int) + 1 ≤ (L1.length : Int)) = true := decide_eq_true (by omega)
                    have RW6 := Aside0.mk (Kd.R_below RW3.out (below_step HR.out HBG.out))
                    obtain ⟨gw, capw, ew, _, _, _⟩ := Kd.R_form RW6.out (by omega)
                    injection ew with ew1 ew2 ew3
                    subst ew1
                    subst ew3
                    clear ew2
                    obtain ⟨ce, hcl, hM, hcc, hfr⟩ := Kd.R_elem RW6.out z58 (k : Int) (by omega) (by omega)
                    have hK : k58.K w6 (rd_T58 L1 (k : Int)) ce := k58.K_of_M hM
                    obtain ⟨Q9, e9, Q12, e12, rfl, qc9, q9, qc12, q12⟩ := k58_open hK
                    have hcc2 : ∀ j u, ([.int .u32 (rd_T58 L1 (k : Int)).f0, .int .u32 (rd_T58 L1 (k : Int)).f1, .int .i64 (rd_T58 L1 (k : Int)).f2, .string (rd_T58 L1 (k : Int)).f3.f0, .string (rd_T58 L1 (k : Int)).f3.f1, .string (rd_T58 L1 (k : Int)).f3.f2, .string (rd_T58 L1 (k : Int)).f3.f3, .int .i64 (rd_T58 L1 (k : Int)).f3.f4, .int .i64 (rd_T58 L1 (k : Int)).f3.f5, .slice Q9 (rd_T58 L1 (k : Int)).f3.f6.f0.length e9, .int .i64 (rd_T58 L1 (k : Int)).f3.f6.f1, .bool (rd_T58 L1 (k : Int)).f3.f7.f0, .slice Q12 (rd_T58 L1 (k : Int)).f3.f7.f1.length e12, .int .i64 (rd_T58 L1 (k : Int)).f3.f8, .int .i64 (rd_T58 L1 (k : Int)).f3.f9, .bool (rd_T58 L1 (k : Int)).f3.f10, .bool (rd_T58 L1 (k : Int)).f3.f11, .string (rd_T58 L1 (k : Int)).f3.f12, .int .i64 (rd_T58 L1 (k : Int)).f4, .int .i64 (rd_T58 L1 (k : Int)).f5, .int .i64 (rd_T58 L1 (k : Int)).f6, .int .i64 (rd_T58 L1 (k : Int)).f7, .int .i64 (rd_T58 L1 (k : Int)).f8, .int .i64 (rd_T58 L1 (k : Int)).f9, .int .i64 (rd_T58 L1 (k : Int)).f10.f0, .int .i64 (rd_T58 L1 (k : Int)).f10.f1] : List Value)[j]? = some u → w6.cell? ⟨gw, k * 26 + j, none⟩ = some u := hcc
                    have HCW := Aside0.mk hcc2
                    have QC9 := Aside0.mk qc9
                    have QA9 := Aside0.mk q9
                    have QC12 := Aside0.mk qc12
                    have QA12 := Aside0.mk q12
                    have hkw : (k : Int) < (L1.length : Int) := by omega
                    clear hcc hcc2 hM hK hcl hfr qc9 qc12 q9 q12
                    by_cases h5 : 5 ≤ (rd_T58 L1 (k : Int)).f5
                    · have hE : rd_T58 L2 (k : Int) = rd_T58 L1 (k : Int) := EN.out k hq h5
                      rw [← hE] at HCW QC9 QA9 QC12 QA12 h5
                      clear hE
                      have e5 : decide (5 ≤ (rd_T58 L2 (k : Int)).f5) = true := decide_eq_true h5
                      clear h5 hq
                      have n_ := Aside0.mk (below_drew1 HBG.out)
                      clear HBG
                      have HBG := n_
                      clear n_
                      have n_ := Aside0.mk (Kd.R_drew RR9.out)
                      clear RR9
                      have RR9 := n_
                      clear n_
                      have n_ := Aside0.mk (Kd.R_drew RR12.out)
                      clear RR12
                      have RR12 := n_
                      clear n_
                      have n_ := Aside0.mk (Kd.C_below QA9.out (below_drew1 (Below.refl _ _)))
                      clear QA9
                      have QA9 := n_
                      clear n_
                      have n_ := Aside0.mk (Kd.C_below QA12.out (below_drew1 (Below.refl _ _)))
                      clear QA12
                      have QA12 := n_
                      clear n_
                      have n_ := Aside0.mk (blk_drew KZ.out)
                      clear KZ
                      have KZ := n_
                      clear n_
                      refine start_ (n := 22) (S := fun w' => w'.cell? ⟨gw, k * 26 + 19, none⟩ = some (.int .i64 (rd_T58 L2 (k : Int)).f5) ∧ w'.heap[gb15]? = some (.cells #[.int .u32 (rd_T58 L2 (k : Int)).f0, .int .u32 (rd_T58 L2 (k : Int)).f1, .int .i64 (rd_T58 L2 (k : Int)).f2, .string (rd_T58 L2 (k : Int)).f3.f0, .string (rd_T58 L2 (k : Int)).f3.f1, .string (rd_T58 L2 (k : Int)).f3.f2, .string (rd_T58 L2 (k : Int)).f3.f3, .int .i64 (rd_T58 L2 (k : Int)).f3.f4, .int .i64 (rd_T58 L2 (k : Int)).f3.f5, .slice A9 (rd_T58 L2 (k : Int)).f3.f6.f0.length d9, .int .i64 (rd_T58 L2 (k : Int)).f3.f6.f1, .bool (rd_T58 L2 (k : Int)).f3.f7.f0, .slice A12 (rd_T58 L2 (k : Int)).f3.f7.f1.length d12, .int .i64 (rd_T58 L2 (k : Int)).f3.f8, .int .i64 (rd_T58 L2 (k : Int)).f3.f9, .bool (rd_T58 L2 (k : Int)).f3.f10, .bool (rd_T58 L2 (k : Int)).f3.f11, .string (rd_T58 L2 (k : Int)).f3.f12, .int .i64 (rd_T58 L2 (k : Int)).f4, .int .i64 (rd_T58 L2 (k : Int)).f5, .int .i64 (rd_T58 L2 (k : Int)).f6, .int .i64 (rd_T58 L2 (k : Int)).f7, .int .i64 (rd_T58 L2 (k : Int)).f8, .int .i64 (rd_T58 L2 (k : Int)).f9, .int .i64 (rd_T58 L2 (k : Int)).f10.f0, .int .i64 (rd_T58 L2 (k : Int)).f10.f1] 58 (0, 0)) ∧ ∀ j u, ([.int .u32 (rd_T58 L2 (k : Int)).f0, .int .u32 (rd_T58 L2 (k : Int)).f1, .int .i64 (rd_T58 L2 (k : Int)).f2, .string (rd_T58 L2 (k : Int)).f3.f0, .string (rd_T58 L2 (k : Int)).f3.f1, .string (rd_T58 L2 (k : Int)).f3.f2, .string (rd_T58 L2 (k : Int)).f3.f3, .int .i64 (rd_T58 L2 (k : Int)).f3.f4, .int .i64 (rd_T58 L2 (k : Int)).f3.f5, .slice Q9 (rd_T58 L2 (k : Int)).f3.f6.f0.length e9, .int .i64 (rd_T58 L2 (k : Int)).f3.f6.f1, .bool (rd_T58 L2 (k : Int)).f3.f7.f0, .slice Q12 (rd_T58 L2 (k : Int)).f3.f7.f1.length e12, .int .i64 (rd_T58 L2 (k : Int)).f3.f8, .int .i64 (rd_T58 L2 (k : Int)).f3.f9, .bool (rd_T58 L2 (k : Int)).f3.f10, .bool (rd_T58 L2 (k : Int)).f3.f11, .string (rd_T58 L2 (k : Int)).f3.f12, .int .i64 (rd_T58 L2 (k : Int)).f4, .int .i64 (rd_T58 L2 (k : Int)).f5, .int .i64 (rd_T58 L2 (k : Int)).f6, .int .i64 (rd_T58 L2 (k : Int)).f7, .int .i64 (rd_T58 L2 (k : Int)).f8, .int .i64 (rd_T58 L2 (k : Int)).f9, .int .i64 (rd_T58 L2 (k : Int)).f10.f0, .int .i64 (rd_T58 L2 (k : Int)).f10.f1] : List Value)[j]? = some u → w'.cell? ⟨gw, k * 26 + j, none⟩ = some u) (ds := []) #[false, false, false, false, false, false, false, false, false, false, false, false, false, false, false, false, false, false, false, false, false, false] (by kernel_rfl) rfl rfl ⟨HCW.out 19 _ rfl, KZ.out, HCW.out⟩ (fun hHeld => ?_)
                      generalize w6.drew = w7 at HBG RR9 RR12 QA9 QA12 KZ hHeld ⊢
                      refine pure_ (i := 0) (N := some 100) (v := ?_) (a' := ?_) #[true, false, false, false, false, false, false, false, false, false, false, false, false, false, false, false, false, false, false, false, false, false] rfl rfl (by kernel_rfl) (fun _ _ _ h => h) (Or.inl ⟨by rfl, ?_⟩) ?_ ?_
                      rotate_left
                      · intro w'
                        go_simp
                        with_reducible rfl
                      rotate_left
                      · simp only [Act.put, List.setIfInBounds_toArray, List.set_cons_zero, List.set_cons_succ, i64_w, i32_w]
                        rfl
                      refine pure_ (i := 1) (N := some 101) (v := ?_) (a' := ?_) #[true, true, false, false, false, false, false, false, false, false, false, false, false, false, false, false, false, false, false, false, false, false] rfl rfl (by kernel_rfl) (fun _ _ _ h => h) (Or.inl ⟨by rfl, ?_⟩) ?_ ?_
                      rotate_left
                      · intro w'
                        go_simp
                        with_reducible rfl
                      rotate_left
                      · simp only [Act.put, List.setIfInBounds_toArray, List.set_cons_zero, List.set_cons_succ, i64_w, i32_w]
                        rfl
                      refine pure_ (i := 2) (N := some 102) (v := ?_) (a' := ?_) #[true, true, true, false, false, false, false, false, false, false, false, false, false, false, false, false, false, false, false, false, false, false] rfl rfl (by kernel_rfl) (fun _ _ _ h => h) (Or.inl ⟨by rfl, ?_⟩) ?_ ?_
                      rotate_left
                      · intro w'
                        go_simp
                        with_reducible rfl
                      rotate_left
                      · simp only [Act.put, List.setIfInBounds_toArray, List.set_cons_zero, List.set_cons_succ, i64_w, i32_w]
                        rfl
                      refine pure_ (i := 3) (N := some 103) (v := ?_) (a' := ?_) #[true, true, true, true, false, false, false, false, false, false, false, false, false, false, false, false, false, false, false, false, false, false] rfl rfl (by kernel_rfl) (fun _ _ _ h => h) (Or.inl ⟨by rfl, ?_⟩) ?_ ?_
                      rotate_left
                      · intro w'
                        go_simp
                        with_reducible rfl
                      rotate_left
                      · simp only [Act.put, List.setIfInBounds_toArray, List.set_cons_zero, List.set_cons_succ, i64_w, i32_w]
                        rfl
                      refine pure_ (i := 4) (N := some 104) (v := ?_) (a' := ?_) #[true, true, true, true, true, false, false, false, false, false, false, false, false, false, false, false, false, false, false, false, false, false] rfl rfl (by kernel_rfl) (fun _ _ _ h => h) (Or.inl ⟨by rfl, ?_⟩) ?_ ?_
                      rotate_left
                      · intro w'
                        go_simp
                        with_reducible rfl
                      rotate_left
                      · simp only [Act.put, List.setIfInBounds_toArray, List.set_cons_zero, List.set_cons_succ, i64_w, i32_w]
                        rfl
                      refine pure_ (i := 5) (N := some 105) (v := ?_) (a' := ?_) #[true, true, true, true, true, true, false, false, false, false, false, false, false, false, false, false, false, false, false, false, false, false] rfl rfl (by kernel_rfl) (fun _ _ _ h => h) (Or.inl ⟨by rfl, ?_⟩) ?_ ?_
                      rotate_left
                      · intro w'
                        go_simp
                        with_reducible rfl
                      rotate_left
                      · simp only [Act.put, List.setIfInBounds_toArray, List.set_cons_zero, List.set_cons_succ, i64_w, i32_w]
                        rfl
                      refine pure_ (i := 6) (N := some 106) (v := ?_) (a' := ?_) #[true, true, true, true, true, true, true, false, false, false, false, false, false, false, false, false, false, false, false, false, false, false] rfl rfl (by kernel_rfl) (fun _ _ _ h => h) (Or.inl ⟨by rfl, ?_⟩) ?_ ?_
                      rotate_left
                      · intro w'
                        go_simp
                        with_reducible rfl
                      rotate_left
                      · simp only [Act.put, List.setIfInBounds_toArray, List.set_cons_zero, List.set_cons_succ, i64_w, i32_w]
                        rfl
                      refine pure_ (i := 7) (N := some 107) (v := ?_) (a' := ?_) #[true, true, true, true, true, true, true, true, false, false, false, false, false, false, false, false, false, false, false, false, false, false] rfl rfl (by kernel_rfl) (fun _ _ _ h => h) (Or.inl ⟨by rfl, ?_⟩) ?_ ?_
                      rotate_left
                      · intro w'
                        go_simp
                        with_reducible rfl
                      rotate_left
                      · simp only [Act.put, List.setIfInBounds_toArray, List.set_cons_zero, List.set_cons_succ, i64_w, i32_w]
                        rfl
                      refine pure_ (i := 8) (N := some 108) (v := ?_) (a' := ?_) #[true, true, true, true, true, true, true, true, true, false, false, false, false, false, false, false, false, false, false, false, false, false] rfl rfl (by kernel_rfl) (fun _ _ _ h => h) (Or.inl ⟨by rfl, ?_⟩) ?_ ?_
                      rotate_left
                      · intro w'
                        go_simp
                        with_reducible rfl
                      rotate_left
                      · simp only [Act.put, List.setIfInBounds_toArray, List.set_cons_zero, List.set_cons_succ, i64_w, i32_w]
                        rfl
                      refine take_ (i := 9) (N := some 109) (v := ?_) (a' := ?_) #[true, true, true, true, true, true, true, true, true, true, false, false, false, false, false, false, false, false, false, false, false, false] rfl rfl (by kernel_rfl) (fun _ _ _ h => h) (Or.inl ⟨by rfl, ?_⟩) hHeld ?_ ?_
                      rotate_left
                      · rintro w' ⟨s0, s1, s2⟩
                        go_simp
                        with_reducible rfl
                      rotate_left
                      · simp only [Act.put, List.setIfInBounds_toArray, List.set_cons_zero, List.set_cons_succ, i64_w, i32_w]
                        rfl
                      refine pure_ (i := 10) (N := some 110) (v := ?_) (a' := ?_) #[true, true, true, true, true, true, true, true, true, true, true, false, false, false, false, false, false, false, false, false, false, false] rfl rfl (by kernel_rfl) (fun _ _ _ h => h) (Or.inl ⟨by rfl, ?_⟩) ?_ ?_
                      rotate_left
                      · intro w'
                        go_simp
                        with_reducible rfl
                      rotate_left
                      · simp only [Act.put, List.setIfInBounds_toArray, List.set_cons_zero, List.set_cons_succ, i64_w, i32_w]
                        rfl
                      refine pure_ (i := 11) (N := some 111) (v := ?_) (a' := ?_) #[true, true, true, true, true, true, true, true, true, true, true, true, false, false, false, false, false, false, false, false, false, false] rfl rfl (by kernel_rfl) (fun _ _ _ h => h) (Or.inl ⟨by rfl, ?_⟩) ?_ ?_
                      rotate_left
                      · intro w'
                        go_simp
                        with_reducible rfl
                      rotate_left
                      · simp only [Act.put, List.setIfInBounds_toArray, List.set_cons_zero, List.set_cons_succ, i64_w, i32_w]
                        rfl
                      refine pure_ (i := 12) (N := some 112) (v := ?_) (a' := ?_) #[true, true, true, true, true, true, true, true, true, true, true, true, true, false, false, false, false, false, false, false, false, false] rfl rfl (by kernel_rfl) (fun _ _ _ h => h) (Or.inl ⟨by rfl, ?_⟩) ?_ ?_
                      rotate_left
                      · intro w'
                        go_simp
                        with_reducible rfl
                      rotate_left
                      · simp only [Act.put, List.setIfInBounds_toArray, List.set_cons_zero, List.set_cons_succ, i64_w, i32_w]
                        rfl
                      refine take_ (i := 13) (N := some 113) (v := .agg #[.int .u32 (rd_T58 L2 (k : Int)).f0, .int .u32 (rd_T58 L2 (k : Int)).f1, .int .i64 (rd_T58 L2 (k : Int)).f2, .string (rd_T58 L2 (k : Int)).f3.f0, .string (rd_T58 L2 (k : Int)).f3.f1, .string (rd_T58 L2 (k : Int)).f3.f2, .string (rd_T58 L2 (k : Int)).f3.f3, .int .i64 (rd_T58 L2 (k : Int)).f3.f4, .int .i64 (rd_T58 L2 (k : Int)).f3.f5, .slice A9 (rd_T58 L2 (k : Int)).f3.f6.f0.length d9, .int .i64 (rd_T58 L2 (k : Int)).f3.f6.f1, .bool (rd_T58 L2 (k : Int)).f3.f7.f0, .slice A12 (rd_T58 L2 (k : Int)).f3.f7.f1.length d12, .int .i64 (rd_T58 L2 (k : Int)).f3.f8, .int .i64 (rd_T58 L2 (k : Int)).f3.f9, .bool (rd_T58 L2 (k : Int)).f3.f10, .bool (rd_T58 L2 (k : Int)).f3.f11, .string (rd_T58 L2 (k : Int)).f3.f12, .int .i64 (rd_T58 L2 (k : Int)).f4, .int .i64 (rd_T58 L2 (k : Int)).f5, .int .i64 (rd_T58 L2 (k : Int)).f6, .int .i64 (rd_T58 L2 (k : Int)).f7, .int .i64 (rd_T58 L2 (k : Int)).f8, .int .i64 (rd_T58 L2 (k : Int)).f9, .int .i64 (rd_T58 L2 (k : Int)).f10.f0, .int .i64 (rd_T58 L2 (k : Int)).f10.f1]) (a' := ?_) #[true, true, true, true, true, true, true, true, true, true, true, true, true, true, false, false, false, false, false, false, false, false] rfl rfl (by kernel_rfl) (fun _ _ _ h => h) (Or.inl ⟨by rfl, ?_⟩) hHeld ?_ ?_
                      · rintro w' ⟨s0, s1, s2⟩
                        exact run_loadJX rfl rfl [.int .u32 (rd_T58 L2 (k : Int)).f0, .int .u32 (rd_T58 L2 (k : Int)).f1, .int .i64 (rd_T58 L2 (k : Int)).f2, .string (rd_T58 L2 (k : Int)).f3.f0, .string (rd_T58 L2 (k : Int)).f3.f1, .string (rd_T58 L2 (k : Int)).f3.f2, .string (rd_T58 L2 (k : Int)).f3.f3, .int .i64 (rd_T58 L2 (k : Int)).f3.f4, .int .i64 (rd_T58 L2 (k : Int)).f3.f5, .slice A9 (rd_T58 L2 (k : Int)).f3.f6.f0.length d9, .int .i64 (rd_T58 L2 (k : Int)).f3.f6.f1, .bool (rd_T58 L2 (k : Int)).f3.f7.f0, .slice A12 (rd_T58 L2 (k : Int)).f3.f7.f1.length d12, .int .i64 (rd_T58 L2 (k : Int)).f3.f8, .int .i64 (rd_T58 L2 (k : Int)).f3.f9, .bool (rd_T58 L2 (k : Int)).f3.f10, .bool (rd_T58 L2 (k : Int)).f3.f11, .string (rd_T58 L2 (k : Int)).f3.f12, .int .i64 (rd_T58 L2 (k : Int)).f4, .int .i64 (rd_T58 L2 (k : Int)).f5, .int .i64 (rd_T58 L2 (k : Int)).f6, .int .i64 (rd_T58 L2 (k : Int)).f7, .int .i64 (rd_T58 L2 (k : Int)).f8, .int .i64 (rd_T58 L2 (k : Int)).f9, .int .i64 (rd_T58 L2 (k : Int)).f10.f0, .int .i64 (rd_T58 L2 (k : Int)).f10.f1] rfl (blk_seg s1 0 26 rfl)
                      rotate_left
                      · simp only [Act.put, List.setIfInBounds_toArray, List.set_cons_zero, List.set_cons_succ, i64_w, i32_w]
                        rfl
                      refine pure_ (i := 14) (N := some 114) (v := ?_) (a' := ?_) #[true, true, true, true, true, true, true, true, true, true, true, true, true, true, true, false, false, false, false, false, false, false] rfl rfl (by kernel_rfl) (fun _ _ _ h => h) (Or.inl ⟨by rfl, ?_⟩) ?_ ?_
                      rotate_left
                      · intro w'
                        go_simp
                        with_reducible rfl
                      rotate_left
                      · simp only [Act.put, List.setIfInBounds_toArray, List.set_cons_zero, List.set_cons_succ, i64_w, i32_w]
                        rfl
                      refine pure_ (i := 15) (N := some 115) (v := ?_) (a' := ?_) #[true, true, true, true, true, true, true, true, true, true, true, true, true, true, true, true, false, false, false, false, false, false] rfl rfl (by kernel_rfl) (fun _ _ _ h => h) (Or.inl ⟨by rfl, ?_⟩) ?_ ?_
                      rotate_left
                      · intro w'
                        go_simp
                        with_reducible rfl
                      rotate_left
                      · simp only [Act.put, List.setIfInBounds_toArray, List.set_cons_zero, List.set_cons_succ, i64_w, i32_w]
                        rfl
                      refine pure_ (i := 16) (N := some 116) (v := ?_) (a' := ?_) #[true, true, true, true, true, true, true, true, true, true, true, true, true, true, true, true, true, false, false, false, false, false] rfl rfl (by kernel_rfl) (fun _ _ _ h => h) (Or.inl ⟨by rfl, ?_⟩) ?_ ?_
                      rotate_left
                      · intro w'
                        go_simp
                        with_reducible rfl
                      rotate_left
                      · simp only [Act.put, List.setIfInBounds_toArray, List.set_cons_zero, List.set_cons_succ, i64_w, i32_w]
                        rfl
                      refine pure_ (i := 17) (N := some 117) (v := ?_) (a' := ?_) #[true, true, true, true, true, true, true, true, true, true, true, true, true, true, true, true, true, true, false, false, false, false] rfl rfl (by kernel_rfl) (fun _ _ _ h => h) (Or.inl ⟨by rfl, ?_⟩) ?_ ?_
                      rotate_left
                      · intro w'
                        go_simp
                        with_reducible rfl
                      rotate_left
                      · simp only [Act.put, List.setIfInBounds_toArray, List.set_cons_zero, List.set_cons_succ, i64_w, i32_w]
                        rfl
                      refine take_ (i := 18) (N := some 118) (v := .agg #[.int .u32 (rd_T58 L2 (k : Int)).f0, .int .u32 (rd_T58 L2 (k : Int)).f1, .int .i64 (rd_T58 L2 (k : Int)).f2, .string (rd_T58 L2 (k : Int)).f3.f0, .string (rd_T58 L2 (k : Int)).f3.f1, .string (rd_T58 L2 (k : Int)).f3.f2, .string (rd_T58 L2 (k : Int)).f3.f3, .int .i64 (rd_T58 L2 (k : Int)).f3.f4, .int .i64 (rd_T58 L2 (k : Int)).f3.f5, .slice Q9 (rd_T58 L2 (k : Int)).f3.f6.f0.length e9, .int .i64 (rd_T58 L2 (k : Int)).f3.f6.f1, .bool (rd_T58 L2 (k : Int)).f3.f7.f0, .slice Q12 (rd_T58 L2 (k : Int)).f3.f7.f1.length e12, .int .i64 (rd_T58 L2 (k : Int)).f3.f8, .int .i64 (rd_T58 L2 (k : Int)).f3.f9, .bool (rd_T58 L2 (k : Int)).f3.f10, .bool (rd_T58 L2 (k : Int)).f3.f11, .string (rd_T58 L2 (k : Int)).f3.f12, .int .i64 (rd_T58 L2 (k : Int)).f4, .int .i64 (rd_T58 L2 (k : Int)).f5, .int .i64 (rd_T58 L2 (k : Int)).f6, .int .i64 (rd_T58 L2 (k : Int)).f7, .int .i64 (rd_T58 L2 (k : Int)).f8, .int .i64 (rd_T58 L2 (k : Int)).f9, .int .i64 (rd_T58 L2 (k : Int)).f10.f0, .int .i64 (rd_T58 L2 (k : Int)).f10.f1]) (a' := ?_) #[true, true, true, true, true, true, true, true, true, true, true, true, true, true, true, true, true, true, true, false, false, false] rfl rfl (by kernel_rfl) (fun _ _ _ h => h) (Or.inl ⟨by rfl, ?_⟩) hHeld ?_ ?_
                      · rintro w' ⟨s0, s1, s2⟩
                        exact run_loadJX rfl rfl [.int .u32 (rd_T58 L2 (k : Int)).f0, .int .u32 (rd_T58 L2 (k : Int)).f1, .int .i64 (rd_T58 L2 (k : Int)).f2, .string (rd_T58 L2 (k : Int)).f3.f0, .string (rd_T58 L2 (k : Int)).f3.f1, .string (rd_T58 L2 (k : Int)).f3.f2, .string (rd_T58 L2 (k : Int)).f3.f3, .int .i64 (rd_T58 L2 (k : Int)).f3.f4, .int .i64 (rd_T58 L2 (k : Int)).f3.f5, .slice Q9 (rd_T58 L2 (k : Int)).f3.f6.f0.length e9, .int .i64 (rd_T58 L2 (k : Int)).f3.f6.f1, .bool (rd_T58 L2 (k : Int)).f3.f7.f0, .slice Q12 (rd_T58 L2 (k : Int)).f3.f7.f1.length e12, .int .i64 (rd_T58 L2 (k : Int)).f3.f8, .int .i64 (rd_T58 L2 (k : Int)).f3.f9, .bool (rd_T58 L2 (k : Int)).f3.f10, .bool (rd_T58 L2 (k : Int)).f3.f11, .string (rd_T58 L2 (k : Int)).f3.f12, .int .i64 (rd_T58 L2 (k : Int)).f4, .int .i64 (rd_T58 L2 (k : Int)).f5, .int .i64 (rd_T58 L2 (k : Int)).f6, .int .i64 (rd_T58 L2 (k : Int)).f7, .int .i64 (rd_T58 L2 (k : Int)).f8, .int .i64 (rd_T58 L2 (k : Int)).f9, .int .i64 (rd_T58 L2 (k : Int)).f10.f0, .int .i64 (rd_T58 L2 (k : Int)).f10.f1] rfl (s2)
                      rotate_left
                      · simp only [Act.put, List.setIfInBounds_toArray, List.set_cons_zero, List.set_cons_succ, i64_w, i32_w]
                        rfl
                      refine one_ (i := 19) (N := some 119) #[true, true, true, true, true, true, true, true, true, true, true, true, true, true, true, true, true, true, true, true, false, false] rfl rfl (by kernel_rfl) (by decide) (fun K hK => ?_)
                      refine goes_ Tryd.func24 (by kernel_rfl) rfl #[.agg #[.int .u32 (rd_T58 L2 (k : Int)).f0, .int .u32 (rd_T58 L2 (k : Int)).f1, .int .i64 (rd_T58 L2 (k : Int)).f2, .string (rd_T58 L2 (k : Int)).f3.f0, .string (rd_T58 L2 (k : Int)).f3.f1, .string (rd_T58 L2 (k : Int)).f3.f2, .string (rd_T58 L2 (k : Int)).f3.f3, .int .i64 (rd_T58 L2 (k : Int)).f3.f4, .int .i64 (rd_T58 L2 (k : Int)).f3.f5, .slice A9 (rd_T58 L2 (k : Int)).f3.f6.f0.length d9, .int .i64 (rd_T58 L2 (k : Int)).f3.f6.f1, .bool (rd_T58 L2 (k : Int)).f3.f7.f0, .slice A12 (rd_T58 L2 (k : Int)).f3.f7.f1.length d12, .int .i64 (rd_T58 L2 (k : Int)).f3.f8, .int .i64 (rd_T58 L2 (k : Int)).f3.f9, .bool (rd_T58 L2 (k : Int)).f3.f10, .bool (rd_T58 L2 (k : Int)).f3.f11, .string (rd_T58 L2 (k : Int)).f3.f12, .int .i64 (rd_T58 L2 (k : Int)).f4, .int .i64 (rd_T58 L2 (k : Int)).f5, .int .i64 (rd_T58 L2 (k : Int)).f6, .int .i64 (rd_T58 L2 (k : Int)).f7, .int .i64 (rd_T58 L2 (k : Int)).f8, .int .i64 (rd_T58 L2 (k : Int)).f9, .int .i64 (rd_T58 L2 (k : Int)).f10.f0, .int .i64 (rd_T58 L2 (k : Int)).f10.f1], .agg #[.int .u32 (rd_T58 L2 (k : Int)).f0, .int .u32 (rd_T58 L2 (k : Int)).f1, .int .i64 (rd_T58 L2 (k : Int)).f2, .string (rd_T58 L2 (k : Int)).f3.f0, .string (rd_T58 L2 (k : Int)).f3.f1, .string (rd_T58 L2 (k : Int)).f3.f2, .string (rd_T58 L2 (k : Int)).f3.f3, .int .i64 (rd_T58 L2 (k : Int)).f3.f4, .int .i64 (rd_T58 L2 (k : Int)).f3.f5, .slice Q9 (rd_T58 L2 (k : Int)).f3.f6.f0.length e9, .int .i64 (rd_T58 L2 (k : Int)).f3.f6.f1, .bool (rd_T58 L2 (k : Int)).f3.f7.f0, .slice Q12 (rd_T58 L2 (k : Int)).f3.f7.f1.length e12, .int .i64 (rd_T58 L2 (k : Int)).f3.f8, .int .i64 (rd_T58 L2 (k : Int)).f3.f9, .bool (rd_T58 L2 (k : Int)).f3.f10, .bool (rd_T58 L2 (k : Int)).f3.f11, .string (rd_T58 L2 (k : Int)).f3.f12, .int .i64 (rd_T58 L2 (k : Int)).f4, .int .i64 (rd_T58 L2 (k : Int)).f5, .int .i64 (rd_T58 L2 (k : Int)).f6, .int .i64 (rd_T58 L2 (k : Int)).f7, .int .i64 (rd_T58 L2 (k : Int)).f8, .int .i64 (rd_T58 L2 (k : Int)).f9, .int .i64 (rd_T58 L2 (k : Int)).f10.f0, .int .i64 (rd_T58 L2 (k : Int)).f10.f1]] (by rfl) rfl rfl (by (try simp only [List.map_toArray, List.map_cons, List.map_nil]); first | done | rfl) ?_
                      refine (sameJ_at (rd_T58 L2 (k : Int)) HSZ.out A9 d9 A12 d12 Q9 e9 Q12 e12 _ (Kd.R_reads' RR9.out).2.2 (Kd.R_reads' RR9.out).2.1 (Kd.R_reads' RR12.out).2.2 (Kd.R_reads' RR12.out).2.1 QA9.out QC9.out QA12.out QC12.out).mono ?_
                      rintro e w8 ⟨rfl, hb⟩
                      refine ⟨_, rfl, ?_⟩
                      obtain ⟨s0, s1, s2⟩ := hHeld
                      have HBG2 := Aside0.mk (below_step HBG.out hb)
                      have KZ2 := Aside0.mk (blk_below KZ.out hb)
                      refine hK.out _ _ ⟨pw_cell_below hb s0, blk_below s1 hb, fun j u hu => pw_cell_below hb (s2 j u hu)⟩ (fun hHeld => ?_)
                      clear hK K
                      refine norm_ (a' := ?_) ?_ ?_
                      rotate_left
                      · show Act.put _ (some 119) _ = _
                        simp only [Act.put, List.setIfInBounds_toArray, List.set_cons_zero, List.set_cons_succ, i64_w, i32_w]
                        rfl
                      clear HBG KZ
                      have HBG := HBG2
                      have KZ := KZ2
                      clear HBG2 KZ2
                      refine pure_ (i := 20) (N := some 120) (v := ?_) (a' := ?_) #[true, true, true, true, true, true, true, true, true, true, true, true, true, true, true, true, true, true, true, true, true, false] rfl rfl (by kernel_rfl) (fun _ _ _ h => h) (Or.inl ⟨by rfl, ?_⟩) ?_ ?_
                      rotate_left
                      · intro w'
                        go_simp
                        with_reducible rfl
                      rotate_left
                      · simp only [Act.put, List.setIfInBounds_toArray, List.set_cons_zero, List.set_cons_succ, i64_w, i32_w]
                        rfl
                      refine pure_ (i := 21) (N := some 121) (v := ?_) (a' := ?_) #[true, true, true, true, true, true, true, true, true, true, true, true, true, true, true, true, true, true, true, true, true, true] rfl rfl (by kernel_rfl) (fun _ _ _ h => h) (Or.inl ⟨by rfl, ?_⟩) ?_ ?_
                      rotate_left
                      · intro w'
                        go_simp
                        with_reducible rfl
                      rotate_left
                      · simp only [Act.put, List.setIfInBounds_toArray, List.set_cons_zero, List.set_cons_succ, i64_w, i32_w]
                        rfl
                      refine done_ (by kernel_rfl) ?_
                      go_wp2
                      go_meet
                      exact ⟨rfl, ⟨below_step HR.out HBG.out⟩, KZ⟩
                    · have e5 : decide (5 ≤ (rd_T58 L1 (k : Int)).f5) = false := decide_eq_false h5
                      clear h5 hq
                      have n_ := Aside0.mk (below_drew1 HBG.out)
                      clear HBG
                      have HBG := n_
                      clear n_
                      have n_ := Aside0.mk (Kd.R_drew RR9.out)
                      clear RR9
                      have RR9 := n_
                      clear n_
                      have n_ := Aside0.mk (Kd.R_drew RR12.out)
                      clear RR12
                      have RR12 := n_
                      clear n_
                      have n_ := Aside0.mk (Kd.C_below QA9.out (below_drew1 (Below.refl _ _)))
                      clear QA9
                      have QA9 := n_
                      clear n_
                      have n_ := Aside0.mk (Kd.C_below QA12.out (below_drew1 (Below.refl _ _)))
                      clear QA12
                      have QA12 := n_
                      clear n_
                      have n_ := Aside0.mk (blk_drew KZ.out)
                      clear KZ
                      have KZ := n_
                      clear n_
                      refine start_ (n := 22) (S := fun w' => w'.cell? ⟨gw, k * 26 + 19, none⟩ = some (.int .i64 (rd_T58 L1 (k : Int)).f5) ∧ w'.heap[gb15]? = some (.cells #[.int .u32 (rd_T58 L2 (k : Int)).f0, .int .u32 (rd_T58 L2 (k : Int)).f1, .int .i64 (rd_T58 L2 (k : Int)).f2, .string (rd_T58 L2 (k : Int)).f3.f0, .string (rd_T58 L2 (k : Int)).f3.f1, .string (rd_T58 L2 (k : Int)).f3.f2, .string (rd_T58 L2 (k : Int)).f3.f3, .int .i64 (rd_T58 L2 (k : Int)).f3.f4, .int .i64 (rd_T58 L2 (k : Int)).f3.f5, .slice A9 (rd_T58 L2 (k : Int)).f3.f6.f0.length d9, .int .i64 (rd_T58 L2 (k : Int)).f3.f6.f1, .bool (rd_T58 L2 (k : Int)).f3.f7.f0, .slice A12 (rd_T58 L2 (k : Int)).f3.f7.f1.length d12, .int .i64 (rd_T58 L2 (k : Int)).f3.f8, .int .i64 (rd_T58 L2 (k : Int)).f3.f9, .bool (rd_T58 L2 (k : Int)).f3.f10, .bool (rd_T58 L2 (k : Int)).f3.f11, .string (rd_T58 L2 (k : Int)).f3.f12, .int .i64 (rd_T58 L2 (k : Int)).f4, .int .i64 (rd_T58 L2 (k : Int)).f5, .int .i64 (rd_T58 L2 (k : Int)).f6, .int .i64 (rd_T58 L2 (k : Int)).f7, .int .i64 (rd_T58 L2 (k : Int)).f8, .int .i64 (rd_T58 L2 (k : Int)).f9, .int .i64 (rd_T58 L2 (k : Int)).f10.f0, .int .i64 (rd_T58 L2 (k : Int)).f10.f1] 58 (0, 0)) ∧ ∀ j u, ([.int .u32 (rd_T58 L1 (k : Int)).f0, .int .u32 (rd_T58 L1 (k : Int)).f1, .int .i64 (rd_T58 L1 (k : Int)).f2, .string (rd_T58 L1 (k : Int)).f3.f0, .string (rd_T58 L1 (k : Int)).f3.f1, .string (rd_T58 L1 (k : Int)).f3.f2, .string (rd_T58 L1 (k : Int)).f3.f3, .int .i64 (rd_T58 L1 (k : Int)).f3.f4, .int .i64 (rd_T58 L1 (k : Int)).f3.f5, .slice Q9 (rd_T58 L1 (k : Int)).f3.f6.f0.length e9, .int .i64 (rd_T58 L1 (k : Int)).f3.f6.f1, .bool (rd_T58 L1 (k : Int)).f3.f7.f0, .slice Q12 (rd_T58 L1 (k : Int)).f3.f7.f1.length e12, .int .i64 (rd_T58 L1 (k : Int)).f3.f8, .int .i64 (rd_T58 L1 (k : Int)).f3.f9, .bool (rd_T58 L1 (k : Int)).f3.f10, .bool (rd_T58 L1 (k : Int)).f3.f11, .string (rd_T58 L1 (k : Int)).f3.f12, .int .i64 (rd_T58 L1 (k : Int)).f4, .int .i64 (rd_T58 L1 (k : Int)).f5, .int .i64 (rd_T58 L1 (k : Int)).f6, .int .i64 (rd_T58 L1 (k : Int)).f7, .int .i64 (rd_T58 L1 (k : Int)).f8, .int .i64 (rd_T58 L1 (k : Int)).f9, .int .i64 (rd_T58 L1 (k : Int)).f10.f0, .int .i64 (rd_T58 L1 (k : Int)).f10.f1] : List Value)[j]? = some u → w'.cell? ⟨gw, k * 26 + j, none⟩ = some u) (ds := []) #[false, false, false, false, false, false, false, false, false, false, false, false, false, false, false, false, false, false, false, false, false, false] (by kernel_rfl) rfl rfl ⟨HCW.out 19 _ rfl, KZ.out, HCW.out⟩ (fun hHeld => ?_)
                      generalize w6.drew = w7 at HBG RR9 RR12 QA9 QA12 KZ hHeld ⊢
                      refine pure_ (i := 0) (N := some 100) (v := ?_) (a' := ?_) #[true, false, false, false, false, false, false, false, false, false, false, false, false, false, false, false, false, false, false, false, false, false] rfl rfl (by kernel_rfl) (fun _ _ _ h => h) (Or.inl ⟨by rfl, ?_⟩) ?_ ?_
                      rotate_left
                      · intro w'
                        go_simp
                        with_reducible rfl
                      rotate_left
                      · simp only [Act.put, List.setIfInBounds_toArray, List.set_cons_zero, List.set_cons_succ, i64_w, i32_w]
                        rfl
                      refine pure_ (i := 1) (N := some 101) (v := ?_) (a' := ?_) #[true, true, false, false, false, false, false, false, false, false, false, false, false, false, false, false, false, false, false, false, false, false] rfl rfl (by kernel_rfl) (fun _ _ _ h => h) (Or.inl ⟨by rfl, ?_⟩) ?_ ?_
                      rotate_left
                      · intro w'
                        go_simp
                        with_reducible rfl
                      rotate_left
                      · simp only [Act.put, List.setIfInBounds_toArray, List.set_cons_zero, List.set_cons_succ, i64_w, i32_w]
                        rfl
                      refine pure_ (i := 2) (N := some 102) (v := ?_) (a' := ?_) #[true, true, true, false, false, false, false, false, false, false, false, false, false, false, false, false, false, false, false, false, false, false] rfl rfl (by kernel_rfl) (fun _ _ _ h => h) (Or.inl ⟨by rfl, ?_⟩) ?_ ?_
                      rotate_left
                      · intro w'
                        go_simp
                        with_reducible rfl
                      rotate_left
                      · simp only [Act.put, List.setIfInBounds_toArray, List.set_cons_zero, List.set_cons_succ, i64_w, i32_w]
                        rfl
                      refine pure_ (i := 3) (N := some 103) (v := ?_) (a' := ?_) #[true, true, true, true, false, false, false, false, false, false, false, false, false, false, false, false, false, false, false, false, false, false] rfl rfl (by kernel_rfl) (fun _ _ _ h => h) (Or.inl ⟨by rfl, ?_⟩) ?_ ?_
                      rotate_left
                      · intro w'
                        go_simp
                        with_reducible rfl
                      rotate_left
                      · simp only [Act.put, List.setIfInBounds_toArray, List.set_cons_zero, List.set_cons_succ, i64_w, i32_w]
                        rfl
                      refine pure_ (i := 4) (N := some 104) (v := ?_) (a' := ?_) #[true, true, true, true, true, false, false, false, false, false, false, false, false, false, false, false, false, false, false, false, false, false] rfl rfl (by kernel_rfl) (fun _ _ _ h => h) (Or.inl ⟨by rfl, ?_⟩) ?_ ?_
                      rotate_left
                      · intro w'
                        go_simp
                        with_reducible rfl
                      rotate_left
                      · simp only [Act.put, List.setIfInBounds_toArray, List.set_cons_zero, List.set_cons_succ, i64_w, i32_w]
                        rfl
                      refine pure_ (i := 5) (N := some 105) (v := ?_) (a' := ?_) #[true, true, true, true, true, true, false, false, false, false, false, false, false, false, false, false, false, false, false, false, false, false] rfl rfl (by kernel_rfl) (fun _ _ _ h => h) (Or.inl ⟨by rfl, ?_⟩) ?_ ?_
                      rotate_left
                      · intro w'
                        go_simp
                        with_reducible rfl
                      rotate_left
                      · simp only [Act.put, List.setIfInBounds_toArray, List.set_cons_zero, List.set_cons_succ, i64_w, i32_w]
                        rfl
                      refine pure_ (i := 6) (N := some 106) (v := ?_) (a' := ?_) #[true, true, true, true, true, true, true, false, false, false, false, false, false, false, false, false, false, false, false, false, false, false] rfl rfl (by kernel_rfl) (fun _ _ _ h => h) (Or.inl ⟨by rfl, ?_⟩) ?_ ?_
                      rotate_left
                      · intro w'
                        go_simp
                        with_reducible rfl
                      rotate_left
                      · simp only [Act.put, List.setIfInBounds_toArray, List.set_cons_zero, List.set_cons_succ, i64_w, i32_w]
                        rfl
                      refine pure_ (i := 7) (N := some 107) (v := ?_) (a' := ?_) #[true, true, true, true, true, true, true, true, false, false, false, false, false, false, false, false, false, false, false, false, false, false] rfl rfl (by kernel_rfl) (fun _ _ _ h => h) (Or.inl ⟨by rfl, ?_⟩) ?_ ?_
                      rotate_left
                      · intro w'
                        go_simp
                        with_reducible rfl
                      rotate_left
                      · simp only [Act.put, List.setIfInBounds_toArray, List.set_cons_zero, List.set_cons_succ, i64_w, i32_w]
                        rfl
                      refine pure_ (i := 8) (N := some 108) (v := ?_) (a' := ?_) #[true, true, true, true, true, true, true, true, true, false, false, false, false, false, false, false, false, false, false, false, false, false] rfl rfl (by kernel_rfl) (fun _ _ _ h => h) (Or.inl ⟨by rfl, ?_⟩) ?_ ?_
                      rotate_left
                      · intro w'
                        go_simp
                        with_reducible rfl
                      rotate_left
                      · simp only [Act.put, List.setIfInBounds_toArray, List.set_cons_zero, List.set_cons_succ, i64_w, i32_w]
                        rfl
                      refine take_ (i := 9) (N := some 109) (v := ?_) (a' := ?_) #[true, true, true, true, true, true, true, true, true, true, false, false, false, false, false, false, false, false, false, false, false, false] rfl rfl (by kernel_rfl) (fun _ _ _ h => h) (Or.inl ⟨by rfl, ?_⟩) hHeld ?_ ?_
                      rotate_left
                      · rintro w' ⟨s0, s1, s2⟩
                        go_simp
                        with_reducible rfl
                      rotate_left
                      · simp only [Act.put, List.setIfInBounds_toArray, List.set_cons_zero, List.set_cons_succ, i64_w, i32_w]
                        rfl
                      refine pure_ (i := 10) (N := some 110) (v := ?_) (a' := ?_) #[true, true, true, true, true, true, true, true, true, true, true, false, false, false, false, false, false, false, false, false, false, false] rfl rfl (by kernel_rfl) (fun _ _ _ h => h) (Or.inl ⟨by rfl, ?_⟩) ?_ ?_
                      rotate_left
                      · intro w'
                        go_simp
                        with_reducible rfl
                      rotate_left
                      · simp only [Act.put, List.setIfInBounds_toArray, List.set_cons_zero, List.set_cons_succ, i64_w, i32_w]
                        rfl
                      refine pure_ (i := 11) (N := some 111) (v := ?_) (a' := ?_) #[true, true, true, true, true, true, true, true, true, true, true, true, false, false, false, false, false, false, false, false, false, false] rfl rfl (by kernel_rfl) (fun _ _ _ h => h) (Or.inl ⟨by rfl, ?_⟩) ?_ ?_
                      rotate_left
                      · intro w'
                        go_simp
                        with_reducible rfl
                      rotate_left
                      · simp only [Act.put, List.setIfInBounds_toArray, List.set_cons_zero, List.set_cons_succ, i64_w, i32_w]
                        rfl
                      refine pure_ (i := 12) (N := some 112) (v := ?_) (a' := ?_) #[true, true, true, true, true, true, true, true, true, true, true, true, true, false, false, false, false, false, false, false, false, false] rfl rfl (by kernel_rfl) (fun _ _ _ h => h) (Or.inl ⟨by rfl, ?_⟩) ?_ ?_
                      rotate_left
                      · intro w'
                        go_simp
                        with_reducible rfl
                      rotate_left
                      · simp only [Act.put, List.setIfInBounds_toArray, List.set_cons_zero, List.set_cons_succ, i64_w, i32_w]
                        rfl
                      refine pure_ (i := 13) (N := some 113) (v := undef) (a' := ?_) #[true, true, true, true, true, true, true, true, true, true, true, true, true, true, false, false, false, false, false, false, false, false] rfl rfl (by kernel_rfl) (fun _ _ _ h => h) (Or.inr ⟨by rfl, rfl⟩) ?_ ?_
                      rotate_left
                      · simp only [Act.put, List.setIfInBounds_toArray, List.set_cons_zero, List.set_cons_succ, i64_w, i32_w]
                        rfl
                      refine pure_ (i := 14) (N := some 114) (v := undef) (a' := ?_) #[true, true, true, true, true, true, true, true, true, true, true, true, true, true, true, false, false, false, false, false, false, false] rfl rfl (by kernel_rfl) (fun _ _ _ h => h) (Or.inr ⟨by rfl, rfl⟩) ?_ ?_
                      rotate_left
                      · simp only [Act.put, List.setIfInBounds_toArray, List.set_cons_zero, List.set_cons_succ, i64_w, i32_w]
                        rfl
                      refine pure_ (i := 15) (N := some 115) (v := undef) (a' := ?_) #[true, true, true, true, true, true, true, true, true, true, true, true, true, true, true, true, false, false, false, false, false, false] rfl rfl (by kernel_rfl) (fun _ _ _ h => h) (Or.inr ⟨by rfl, rfl⟩) ?_ ?_
                      rotate_left
                      · simp only [Act.put, List.setIfInBounds_toArray, List.set_cons_zero, List.set_cons_succ, i64_w, i32_w]
                        rfl
                      refine pure_ (i := 16) (N := some 116) (v := undef) (a' := ?_) #[true, true, true, true, true, true, true, true, true, true, true, true, true, true, true, true, true, false, false, false, false, false] rfl rfl (by kernel_rfl) (fun _ _ _ h => h) (Or.inr ⟨by rfl, rfl⟩) ?_ ?_
                      rotate_left
                      · simp only [Act.put, List.setIfInBounds_toArray, List.set_cons_zero, List.set_cons_succ, i64_w, i32_w]
                        rfl
                      refine pure_ (i := 17) (N := some 117) (v := undef) (a' := ?_) #[true, true, true, true, true, true, true, true, true, true, true, true, true, true, true, true, true, true, false, false, false, false] rfl rfl (by kernel_rfl) (fun _ _ _ h => h) (Or.inr ⟨by rfl, rfl⟩) ?_ ?_
                      rotate_left
                      · simp only [Act.put, List.setIfInBounds_toArray, List.set_cons_zero, List.set_cons_succ, i64_w, i32_w]
                        rfl
                      refine pure_ (i := 18) (N := some 118) (v := undef) (a' := ?_) #[true, true, true, true, true, true, true, true, true, true, true, true, true, true, true, true, true, true, true, false, false, false] rfl rfl (by kernel_rfl) (fun _ _ _ h => h) (Or.inr ⟨by rfl, rfl⟩) ?_ ?_
                      rotate_left
                      · simp only [Act.put, List.setIfInBounds_toArray, List.set_cons_zero, List.set_cons_succ, i64_w, i32_w]
                        rfl
                      refine pure_ (i := 19) (N := some 119) (v := undef) (a' := ?_) #[true, true, true, true, true, true, true, true, true, true, true, true, true, true, true, true, true, true, true, true, false, false] rfl rfl (by kernel_rfl) (fun _ _ _ h => h) (Or.inr ⟨by rfl, rfl⟩) ?_ ?_
                      rotate_left
                      · simp only [Act.put, List.setIfInBounds_toArray, List.set_cons_zero, List.set_cons_succ, i64_w, i32_w]
                        rfl
                      refine pure_ (i := 20) (N := some 120) (v := undef) (a' := ?_) #[true, true, true, true, true, true, true, true, true, true, true, true, true, true, true, true, true, true, true, true, true, false] rfl rfl (by kernel_rfl) (fun _ _ _ h => h) (Or.inr ⟨by rfl, rfl⟩) ?_ ?_
                      rotate_left
                      · simp only [Act.put, List.setIfInBounds_toArray, List.set_cons_zero, List.set_cons_succ, i64_w, i32_w]
                        rfl
                      refine pure_ (i := 21) (N := some 121) (v := ?_) (a' := ?_) #[true, true, true, true, true, true, true, true, true, true, true, true, true, true, true, true, true, true, true, true, true, true] rfl rfl (by kernel_rfl) (fun _ _ _ h => h) (Or.inl ⟨by rfl, ?_⟩) ?_ ?_
                      rotate_left
                      · intro w'
                        go_simp
                        with_reducible rfl
                      rotate_left
                      · simp only [Act.put, List.setIfInBounds_toArray, List.set_cons_zero, List.set_cons_succ, i64_w, i32_w]
                        rfl
                      refine done_ (by kernel_rfl) ?_
                      go_wp2
                      go_meet
                      exact ⟨rfl, ⟨below_step HR.out HBG.out⟩, KZ⟩
                  · have e1 : decide ((k : Int) + 1 ≤ (L1.length : Int)) = false := decide_eq_false (by omega)
                    clear hq
                    go_region
                    all_goals
                      go_wp2
                      go_meet
                      exact ⟨rfl, ⟨below_step HR.out (by repeat (first | exact HBG.out | apply pw_below_drewN | apply below_drew1))⟩, KZ⟩
                case rest =>
                  obtain ⟨rfl, HR2, KZ2⟩ := hcut
                  have hsn := about_rd nmNormal L2 k HK.out
                  have hsh := about_rd nmHigh L2 k HK.out
                  have hn1 := about_le nmNormal (L2.take k)
                  have hn2 := about_le nmHigh (L2.take k)
                  have hn3 : (L2.take k).length ≤ k := List.length_take_le _ _
                  have SN := Aside0.mk hsn
                  have SH := Aside0.mk hsh
                  have hn4 : aboutP nmNormal (L2.take k) ≤ 1000 := by omega
                  have hn5 : aboutP nmHigh (L2.take k) ≤ 1000 := by omega
                  have hn6 := hn1.1
                  have hn7 := hn2.1
                  clear hsn hsh hn1 hn2 hn3 kz0 kz19 HR HBG KZ RR9 RR12 IR GZ NG dd1 dd9 hw1
                  have HR := HR2
                  have kz6 := (blk_cell KZ2.out 6).trans rfl
                  have kz19 := (blk_cell KZ2.out 19).trans rfl
                  clear KZ2 HR2
                  generalize aboutP nmNormal (L2.take k) = an at SN hn4 hn6 ⊢
                  generalize aboutP nmHigh (L2.take k) = ah at SH hn5 hn7 ⊢
                  generalize rd_T58 L2 (k : Int) = j at SN SH kz6 kz19 HSZ
                  by_cases h4 : j.f5 ≤ 4
                  · cases hq1 : (j.f3.f3.toList == [110, 111, 114, 109, 97, 108]) with
                    | true =>
                      have hq2 : (j.f3.f3.toList == [104, 105, 103, 104]) = false := by
                        rw [beq_iff_eq.1 hq1]; rfl
                      have I1 : Aside0 (isAb nmNormal j = true) := ⟨by unfold isAb; rw [decide_eq_true h4, nmN_l, hq1]; rfl⟩
                      have I3 : Aside0 (isAb nmHigh j = false) := ⟨by unfold isAb; rw [nmH_l, hq2]; rfl⟩
                      go_wp2
                      go_roundg gk
                      case measure => exact Nat.lt_succ_self _
                      case rel => exact ⟨k + 1, by go_num, by rw [SN.out, if_pos I1.out], by rw [SH.out, if_neg (by rw [I3.out]; simp)]; go_num, ⟨by have := GJ.out; omega, HK.out⟩, HR⟩
                    | false =>
                      have I1 : Aside0 (isAb nmNormal j = false) := ⟨by unfold isAb; rw [nmN_l, hq1]; rfl⟩
                      cases hq2 : (j.f3.f3.toList == [104, 105, 103, 104]) with
                      | true =>
                        have I3 : Aside0 (isAb nmHigh j = true) := ⟨by unfold isAb; rw [decide_eq_true h4, nmH_l, hq2]; rfl⟩
                        go_wp2
                        go_roundg gk
                        case measure => exact Nat.lt_succ_self _
                        case rel => exact ⟨k + 1, by go_num, by rw [SN.out, if_neg (by rw [I1.out]; simp)]; go_num, by rw [SH.out, if_pos I3.out], ⟨by have := GJ.out; omega, HK.out⟩, HR⟩
                      | false =>
                        have I3 : Aside0 (isAb nmHigh j = false) := ⟨by unfold isAb; rw [nmH_l, hq2]; rfl⟩
                        go_wp2
                        go_roundg gk
                        case measure => exact Nat.lt_succ_self _
                        case rel => exact ⟨k + 1, by go_num, by rw [SN.out, if_neg (by rw [I1.out]; simp)]; go_num, by rw [SH.out, if_neg (by rw [I3.out]; simp)]; go_num, ⟨by have := GJ.out; omega, HK.out⟩, HR⟩
                  · have I1 : Aside0 (isAb nmNormal j = false) := ⟨by unfold isAb; rw [decide_eq_false h4, Bool.and_false]⟩
                    have I3 : Aside0 (isAb nmHigh j = false) := ⟨by unfold isAb; rw [decide_eq_false h4, Bool.and_false]⟩
                    have h45 : 4 < j.f5 := by omega
                    go_wp2
                    go_roundg gk
                    case measure => exact Nat.lt_succ_self _
                    case rel => exact ⟨k + 1, by go_num, by rw [SN.out, if_neg (by rw [I1.out]; simp)]; go_num, by rw [SH.out, if_neg (by rw [I3.out]; simp)]; go_num, ⟨by have := GJ.out; omega, HK.out⟩, HR⟩
              · have hkz : (L2.length : Int) < (k : Int) + 1 := by omega
                have hke : k = L2.length := by have := GJ.out; omega
                subst hke
                rw [List.take_length]
                have hc := I2.out.cls SX.out.2.2.1
                have c8 : aboutP nmNormal L2 ≤ 8 := hc.1
                have c2 : aboutP nmHigh L2 ≤ 2 := hc.2
                have hn : (L1.length : Int) ≤ (L2.length : Int) := by have := LN.out; omega
                clear hc
                generalize aboutP nmNormal L2 = an at c8 ⊢
                generalize aboutP nmHigh L2 = ah at c2 ⊢
                go_wp2_with (first | (go_at_call 14; obtain ⟨_, _, c14⟩ := T.out; refine (len_at c14).mono ?_; rintro e w14 ⟨he, hw⟩; have hw := hw.symm; subst hw; subst he))
                go_roundg gko
                case measure => exact Nat.lt_succ_self _
                case rel => exact ⟨i + 1, M2, L2, by go_num, ⟨by have := GK.out; omega, by have := H5.out; omega, HL.out⟩, ⟨T.out⟩, ⟨by have h := I2.out; rw [Nat.add_assoc] at h; exact h⟩, ⟨fun b hb => (MX.out.2.1 b hb).elim (MM.out.1 b) (fun q => Nat.le_trans HB.out.size q), fun b hb => Nat.lt_of_lt_of_le (MX.out.2.2 b hb) HR.out.size⟩, ⟨below_step (K2.out.below HB.out MM.out.1) HR.out⟩⟩
      · have h51 : (50 : Int) ≤ (i : Int) := by omega
        have hlz : (i : Int) < (l1.length : Int) := by omega
        clear h50 hlt
        go_wp2_with (first | (go_at_call 15; refine (known_at (Glob.below HG.out HB.out)).mono ?_; rintro e w41 ⟨rfl, hb⟩; have HBK := Aside0.mk (below_step HB.out hb); clear hb))
        go_ret
        exact ⟨rfl, HBK.out⟩
    · have hle : (l1.length : Int) ≤ (i : Int) := by omega
      clear hlt
      go_wp2_with (first | (go_at_call 15; refine (known_at (Glob.below HG.out HB.out)).mono ?_; rintro e w41 ⟨rfl, hb⟩; have HBK := Aside0.mk (below_step HB.out hb); clear hb))
      go_ret
      exact ⟨rfl, HBK.out⟩
end
end Go.Proofs.YtgkedamhicemiaaDoor.P
