/- cut to what one law reaches -/
import Derived.Test.YtgkedamhicemiaaDoorJyJ7a
namespace Go.Proofs.YtgkedamhicemiaaDoor.P
open Go.RowKit Go.Proofs.YtgkedamhicemiaaDoorW.PrintWords Go.Proofs.YtgkedamhicemiaaDoorW.PrintLast Go.Proofs.YtgkedamhicemiaaDoorW.PrintMore
attribute [local go_sem] max2_int min2_int max_two min_two max_three min_three max_four min_four
set_option linter.unusedVariables false
set_option linter.unusedSimpArgs false
attribute [local go_sem] isSome_setCell
theorem info58 : (Tryd.prog.info? 58).map (fun i => (i.zero, i.size, i.bytes)) = some (some (.agg #[(.int .u32 0), (.int .u32 0), (.int .i64 0), (.string ⟨#[]⟩), (.string ⟨#[]⟩), (.string ⟨#[]⟩), (.string ⟨#[]⟩), (.int .i64 0), (.int .i64 0), (.slice none 0 0), (.int .i64 0), (.bool false), (.slice none 0 0), (.int .i64 0), (.int .i64 0), (.bool false), (.bool false), (.string ⟨#[]⟩), (.int .i64 0), (.int .i64 0), (.int .i64 0), (.int .i64 0), (.int .i64 0), (.int .i64 0), (.int .i64 0), (.int .i64 0)]), 26, 264) := by kernel_rfl
theorem adm_ok {x : Cg} {s : S41} {now n : Int} {L : List S58} {p : Int} (h : AdmR x s now n L p 0) : (L.length : Int) + n ≤ 500 := by
  obtain ⟨pr, cr, ac, _, _, _, h⟩ := h
  unfold admE at h
  split at h
  · simp at h
  split at h
  · simp at h
  split at h
  · simp at h
  split at h
  · simp at h
  · rename_i q
    omega
theorem idxs_nil {s : S41} (h : s.f6.f0 = []) : idxs s = [-1] := if_pos h
theorem idxs_some {s : S41} (h : ¬ s.f6.f0 = []) : idxs s = s.f6.f0 := if_neg h
theorem idxs_le {s : S41} (h : szS s) : (idxs s).length ≤ 17592186044416 := by
  by_cases e : s.f6.f0 = []
  · rw [idxs_nil e]; simp
  · rw [idxs_some e]; have := h.2.2.2.2.1; omega
theorem lit_keep {W w1 : World} {M : Nat → Prop} {v : Value} {xs : List Int} {ok : Nat → Prop} (hr : Kd.R (Kd.int .i64) 3 w1 W.heap.size ok v xs) (hm : ∀ k, M k → k < W.heap.size) : ∀ w', KeepM M w1 w' → Kd.R (Kd.int .i64) 3 w' W.heap.size (fun _ => True) v xs := fun w' h =>
  Kd.R_mono (h.R (Kd.R_bound hr) (fun k hk hM => by have := hm k hM; have := hk.2.1; omega)) (fun _ _ => trivial)
theorem run_loadSpec {w' : World} {gbs : Nat} (seg : List Value) (hl : seg.length = 15) (hc : ∀ j u, seg[j]? = some u → w'.cell? ⟨gbs, 0 + j, none⟩ = some u) : (Instr.loadAt 41 (.pointer (some ⟨gbs, 0, none⟩))).run Tryd.prog w' = .ok (.agg seg.toArray) w' := by
  have h2 := run_loadCells_at (P := Tryd.prog) seg hc
  rw [hl] at h2
  obtain ⟨i, hi, hsz⟩ := Option.map_eq_some_iff.1 info41s
  simp [Instr.loadAt, Instr.sureAddr, loadVar, isAgg, run_underlying Tryd.underlying41, sizeOf, typeInfo, hi, hsz, h2]
theorem run_loadSpecX {ev : Operand → Value} {o : Oper} {p : Operand} (ho : o.op = .load 41 p) {w' : World} {gbs : Nat} (ha : ev p = .pointer (some ⟨gbs, 0, none⟩)) (seg : List Value) (hl : seg.length = 15) (hc : ∀ j u, seg[j]? = some u → w'.cell? ⟨gbs, 0 + j, none⟩ = some u) :
    (execOp ev o).run Tryd.prog w' = .ok (.value (.agg seg.toArray)) w' := by
  unfold execOp
  simp only [ho, ha, Sem.run_bind, Sem.run_pure, Result.andThen_ok, run_loadSpec seg hl hc]
/-- what a call of Submit leaves -/
def SubPost (x : Cg) (s : S41) (now : Int) (L : List S58) (W : World) (B : Nat) (M : Nat → Prop) (t : Nat) (e : Ending) (w' : World) : Prop :=
  ∃ (M' : Nat → Prop) (Ao : Option Addr) (co : Nat) (out : List Int) (L' : List S58) (q : Int), e = .returned (.tuple #[.slice Ao out.length co, .int .i64 q]) ∧ SubR x s now L q out L' ∧ Tb w' B M' t x L' ∧ (∀ k, M k → M' k) ∧ (∀ k, M' k → M k ∨ W.heap.size ≤ k) ∧ (∀ k, M' k → k < w'.heap.size) ∧ Kd.R (Kd.int .u32) 48 w' W.heap.size (fun k => ¬ M' k) (.slice Ao out.length co) out ∧ KeepM M W w'
section
variable {W W' : World} {B t : Nat} {M : Nat → Prop} {x : Cg} {L : List S58}
set_option maxHeartbeats 16000000 in
set_option maxRecDepth 100000 in
theorem submit_at (s : S41) (hs : szS s) (A6 : Option Addr) (c6 : Nat) (A9 : Option Addr) (c9 : Nat) (now : Int) (hG : Glob W) (h6 : ∀ w', KeepM M W w' → Kd.C (Kd.int .i64) w' A6 s.f6.f0.length s.f6.f0) (hc6 : s.f6.f0.length ≤ c6) (h9 : ∀ w', KeepM M W w' → Kd.C k105 w' A9 s.f7.f1.length s.f7.f1) (hc9 : s.f7.f1.length ≤ c9) (hL : L.length ≤ 500) (hM : ∀ k, M k → k < W.heap.size) (c : Tb W B M t x L) :
    Calls Tryd.prog 12 #[.pointer (some ⟨t, 0, none⟩), .agg #[.string s.f0, .string s.f1, .string s.f2, .string s.f3, .int .i64 s.f4, .int .i64 s.f5, .slice A6 s.f6.f0.length c6, .int .i64 s.f6.f1, .bool s.f7.f0, .slice A9 s.f7.f1.length c9, .int .i64 s.f8, .int .i64 s.f9, .bool s.f10, .bool s.f11, .string s.f12], .int .i64 now] W (SubPost x s now L W B M t) := by
  have hu83 := Tryd.underlying83
  have hu41 := Tryd.underlying41
  have HS := Aside0.mk hs
  have HG := Aside0.mk hG
  have H6 := Aside0.mk h6
  have H9 := Aside0.mk h9
  have HC6 := Aside0.mk hc6
  have HC9 := Aside0.mk hc9
  have HL := Aside0.mk hL
  have HM := Aside0.mk hM
  have CB := Aside0.mk c
  obtain ⟨Aj, cj, c⟩ := c
  have C := Aside0.mk c
  clear c hs hG h6 h9 hc6 hc9 hL hM
  go_enter Tryd.func12, Tryd.ntmps12
  go_upto_if 20 with (first | ((with_reducible refine gate_dst (N := 4) rfl ?_); refine box_event ?hg (N := 4) ?hd (cs := #[.string s.f0, .string s.f1, .string s.f2, .string s.f3, .int .i64 s.f4, .int .i64 s.f5, .slice A6 s.f6.f0.length c6, .int .i64 s.f6.f1, .bool s.f7.f0, .slice A9 s.f7.f1.length c9, .int .i64 s.f8, .int .i64 s.f9, .bool s.f10, .bool s.f11, .string s.f12]) (t := 41) ?hr ?_; (case hd => rfl); (case hg => rfl); (case hr => first | (go_simp; done) | (go_simp; rfl)); intro gbs hg ws hbox hb; have KX := Aside0.mk hbox; have HB := Aside0.mk hb; have HN := Aside0.mk (show ¬ M gbs from fun h => by have := HM.out _ h; omega); have HS4 := Aside0.mk (blk_lt hbox); clear hb hg hbox) | ((with_reducible refine gate_ (.load 41 (.tmp 4)) rfl ?_); refine agg_load rfl (N := 21) rfl rfl Tryd.underlying41 info41s (g := gbs) (off := 0) rfl [.string s.f0, .string s.f1, .string s.f2, .string s.f3, .int .i64 s.f4, .int .i64 s.f5, .slice A6 s.f6.f0.length c6, .int .i64 s.f6.f1, .bool s.f7.f0, .slice A9 s.f7.f1.length c9, .int .i64 s.f8, .int .i64 s.f9, .bool s.f10, .bool s.f11, .string s.f12] rfl (blk_seg KX.out 0 15 rfl) ?_) | (go_at_call 33; refine (check_any s HS.out A6 c6 A9 c9 _ (Glob.below HG.out HB.out) (H6.out _ (KeepM.of HB.out)) HC6.out (H9.out _ (KeepM.of HB.out)) HC9.out).mono ?_; rintro e w2 ⟨r, rfl, hR, hb⟩; have HR := Aside0.mk hR; have n0_ := Aside0.mk (below_step HB.out hb); have n1_ := Aside0.mk (blk_below KX.out hb); (try clear HB); (try clear KX); have HB := n0_; clear n0_; have KX := n1_; clear n1_; clear hR hb))
  rcases HR.out.1 with e0 | e0
  case inr =>
    subst e0
    go_wp2
    go_ret2
    exact ⟨M, none, 0, [], L, 90, rfl, ⟨90, HR.out, Or.inl ⟨by decide, rfl, rfl, rfl⟩⟩, CB.out.below HB.out, fun _ h => h, fun _ h => Or.inl h, fun k h => Nat.lt_of_lt_of_le (HM.out k h) HB.out.size, Kd.R_nil _ _ _ _ _, KeepM.of HB.out⟩
  case inl =>
    subst e0
    rw [show ((0 : Int) != 0) = false from rfl]
    have kx6 := (blk_cell KX.out 6).trans rfl
    have z12 := (Tab.cell (Tab.below C.out HB.out) 12).trans rfl
    have hm1 : ((L.length : Int) + 1) % 4294967296 = (L.length : Int) + 1 := by have := HL.out; omega
    go_upto_if 36 with fail
    go_cut [8, 9] (fun s8 s9 wx => ∃ (Ax : Option Addr) (cx : Nat), s8 = .slice Ax (idxs s).length cx ∧ s9 = .int .u32 (firstId s L) ∧ Aside0 (∀ w', KeepM M wx w' → Kd.C (Kd.int .i64) w' Ax (idxs s).length (idxs s)) ∧ Aside0 (wx.heap[gbs]? = some (.cells #[.string s.f0, .string s.f1, .string s.f2, .string s.f3, .int .i64 s.f4, .int .i64 s.f5, .slice A6 s.f6.f0.length c6, .int .i64 s.f6.f1, .bool s.f7.f0, .slice A9 s.f7.f1.length c9, .int .i64 s.f8, .int .i64 s.f9, .bool s.f10, .bool s.f11, .string s.f12] 41 (0, 0))) ∧ Aside0 (Below W.heap.size W wx))
    case first =>
      by_cases e : s.f6.f0 = []
      · have e1 := idxs_nil e
        have e2 : firstId s L = 0 := if_pos e
        have E1 := Aside0.mk e1
        have E2 := Aside0.mk e2
        have e3 : ((s.f6.f0.length : Int) == 0) = true := by rw [e]; rfl
        clear e1 e2 e
        go_wp2_with (first | ((with_reducible refine gate_dst (N := 37) rfl ?_); refine Kd.R_lit (Kd.int .i64) _ 3 ?hg (N := 37) ?hd (xs := [-1]) (inner := [.int .i64 (-1)]) (ok := fun _ => True) (okp := fun _ => True) ?hr ?hp (fun _ hk => hk) trivial (Below.refl _ _) (Nat.le_refl _) (by simp) ?_; (case hd => rfl); (case hg => rfl); (case hr => first | (go_simp; done) | (go_simp; rfl)); (case hp => exact Kd.reps_scalar [-1]); intro v37 w37 ho hb hg_ hnew_; obtain ⟨Af, cf, rfl⟩ := Kd.R_slice ho; have HO := Aside0.mk (Kd.R_lower ho (below_size HB.out)); have n0_ := Aside0.mk (blk_below KX.out hb); have n1_ := Aside0.mk (below_step HB.out hb); (try clear KX); (try clear HB); have KX := n0_; clear n0_; have HB := n1_; clear n1_; clear hg_ hnew_ ho hb))
        go_meet
        exact ⟨Af, cf, by rw [E1.out]; rfl, by rw [E2.out], ⟨by rw [E1.out]; exact fun w' h => (Kd.R_reads' (lit_keep HO.out HM.out w' h)).2.2⟩, KX, HB⟩
      · have e1 := idxs_some e
        have e2 : firstId s L = (L.length : Int) + 1 := if_neg e
        have E1 := Aside0.mk e1
        have E2 := Aside0.mk e2
        have e3 : ((s.f6.f0.length : Int) == 0) = false := beq_eq_false_iff_ne.2 (fun h => e (List.eq_nil_of_length_eq_zero (by omega)))
        clear e1 e2
        go_wp2
        go_meet
        exact ⟨A6, c6, by rw [E1.out], by rw [E2.out], ⟨by rw [E1.out]; exact fun w' h => H6.out w' ((KeepM.of HB.out).trans h)⟩, KX, HB⟩
    case rest =>
      obtain ⟨Ax, cx, rfl, rfl, HCX, KX, HB⟩ := hcut
      clear hm1
      go_upto_if 48 with (first | ((with_reducible refine gate_ (.load 41 (.tmp 4)) rfl ?_); refine agg_load rfl (N := 40) rfl rfl Tryd.underlying41 info41s (g := gbs) (off := 0) rfl [.string s.f0, .string s.f1, .string s.f2, .string s.f3, .int .i64 s.f4, .int .i64 s.f5, .slice A6 s.f6.f0.length c6, .int .i64 s.f6.f1, .bool s.f7.f0, .slice A9 s.f7.f1.length c9, .int .i64 s.f8, .int .i64 s.f9, .bool s.f10, .bool s.f11, .string s.f12] rfl (blk_seg KX.out 0 15 rfl) ?_) | (go_at_call 34; refine (admits_at s A6 c6 A9 c9 now ((idxs s).length : Int) (by omega) (by have := idxs_le HS.out; omega) (HR.out.2.1 rfl) HL.out (CB.out.below HB.out)).mono ?_; rintro e w2 ⟨p, q, rfl, hA, hb⟩; have HA := Aside0.mk hA; have n0_ := Aside0.mk (below_step HB.out hb); have n1_ := Aside0.mk (blk_below KX.out hb); have n2_ := Aside0.mk (fun w' (h : KeepM M w2 w') => HCX.out w' ((KeepM.of hb).trans h)); (try clear HB); (try clear KX); (try clear HCX); have HB := n0_; clear n0_; have KX := n1_; clear n1_; have HCX := n2_; clear n2_; clear hA hb))
      by_cases q0 : q = 0
      case neg =>
        have Q0 := Aside0.mk q0
        have q1 := bne_iff_ne.2 q0
        clear q0
        go_wp2
        go_ret2
        exact ⟨M, none, 0, [], L, q, rfl, ⟨0, HR.out, Or.inr ⟨rfl, p, HA.out, Or.inl ⟨Q0.out, rfl, rfl⟩⟩⟩, CB.out.below HB.out, fun _ h => h, fun _ h => Or.inl h, fun k h => Nat.lt_of_lt_of_le (HM.out k h) HB.out.size, Kd.R_nil _ _ _ _ _, KeepM.of HB.out⟩
      case pos =>
        subst q0
        obtain ⟨bh, hbh⟩ : ∃ b, s.f10 = b := ⟨_, rfl⟩
        have kx12 := (blk_cell KX.out 12).trans (show _ = some (Value.bool bh) from congrArg (fun b => some (Value.bool b)) hbh)
        have HBH := Aside0.mk hbh
        clear hbh
        go_upto_if 51 with fail
        go_cut [12] (fun s12 wx => s12 = .int .i64 (howOf s) ∧ Aside0 (∀ w', KeepM M wx w' → Kd.C (Kd.int .i64) w' Ax (idxs s).length (idxs s)) ∧ Aside0 (wx.heap[gbs]? = some (.cells #[.string s.f0, .string s.f1, .string s.f2, .string s.f3, .int .i64 s.f4, .int .i64 s.f5, .slice A6 s.f6.f0.length c6, .int .i64 s.f6.f1, .bool s.f7.f0, .slice A9 s.f7.f1.length c9, .int .i64 s.f8, .int .i64 s.f9, .bool s.f10, .bool s.f11, .string s.f12] 41 (0, 0))) ∧ Aside0 (Below W.heap.size W wx))
        case first =>
          cases bh with
          | true =>
            go_wp2
            go_meet
            exact ⟨by rw [howOf, if_pos HBH.out], HCX, KX, HB⟩
          | false =>
            go_wp2
            go_meet
            exact ⟨by rw [howOf, if_neg (by rw [HBH.out]; simp)], HCX, KX, HB⟩
        case rest =>
          obtain ⟨rfl, HCX, KX, HB⟩ := hcut
          have HB0 := HB
          have HK0 := Aside0.mk (adm_ok HA.out)
          go_wp2
          go_loopg [13, 54] ((idxs s).length + 1) (fun gk s13 s54 wr => ∃ (k : Nat) (M1 : Nat → Prop) (Ao : Option Addr) (co : Nat), s54 = .int .i64 k ∧ s13 = .slice Ao k co ∧ Aside0 (k + gk = (idxs s).length + 1 ∧ k ≤ (idxs s).length) ∧ Aside0 (Tb wr B M1 t x (L ++ newsK s p now L k)) ∧ Aside0 ((∀ b, M b → M1 b) ∧ (∀ b, M1 b → M b ∨ wc.heap.size ≤ b) ∧ (∀ b, M1 b → b < wr.heap.size)) ∧ Aside0 (Kd.R (Kd.int .u32) 48 wr wc.heap.size (fun b => ¬ M1 b) (.slice Ao k co) (idsK L k)) ∧ Aside0 (KeepM M wc wr))
          case atStart => exact ⟨0, M, none, 0, rfl, rfl, ⟨by omega, by omega⟩, ⟨by rw [show newsK s p now L 0 = [] from rfl, List.append_nil]; exact CB.out.below HB.out⟩, ⟨fun _ h => h, fun _ h => Or.inl h, fun b h => Nat.lt_of_lt_of_le (HM.out b h) HB.out.size⟩, ⟨Kd.R_nil _ _ _ _ _⟩, ⟨KeepM.refl _⟩⟩
          case round =>
            obtain ⟨k, M1, Ao, co, rfl, rfl, GK, TB, MM, RO, KP⟩ := hrel
            by_cases hlt : k < (idxs s).length
            · have HLT := Aside0.mk hlt
              obtain ⟨gk, rfl⟩ : ∃ m, gk = m + 1 := ⟨gk - 1, by have := GK.out; omega⟩
              have hlz : (k : Int) < ((idxs s).length : Int) := by omega
              obtain ⟨ad, eX, cI⟩ := Kd.at_int (HCX.out _ KP.out) (k : Int) (by omega) hlz
              subst eX
              rw [Int.toNat_natCast] at cI
              obtain ⟨Aj1, cj1, T1⟩ := TB.out
              have T := Aside0.mk T1
              have z12 := (Tab.cell T.out 12).trans rfl
              have KXr := Aside0.mk (KP.out.blk KX.out HN.out)
              obtain ⟨nL, hnL⟩ : ∃ nL, (L ++ newsK s p now L k).length = nL := ⟨_, rfl⟩
              have hb5 : nL ≤ 499 := by have := HK0.out; rw [List.length_append, newsK_len] at hnL; omega
              have HNL := Aside0.mk hnL
              have HKL : Aside0 (k ≤ 499) := ⟨by have h2 := hnL; rw [List.length_append, newsK_len] at h2; omega⟩
              have hkb : (k : Int) ≤ 499 := by have := HKL.out; omega
              rw [hnL] at z12
              have hm1 : ((nL : Int) + 1) % 4294967296 = (nL : Int) + 1 := by omega
              clear T1 hnL TB hlt
              go_upto_region 20 with fail
              have n_ := Aside0.mk (Tab.drew T.out)
              clear T
              have T := n_
              clear n_
              have n_ := Aside0.mk (Kd.R_drew RO.out)
              clear RO
              have RO := n_
              clear n_
              have n_ := Aside0.mk (KeepM.drew KP.out)
              clear KP
              have KP := n_
              clear n_
              have WS := Aside0.mk (show wr.drew.heap.size = wr.heap.size from rfl)
              refine start_ (n := 19) (S := fun w' => w'.cell? ⟨t, 12, none⟩ = some (.slice Aj1 nL cj1) ∧ w'.heap[gbs]? = some (.cells #[.string s.f0, .string s.f1, .string s.f2, .string s.f3, .int .i64 s.f4, .int .i64 s.f5, .slice A6 s.f6.f0.length c6, .int .i64 s.f6.f1, .bool s.f7.f0, .slice A9 s.f7.f1.length c9, .int .i64 s.f8, .int .i64 s.f9, .bool s.f10, .bool s.f11, .string s.f12] 41 (0, 0))) (ds := [18]) #[false, false, false, false, false, false, false, false, false, false, false, false, false, false, false, false, false, false, false] (by kernel_rfl) rfl rfl ⟨z12, KXr.out⟩ (fun hHeld => ?_)
              generalize wr.drew = w3 at T RO KP WS hHeld ⊢
              refine pure_ (i := 0) (N := some 65) (v := ?_) (a' := ?_) #[true, false, false, false, false, false, false, false, false, false, false, false, false, false, false, false, false, false, false] rfl rfl (by kernel_rfl) (fun _ _ _ h => h) (Or.inl ⟨by rfl, ?_⟩) ?_ ?_
              rotate_left
              · intro w'
                go_simp
                with_reducible rfl
              rotate_left
              · simp only [Act.put, List.setIfInBounds_toArray, List.set_cons_zero, List.set_cons_succ, i64_w, i32_w]
                rfl
              refine pure_ (i := 1) (N := some 66) (v := ?_) (a' := ?_) #[true, true, false, false, false, false, false, false, false, false, false, false, false, false, false, false, false, false, false] rfl rfl (by kernel_rfl) (fun _ _ _ h => h) (Or.inl ⟨by rfl, ?_⟩) ?_ ?_
              rotate_left
              · intro w'
                go_simp
                with_reducible rfl
              rotate_left
              · simp only [Act.put, List.setIfInBounds_toArray, List.set_cons_zero, List.set_cons_succ, i64_w, i32_w]
                rfl
              refine pure_ (i := 2) (N := some 67) (v := ?_) (a' := ?_) #[true, true, true, false, false, false, false, false, false, false, false, false, false, false, false, false, false, false, false] rfl rfl (by kernel_rfl) (fun _ _ _ h => h) (Or.inl ⟨by rfl, ?_⟩) ?_ ?_
              rotate_left
              · intro w'
                go_simp
                with_reducible rfl
              rotate_left
              · simp only [Act.put, List.setIfInBounds_toArray, List.set_cons_zero, List.set_cons_succ, i64_w, i32_w]
                rfl
              refine pure_ (i := 3) (N := some 68) (v := ?_) (a' := ?_) #[true, true, true, true, false, false, false, false, false, false, false, false, false, false, false, false, false, false, false] rfl rfl (by kernel_rfl) (fun _ _ _ h => h) (Or.inl ⟨by rfl, ?_⟩) ?_ ?_
              rotate_left
              · intro w'
                go_simp
                with_reducible rfl
              rotate_left
              · simp only [Act.put, List.setIfInBounds_toArray, List.set_cons_zero, List.set_cons_succ, i64_w, i32_w]
                rfl
              refine take_ (i := 4) (N := some 69) (v := ?_) (a' := ?_) #[true, true, true, true, true, false, false, false, false, false, false, false, false, false, false, false, false, false, false] rfl rfl (by kernel_rfl) (fun _ _ _ h => h) (Or.inl ⟨by rfl, ?_⟩) hHeld ?_ ?_
              rotate_left
              · rintro w' ⟨s0, s1⟩
                go_simp
                with_reducible rfl
              rotate_left
              · simp only [Act.put, List.setIfInBounds_toArray, List.set_cons_zero, List.set_cons_succ, i64_w, i32_w]
                rfl
              refine pure_ (i := 5) (N := some 70) (v := ?_) (a' := ?_) #[true, true, true, true, true, true, false, false, false, false, false, false, false, false, false, false, false, false, false] rfl rfl (by kernel_rfl) (fun _ _ _ h => h) (Or.inl ⟨by rfl, ?_⟩) ?_ ?_
              rotate_left
              · intro w'
                go_simp
                with_reducible rfl
              rotate_left
              · simp only [Act.put, List.setIfInBounds_toArray, List.set_cons_zero, List.set_cons_succ, i64_w, i32_w]
                rfl
              refine pure_ (i := 6) (N := some 71) (v := ?_) (a' := ?_) #[true, true, true, true, true, true, true, false, false, false, false, false, false, false, false, false, false, false, false] rfl rfl (by kernel_rfl) (fun _ _ _ h => h) (Or.inl ⟨by rfl, ?_⟩) ?_ ?_
              rotate_left
              · intro w'
                go_simp
                with_reducible rfl
              rotate_left
              · simp only [Act.put, List.setIfInBounds_toArray, List.set_cons_zero, List.set_cons_succ, i64_w, i32_w]
                rfl
              refine pure_ (i := 7) (N := some 72) (v := ?_) (a' := ?_) #[true, true, true, true, true, true, true, true, false, false, false, false, false, false, false, false, false, false, false] rfl rfl (by kernel_rfl) (fun _ _ _ h => h) (Or.inl ⟨by rfl, ?_⟩) ?_ ?_
              rotate_left
              · intro w'
                go_simp
                with_reducible rfl
              rotate_left
              · simp only [Act.put, List.setIfInBounds_toArray, List.set_cons_zero, List.set_cons_succ, i64_w, i32_w]
                rfl
              refine take_ (i := 8) (N := some 73) (v := .agg #[.string s.f0, .string s.f1, .string s.f2, .string s.f3, .int .i64 s.f4, .int .i64 s.f5, .slice A6 s.f6.f0.length c6, .int .i64 s.f6.f1, .bool s.f7.f0, .slice A9 s.f7.f1.length c9, .int .i64 s.f8, .int .i64 s.f9, .bool s.f10, .bool s.f11, .string s.f12]) (a' := ?_) #[true, true, true, true, true, true, true, true, true, false, false, false, false, false, false, false, false, false, false] rfl rfl (by kernel_rfl) (fun _ _ _ h => h) (Or.inl ⟨by rfl, ?_⟩) hHeld ?_ ?_
              · rintro w' ⟨s0, s1⟩
                exact run_loadSpecX rfl rfl [.string s.f0, .string s.f1, .string s.f2, .string s.f3, .int .i64 s.f4, .int .i64 s.f5, .slice A6 s.f6.f0.length c6, .int .i64 s.f6.f1, .bool s.f7.f0, .slice A9 s.f7.f1.length c9, .int .i64 s.f8, .int .i64 s.f9, .bool s.f10, .bool s.f11, .string s.f12] rfl (blk_seg s1 0 15 rfl)
              rotate_left
              · simp only [Act.put, List.setIfInBounds_toArray, List.set_cons_zero, List.set_cons_succ, i64_w, i32_w]
                rfl
              refine pure_ (i := 10) (N := some 75) (v := ?_) (a' := ?_) #[true, true, true, true, true, true, true, true, true, false, true, false, false, false, false, false, false, false, false] rfl rfl (by kernel_rfl) (fun _ _ _ h => h) (Or.inl ⟨by rfl, ?_⟩) ?_ ?_
              rotate_left
              · intro w'
                go_simp
                with_reducible rfl
              rotate_left
              · simp only [Act.put, List.setIfInBounds_toArray, List.set_cons_zero, List.set_cons_succ, i64_w, i32_w]
                rfl
              refine pure_ (i := 11) (N := some 76) (v := ?_) (a' := ?_) #[true, true, true, true, true, true, true, true, true, false, true, true, false, false, false, false, false, false, false] rfl rfl (by kernel_rfl) (fun _ _ _ h => h) (Or.inl ⟨by rfl, ?_⟩) ?_ ?_
              rotate_left
              · intro w'
                go_simp
                with_reducible rfl
              rotate_left
              · simp only [Act.put, List.setIfInBounds_toArray, List.set_cons_zero, List.set_cons_succ, i64_w, i32_w]
                rfl
              refine pure_ (i := 12) (N := some 77) (v := ?_) (a' := ?_) #[true, true, true, true, true, true, true, true, true, false, true, true, true, false, false, false, false, false, false] rfl rfl (by kernel_rfl) (fun _ _ _ h => h) (Or.inl ⟨by rfl, ?_⟩) ?_ ?_
              rotate_left
              · intro w'
                go_simp
                with_reducible rfl
              rotate_left
              · simp only [Act.put, List.setIfInBounds_toArray, List.set_cons_zero, List.set_cons_succ, i64_w, i32_w]
                rfl
              refine one_ (i := 9) (N := some 74) #[true, true, true, true, true, true, true, true, true, true, true, true, true, false, false, false, false, false, false] rfl rfl (by kernel_rfl) (by decide) (fun K hK => ?_)
              refine goes_ Tryd.func35 (by kernel_rfl) rfl #[.agg #[.string s.f0, .string s.f1, .string s.f2, .string s.f3, .int .i64 s.f4, .int .i64 s.f5, .slice A6 s.f6.f0.length c6, .int .i64 s.f6.f1, .bool s.f7.f0, .slice A9 s.f7.f1.length c9, .int .i64 s.f8, .int .i64 s.f9, .bool s.f10, .bool s.f11, .string s.f12]] (by rfl) rfl rfl (by (try simp only [List.map_toArray, List.map_cons, List.map_nil]); first | done | rfl) ?_
              refine (copied_at s HS.out A6 c6 A9 c9 _ (H6.out _ ((KeepM.of HB0.out).trans KP.out)) HC6.out (H9.out _ ((KeepM.of HB0.out).trans KP.out)) HC9.out).mono ?_
              rintro e w4 ⟨v6_, v9_, rfl, r6, r9, hb⟩
              refine ⟨_, rfl, ?_⟩
              obtain ⟨B6, d6, rfl⟩ := Kd.R_slice r6
              obtain ⟨B9, d9, rfl⟩ := Kd.R_slice r9
              have HB3 := Aside0.mk hb
              have R6 := Aside0.mk r6
              have R9 := Aside0.mk r9
              clear r6 r9
              obtain ⟨s0, s1⟩ := hHeld
              have Q0 := Aside0.mk (pw_cell_below hb s0)
              have Q1 := Aside0.mk (blk_below s1 hb)
              refine hK.out _ _ ⟨pw_cell_below hb s0, blk_below s1 hb⟩ (fun hHeld => ?_)
              clear hK K
              refine norm_ (a' := ?_) ?_ ?_
              rotate_left
              · show Act.put _ (some 74) _ = _
                simp only [Act.put, List.setIfInBounds_toArray, List.set_cons_zero, List.set_cons_succ, i64_w, i32_w]
                rfl
              refine pure_ (i := 13) (N := some 78) (v := ?_) (a' := ?_) #[true, true, true, true, true, true, true, true, true, true, true, true, true, true, false, false, false, false, false] rfl rfl (by kernel_rfl) (fun _ _ _ h => h) (Or.inl ⟨by rfl, ?_⟩) ?_ ?_
              rotate_left
              · intro w'
                go_simp
                with_reducible rfl
              rotate_left
              · simp only [Act.put, List.setIfInBounds_toArray, List.set_cons_zero, List.set_cons_succ, i64_w, i32_w]
                rfl
              have hbt := blk_lt (Tab.b T.out)
              have hrl : ∀ b, (Value.slice Aj1 nL cj1).ownBlock = some b → b < w3.heap.size := fun b h => R_lt T.out.rj b (by rw [HNL.out]; exact h)
              have hne : some t ≠ (Value.slice Aj1 nL cj1).ownBlock := by
                have := Kd.R_ne T.out.rj T.out.b (by decide)
                rw [HNL.out] at this
                exact this
              have hgs : some gbs ≠ (Value.slice Aj1 nL cj1).ownBlock := by
                have := Kd.R_ne T.out.rj s1 (by decide)
                rw [HNL.out] at this
                exact this
              refine one_ (i := 14) (N := some 79) #[true, true, true, true, true, true, true, true, true, true, true, true, true, true, true, false, false, false, false] rfl rfl (by kernel_rfl) (by decide) (fun K hK => ?_)
              refine value_ (w1 := ?_) (v := ?_) (by rfl) rfl ?_ ?_
              rotate_left 2
              · go_simp
                constructor
                · rfl
                · rfl
              refine hK.out _ _ ⟨(World.cell?_alloc_lt _ _ _ (World.block_lt_of_cell? _ _ (hHeld.1))).trans (hHeld.1), blk_alloc hHeld.2 _⟩ (fun hHeld => ?_)
              clear hK K
              refine norm_ (a' := ?_) ?_ ?_
              rotate_left
              · show Act.put _ (some 79) _ = _
                simp only [Act.put, List.setIfInBounds_toArray, List.set_cons_zero, List.set_cons_succ, i64_w, i32_w]
                rfl
              refine one_ (i := 15) (N := some 80) #[true, true, true, true, true, true, true, true, true, true, true, true, true, true, true, true, false, false, false] rfl rfl (by kernel_rfl) (by decide) (fun K hK => ?_)
              have hBle : B ≤ w3.heap.size := Nat.le_trans (T.out.mb t T.out.mt) (Nat.le_of_lt hbt)
              have hMt : M1 t := T.out.mt
              have hl5 : (L ++ newsK s p now L k ++ [(⟨(nL : Int) + 1, firstId s L, rd (idxs s) (k : Int), s, p, howOf s, now, 0, 0, 0, ⟨0, 0⟩⟩ : S58)]).length = nL + 1 := by rw [List.length_append, HNL.out]; rfl
              refine Kd.R_append_step k58 (w0 := w4) (W := w4) B (by rfl) (.tmp 69) (.tmp 79) 65 58 (.agg #[(.int .u32 0), (.int .u32 0), (.int .i64 0), (.string ⟨#[]⟩), (.string ⟨#[]⟩), (.string ⟨#[]⟩), (.string ⟨#[]⟩), (.int .i64 0), (.int .i64 0), (.slice none 0 0), (.int .i64 0), (.bool false), (.slice none 0 0), (.int .i64 0), (.int .i64 0), (.bool false), (.bool false), (.string ⟨#[]⟩), (.int .i64 0), (.int .i64 0), (.int .i64 0), (.int .i64 0), (.int .i64 0), (.int .i64 0), (.int .i64 0), (.int .i64 0)]) 264 (by rfl) Tryd.underlying65 info58 rfl (by decide) (by omega) (.slice Aj1 nL cj1) (L ++ newsK s p now L k) (⟨(nL : Int) + 1, firstId s L, rd (idxs s) (k : Int), s, p, howOf s, now, 0, 0, 0, ⟨0, 0⟩⟩ : S58) [.int .u32 ((nL : Int) + 1), .int .u32 (firstId s L), .int .i64 (rd (idxs s) (k : Int)), .string s.f0, .string s.f1, .string s.f2, .string s.f3, .int .i64 s.f4, .int .i64 s.f5, .slice B6 s.f6.f0.length d6, .int .i64 s.f6.f1, .bool s.f7.f0, .slice B9 s.f7.f1.length d9, .int .i64 s.f8, .int .i64 s.f9, .bool s.f10, .bool s.f11, .string s.f12, .int .i64 p, .int .i64 (howOf s), .int .i64 now, .int .i64 0, .int .i64 0, .int .i64 0, .int .i64 0, .int .i64 0] (fun b => M1 b ∨ w3.heap.size ≤ b) (fun b => w3.heap.size ≤ b) (by rfl) (by rfl) (k58_mkM _ _ _ (⟨(nL : Int) + 1, firstId s L, rd (idxs s) (k : Int), s, p, howOf s, now, 0, 0, 0, ⟨0, 0⟩⟩ : S58) (Kd.R_lower (Kd.R_mono (Kd.R_bound R6.out) (fun b hb => hb.2.1)) hBle) (Kd.R_lower (Kd.R_mono (Kd.R_bound R9.out) (fun b hb => hb.2.1)) hBle)) (fun b hb => ⟨Or.inr hb, fun e => by have := hrl b e.symm; omega⟩) (fun b hb => Or.inr (Nat.le_trans HB3.out.size hb)) (by have h := Kd.R_mono (ok' := fun b => M1 b ∨ w3.heap.size ≤ b) (Kd.R_below T.out.rj HB3.out) (fun b hb => Or.inl hb); rw [HNL.out] at h; exact h) (Below.refl B w4) (Nat.le_trans hBle HB3.out.size) (by rw [HNL.out]; omega) ?_
              intro v1 w9 ho hbb hgrow hat
              obtain ⟨A5, c5, e5⟩ := Kd.R_slice ho
              rw [hl5] at e5
              subst e5
              have k3 := (hgrow.block t (Nat.lt_of_lt_of_le hbt HB3.out.size) hne).trans (blk_below T.out.b HB3.out)
              have p3 := (blk_cell k3 12).trans rfl
              have f3 := blk_frozen k3 12
              refine hK.out _ _ ⟨(hgrow.cell_far ⟨t, 12, none⟩ (by exact Nat.lt_of_lt_of_le hbt HB3.out.size) hne).trans Q0.out, blk_grown Q1.out hgrow hgs⟩ (fun hHeld => ?_)
              clear hK K
              refine norm_ (a' := ?_) ?_ ?_
              rotate_left
              · show Act.put _ (some 80) _ = _
                simp only [Act.put, List.setIfInBounds_toArray, List.set_cons_zero, List.set_cons_succ, i64_w, i32_w]
                rfl
              refine pure_ (i := 16) (N := some 81) (v := ?_) (a' := ?_) #[true, true, true, true, true, true, true, true, true, true, true, true, true, true, true, true, true, false, false] rfl rfl (by kernel_rfl) (fun _ _ _ h => h) (Or.inl ⟨by rfl, ?_⟩) ?_ ?_
              rotate_left
              · intro w'
                go_simp
                with_reducible rfl
              rotate_left
              · simp only [Act.put, List.setIfInBounds_toArray, List.set_cons_zero, List.set_cons_succ, i64_w, i32_w]
                rfl
              refine pure_ (i := 17) (N := some 82) (v := ?_) (a' := ?_) #[true, true, true, true, true, true, true, true, true, true, true, true, true, true, true, true, true, true, false] rfl rfl (by kernel_rfl) (fun _ _ _ h => h) (Or.inl ⟨by rfl, ?_⟩) ?_ ?_
              rotate_left
              · intro w'
                go_simp
                with_reducible rfl
              rotate_left
              · simp only [Act.put, List.setIfInBounds_toArray, List.set_cons_zero, List.set_cons_succ, i64_w, i32_w]
                rfl
              refine last_ (i := 18) (N := none) #[true, true, true, true, true, true, true, true, true, true, true, true, true, true, true, true, true, true, true] rfl rfl (by kernel_rfl) (by decide) (fun K hK => ?_)
              refine skip_ (w1 := ?_) (by rfl) rfl ?_ ?_
              rotate_left
              · go_simp
                rfl
              refine hK.out _ _ ?_
              clear hK K
              refine done_ (by kernel_rfl) ?_
              have T2 : Tab (w9.setCell ⟨t, 12, none⟩ (.slice A5 (nL + 1) c5)) B (fun b => M1 b ∨ w3.heap.size ≤ b) t x.h x.A9 x.c9 x.A10 x.c10 x.A11 x.c11 A5 c5 x.P x.Q x.A (L ++ newsK s p now L k ++ [(⟨(nL : Int) + 1, firstId s L, rd (idxs s) (k : Int), s, p, howOf s, now, 0, 0, 0, ⟨0, 0⟩⟩ : S58)]) := by
                have h := Tab.push (p := (⟨(nL : Int) + 1, firstId s L, rd (idxs s) (k : Int), s, p, howOf s, now, 0, 0, 0, ⟨0, 0⟩⟩ : S58)) (c5 := c5) (A5 := A5) (Tab.below T.out HB3.out) (by rw [hl5]; exact ho) (by rw [HNL.out]; exact hgrow) (fun b hb => Or.inl hb) (fun b hb => hb.elim (T.out.mb b) (fun q => by omega))
                rw [hl5] at h
                exact h
              have hre : ∀ b, (Value.slice Aj1 nL cj1).ownBlock = some b → M1 b := fun b hb => T.out.rj.1 b (by rw [HNL.out]; exact hb)
              have K10 : KeepM M wc (w9.setCell ⟨t, 12, none⟩ (.slice A5 (nL + 1) c5)) := KeepM.set (KeepM.grown (KP.out.trans (KeepM.of HB3.out)) hgrow (fun b hb => MM.out.2.1 b (hre b hb))) C.out.mt 12 _
              have R10 : Kd.R (Kd.int .u32) 48 (w9.setCell ⟨t, 12, none⟩ (.slice A5 (nL + 1) c5)) wc.heap.size (fun b => ¬ M1 b ∧ b < w3.heap.size) (.slice Ao k co) (idsK L k) := by
                refine Kd.R_step (Kd.R_mono (ok' := fun b => ¬ M1 b ∧ b < w3.heap.size) (Kd.R_below (Kd.R_mono (Kd.R_bound RO.out) (fun b hb => (⟨hb.1, hb.2.2.1⟩ : ¬ M1 b ∧ b < w3.heap.size))) HB3.out) (fun b hb => hb)) (fun b hb hlb => ?_)
                refine (Below.heap_setCell w9 ⟨t, 12, none⟩ _ b (fun e => hb.1 (e ▸ hMt))).trans ?_
                exact hgrow.block b hlb (fun e => hb.1 (hre b e.symm))
              have SZ0 : w3.heap.size ≤ (w9.setCell ⟨t, 12, none⟩ (.slice A5 (nL + 1) c5)).heap.size := by rw [size_setCell_]; exact Nat.le_trans HB3.out.size hgrow.size
              generalize w9.setCell ⟨t, 12, none⟩ (.slice A5 (nL + 1) c5) = w10 at T2 K10 R10 SZ0 ⊢
              have T3 := Aside0.mk (Tab.bound T2)
              have K3 := Aside0.mk K10
              have R3 := Aside0.mk R10
              have SZ := Aside0.mk (show w3.heap.size ≤ w10.heap.size from SZ0)
              clear T2 K10 R10 hHeld
              have hwm : ∀ b, M1 b → b < wr.heap.size := MM.out.2.2
              have HWM := Aside0.mk hwm
              clear hwm hre hMt hBle hl5 hbt hrl hne hgs k3 p3 f3 s0 s1 ho hbb hgrow hat hb cI
              go_wp2_with (first | ((with_reducible refine gate_builtin (b := .append) (xs := #[.tmp 83, .tmp 85]) rfl ?_); at_builtin; refine Kd.R_append (Kd.int .u32) (w0 := w10) wc.heap.size rfl (.tmp 83) (.tmp 85) 44 48 (.int .u32 0) 4 rfl Tryd.underlying44 info48 rfl (by decide) (by omega) (.slice Ao k co) (idsK L k) ((nL : Int) + 1) [.int .u32 ((nL : Int) + 1)] (fun b => ¬ ((M1 b ∨ w3.heap.size ≤ b) ∧ b < w10.heap.size)) (fun _ => False) rfl (by first | (go_simp; done) | (go_simp; rfl)) ?aP (fun _ hk => hk.elim) ?aF ?aO ?aB ?aS ?aL ?_; (case aP => exact rfl); (case aB => exact Below.refl _ _); (case aF => exact (fun b hb h => by omega)); (case aO => exact Kd.R_mono R3.out (fun b hb h => h.1.elim hb.1 (fun q => by omega))); (case aS => exact K3.out.size); (case aL => rw [idsK_len]; have := HKL.out; omega); intro v11 w11 ho hb hg hat; obtain ⟨A7, c7, e7⟩ := Kd.R_slice ho; have R4 := Aside0.mk ho; have G4 := Aside0.mk hg; clear ho hb hg hat; rw [List.length_append, idsK_len] at e7; subst e7))
              go_roundg gk
              case measure => exact Nat.lt_succ_self _
              case rel =>
                have hid : (L.length : Int) + 1 + (k : Int) = (nL : Int) + 1 := by have h2 := HNL.out; rw [List.length_append, newsK_len] at h2; omega
                have hne : newsK s p now L (k + 1) = newsK s p now L k ++ [(⟨(nL : Int) + 1, firstId s L, rd (idxs s) (k : Int), s, p, howOf s, now, 0, 0, 0, ⟨0, 0⟩⟩ : S58)] := by
                  rw [newsK_succ, hid]
                  rfl
                have hio : idsK L (k + 1) = idsK L k ++ [(nL : Int) + 1] := by rw [idsK_succ, hid]
                have hgb : ∀ b, (Value.slice Ao k co).ownBlock = some b → (¬ M1 b ∧ b < w3.heap.size) ∧ wc.heap.size ≤ b := fun b hb => ⟨R3.out.1 b hb, ((Kd.R_bound R3.out).1 b hb).2.1⟩
                refine ⟨k + 1, fun b => (M1 b ∨ w3.heap.size ≤ b) ∧ b < w10.heap.size, A7, c7, by go_num, rfl, ⟨by have := GK.out; omega, HLT.out⟩, ⟨A5, c5, ?_⟩, ⟨fun b h => ⟨Or.inl (MM.out.1 b h), ?_⟩, fun b h => h.1.elim (MM.out.2.1 b) (fun q => Or.inr (Nat.le_trans KP.out.size q)), fun b h => Nat.lt_of_lt_of_le h.2 G4.out.size⟩, ⟨?_⟩, ⟨KeepM.grown K3.out G4.out (fun b hb => Or.inr (hgb b hb).2)⟩⟩
                · rw [hne, ← List.append_assoc]
                  exact Tab.keep T3.out (fun b hb hlt => G4.out.block b hlt (fun e => by
                    have h2 := hgb b e.symm
                    rcases hb.1 with q | q
                    · exact h2.1.1 q
                    · omega))
                · have h1 := HWM.out b (MM.out.1 b h)
                  have h2 := WS.out
                  have h3 := SZ.out
                  omega
                · rw [hio]
                  exact R4.out
            · have e : k = (idxs s).length := by have := GK.out; omega
              subst e
              have hle : ¬ (((idxs s).length : Int) < ((idxs s).length : Int)) := by omega
              go_wp2
              go_ret2
              exact ⟨M1, Ao, co, idsK L (idxs s).length, L ++ newsK s p now L (idxs s).length, 0, by rw [idsK_len]; rfl, ⟨0, HR.out, Or.inr ⟨rfl, p, HA.out, Or.inr ⟨rfl, rfl, rfl⟩⟩⟩, TB.out, MM.out.1, fun b h => (MM.out.2.1 b h).imp (fun h => h) (fun h => Nat.le_trans HB0.out.size h), MM.out.2.2, by rw [idsK_len]; exact Kd.R_lower RO.out HB0.out.size, (KeepM.of HB0.out).trans KP.out⟩
end
end Go.Proofs.YtgkedamhicemiaaDoor.P
