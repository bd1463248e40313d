/- cut to what one law reaches -/
import Derived.Test.YtgkedamhicemiaaDoorJyJ2
import Derived.Test.YtgkedamhicemiaaDoorJyP6
import Derived.Test.YtgkedamhicemiaaDoorJyJE
namespace Go.Proofs.YtgkedamhicemiaaDoor.P
open Go.RowKit Go.Proofs.YtgkedamhicemiaaDoorW.PrintWords Go.Proofs.YtgkedamhicemiaaDoorW.PrintLast Go.Proofs.YtgkedamhicemiaaDoorW.PrintMore
attribute [local go_sem] max2_int min2_int max_two min_two max_three min_three max_four min_four
set_option linter.unusedVariables false
set_option linter.unusedSimpArgs false
attribute [local go_sem] isSome_setCell
def callP (rq k id now b0 b1 how : Int) (L : List S58) : Int × List S58 :=
  if k = 1 then holdP id L else if k = 2 then releaseP id now L else if k = 3 then startP id now b0 b1 L else if k = 4 then suspendP id now L
  else if k = 5 then resumeP id now L else if k = 6 then endP id now how L else if k = 7 then requeueP rq id now L else neverP id L
section
variable {W W' : World} {B t : Nat} {M : Nat → Prop} {x : Cg} {L : List S58}
theorem Tb.below (c : Tb W B M t x L) (hb : Below W.heap.size W W') : Tb W' B M t x L := by
  obtain ⟨Aj, cj, c⟩ := c
  exact ⟨Aj, cj, Tab.below c hb⟩
set_option maxHeartbeats 2000000 in
set_option maxRecDepth 100000 in
theorem t_calls (k id now b0 b1 how : Int) (h0 : 0 ≤ id) (h1 : id ≤ 4294967295) (hJ : ∀ j ∈ L, 1 ≤ j.f3.f4 ∧ j.f3.f4 ≤ 1024) (c : Tb W B M t x L) :
    Calls Tryd.prog 25 #[.pointer (some ⟨t, 0, none⟩), .agg #[.int .i64 k, .int .u32 id, .int .i64 now, .int .i64 b0, .int .i64 b1, .int .i64 how]] W fun e w' => e = .returned (.int .i64 (callP x.h.f3 k id now b0 b1 how L).1) ∧ Tb w' B M t x (callP x.h.f3 k id now b0 b1 how L).2 ∧ KeepM M W w' := by
  have hu68 := Tryd.underlying68
  have hu55 := Tryd.underlying55
  have C := Aside0.mk c
  have HJ := Aside0.mk hJ
  clear c hJ
  by_cases k1 : k = 1
  · subst k1
    rw [show callP x.h.f3 1 id now b0 b1 how L = holdP id L from rfl]
    go_enter Tryd.func25, Tryd.ntmps25
    go_wp2_with (first | ((with_reducible refine gate_dst (N := 3) rfl ?_); refine box_event ?hg (N := 3) ?hd (cs := #[.int .i64 1, .int .u32 id, .int .i64 now, .int .i64 b0, .int .i64 b1, .int .i64 how]) (t := 68) ?hr ?_; (case hd => rfl); (case hg => rfl); (case hr => first | (go_simp; done) | (go_simp; rfl)); intro gb hg w1 hbox hb; have HB1 := Aside0.mk hb; have KX := Aside0.mk hbox; have kx0 := (blk_cell KX.out 0).trans rfl; have kx1 := (blk_cell KX.out 1).trans rfl; have kx2 := (blk_cell KX.out 2).trans rfl; have kx3 := (blk_cell KX.out 3).trans rfl; have kx4 := (blk_cell KX.out 4).trans rfl; have kx5 := (blk_cell KX.out 5).trans rfl; clear hb hg hbox) | (go_at_call 27; refine (t_hold id h0 h1 (C.out.below HB1.out)).mono ?_; rintro e w6 ⟨rfl, c2, k2⟩; have C2 := Aside0.mk c2; have K2 := Aside0.mk k2; clear c2 k2))
    go_ret
    exact ⟨rfl, C2.out, (KeepM.of HB1.out).trans K2.out⟩
  by_cases k2 : k = 2
  · subst k2
    rw [show callP x.h.f3 2 id now b0 b1 how L = releaseP id now L from rfl]
    go_enter Tryd.func25, Tryd.ntmps25
    go_wp2_with (first | ((with_reducible refine gate_dst (N := 3) rfl ?_); refine box_event ?hg (N := 3) ?hd (cs := #[.int .i64 2, .int .u32 id, .int .i64 now, .int .i64 b0, .int .i64 b1, .int .i64 how]) (t := 68) ?hr ?_; (case hd => rfl); (case hg => rfl); (case hr => first | (go_simp; done) | (go_simp; rfl)); intro gb hg w1 hbox hb; have HB1 := Aside0.mk hb; have KX := Aside0.mk hbox; have kx0 := (blk_cell KX.out 0).trans rfl; have kx1 := (blk_cell KX.out 1).trans rfl; have kx2 := (blk_cell KX.out 2).trans rfl; have kx3 := (blk_cell KX.out 3).trans rfl; have kx4 := (blk_cell KX.out 4).trans rfl; have kx5 := (blk_cell KX.out 5).trans rfl; clear hb hg hbox) | (go_at_call 28; refine (t_release id now h0 h1 (C.out.below HB1.out)).mono ?_; rintro e w6 ⟨rfl, c2, k2⟩; have C2 := Aside0.mk c2; have K2 := Aside0.mk k2; clear c2 k2))
    go_ret
    exact ⟨rfl, C2.out, (KeepM.of HB1.out).trans K2.out⟩
  by_cases k3 : k = 3
  · subst k3
    rw [show callP x.h.f3 3 id now b0 b1 how L = startP id now b0 b1 L from rfl]
    go_enter Tryd.func25, Tryd.ntmps25
    go_wp2_with (first | ((with_reducible refine gate_dst (N := 3) rfl ?_); refine box_event ?hg (N := 3) ?hd (cs := #[.int .i64 3, .int .u32 id, .int .i64 now, .int .i64 b0, .int .i64 b1, .int .i64 how]) (t := 68) ?hr ?_; (case hd => rfl); (case hg => rfl); (case hr => first | (go_simp; done) | (go_simp; rfl)); intro gb hg w1 hbox hb; have HB1 := Aside0.mk hb; have KX := Aside0.mk hbox; have kx0 := (blk_cell KX.out 0).trans rfl; have kx1 := (blk_cell KX.out 1).trans rfl; have kx2 := (blk_cell KX.out 2).trans rfl; have kx3 := (blk_cell KX.out 3).trans rfl; have kx4 := (blk_cell KX.out 4).trans rfl; have kx5 := (blk_cell KX.out 5).trans rfl; clear hb hg hbox) | (go_at_call 16; refine (t_start id now b0 b1 h0 h1 HJ.out (C.out.below HB1.out)).mono ?_; rintro e w6 ⟨rfl, c2, k2⟩; have C2 := Aside0.mk c2; have K2 := Aside0.mk k2; clear c2 k2))
    go_ret
    exact ⟨rfl, C2.out, (KeepM.of HB1.out).trans K2.out⟩
  by_cases k4 : k = 4
  · subst k4
    rw [show callP x.h.f3 4 id now b0 b1 how L = suspendP id now L from rfl]
    go_enter Tryd.func25, Tryd.ntmps25
    go_wp2_with (first | ((with_reducible refine gate_dst (N := 3) rfl ?_); refine box_event ?hg (N := 3) ?hd (cs := #[.int .i64 4, .int .u32 id, .int .i64 now, .int .i64 b0, .int .i64 b1, .int .i64 how]) (t := 68) ?hr ?_; (case hd => rfl); (case hg => rfl); (case hr => first | (go_simp; done) | (go_simp; rfl)); intro gb hg w1 hbox hb; have HB1 := Aside0.mk hb; have KX := Aside0.mk hbox; have kx0 := (blk_cell KX.out 0).trans rfl; have kx1 := (blk_cell KX.out 1).trans rfl; have kx2 := (blk_cell KX.out 2).trans rfl; have kx3 := (blk_cell KX.out 3).trans rfl; have kx4 := (blk_cell KX.out 4).trans rfl; have kx5 := (blk_cell KX.out 5).trans rfl; clear hb hg hbox) | (go_at_call 17; refine (t_suspend id now h0 h1 (C.out.below HB1.out)).mono ?_; rintro e w6 ⟨rfl, c2, k2⟩; have C2 := Aside0.mk c2; have K2 := Aside0.mk k2; clear c2 k2))
    go_ret
    exact ⟨rfl, C2.out, (KeepM.of HB1.out).trans K2.out⟩
  by_cases k5 : k = 5
  · subst k5
    rw [show callP x.h.f3 5 id now b0 b1 how L = resumeP id now L from rfl]
    go_enter Tryd.func25, Tryd.ntmps25
    go_wp2_with (first | ((with_reducible refine gate_dst (N := 3) rfl ?_); refine box_event ?hg (N := 3) ?hd (cs := #[.int .i64 5, .int .u32 id, .int .i64 now, .int .i64 b0, .int .i64 b1, .int .i64 how]) (t := 68) ?hr ?_; (case hd => rfl); (case hg => rfl); (case hr => first | (go_simp; done) | (go_simp; rfl)); intro gb hg w1 hbox hb; have HB1 := Aside0.mk hb; have KX := Aside0.mk hbox; have kx0 := (blk_cell KX.out 0).trans rfl; have kx1 := (blk_cell KX.out 1).trans rfl; have kx2 := (blk_cell KX.out 2).trans rfl; have kx3 := (blk_cell KX.out 3).trans rfl; have kx4 := (blk_cell KX.out 4).trans rfl; have kx5 := (blk_cell KX.out 5).trans rfl; clear hb hg hbox) | (go_at_call 18; refine (t_resume id now h0 h1 (C.out.below HB1.out)).mono ?_; rintro e w6 ⟨rfl, c2, k2⟩; have C2 := Aside0.mk c2; have K2 := Aside0.mk k2; clear c2 k2))
    go_ret
    exact ⟨rfl, C2.out, (KeepM.of HB1.out).trans K2.out⟩
  by_cases k6 : k = 6
  · subst k6
    rw [show callP x.h.f3 6 id now b0 b1 how L = endP id now how L from rfl]
    go_enter Tryd.func25, Tryd.ntmps25
    go_wp2_with (first | ((with_reducible refine gate_dst (N := 3) rfl ?_); refine box_event ?hg (N := 3) ?hd (cs := #[.int .i64 6, .int .u32 id, .int .i64 now, .int .i64 b0, .int .i64 b1, .int .i64 how]) (t := 68) ?hr ?_; (case hd => rfl); (case hg => rfl); (case hr => first | (go_simp; done) | (go_simp; rfl)); intro gb hg w1 hbox hb; have HB1 := Aside0.mk hb; have KX := Aside0.mk hbox; have kx0 := (blk_cell KX.out 0).trans rfl; have kx1 := (blk_cell KX.out 1).trans rfl; have kx2 := (blk_cell KX.out 2).trans rfl; have kx3 := (blk_cell KX.out 3).trans rfl; have kx4 := (blk_cell KX.out 4).trans rfl; have kx5 := (blk_cell KX.out 5).trans rfl; clear hb hg hbox) | (go_at_call 13; refine (t_end id now how h0 h1 (C.out.below HB1.out)).mono ?_; rintro e w6 ⟨rfl, c2, k2⟩; have C2 := Aside0.mk c2; have K2 := Aside0.mk k2; clear c2 k2))
    go_ret
    exact ⟨rfl, C2.out, (KeepM.of HB1.out).trans K2.out⟩
  by_cases k7 : k = 7
  · subst k7
    rw [show callP x.h.f3 7 id now b0 b1 how L = requeueP x.h.f3 id now L from rfl]
    go_enter Tryd.func25, Tryd.ntmps25
    go_wp2_with (first | ((with_reducible refine gate_dst (N := 3) rfl ?_); refine box_event ?hg (N := 3) ?hd (cs := #[.int .i64 7, .int .u32 id, .int .i64 now, .int .i64 b0, .int .i64 b1, .int .i64 how]) (t := 68) ?hr ?_; (case hd => rfl); (case hg => rfl); (case hr => first | (go_simp; done) | (go_simp; rfl)); intro gb hg w1 hbox hb; have HB1 := Aside0.mk hb; have KX := Aside0.mk hbox; have kx0 := (blk_cell KX.out 0).trans rfl; have kx1 := (blk_cell KX.out 1).trans rfl; have kx2 := (blk_cell KX.out 2).trans rfl; have kx3 := (blk_cell KX.out 3).trans rfl; have kx4 := (blk_cell KX.out 4).trans rfl; have kx5 := (blk_cell KX.out 5).trans rfl; clear hb hg hbox) | (go_at_call 20; refine (t_requeue id now h0 h1 (C.out.below HB1.out)).mono ?_; rintro e w6 ⟨rfl, c2, k2⟩; have C2 := Aside0.mk c2; have K2 := Aside0.mk k2; clear c2 k2))
    go_ret
    exact ⟨rfl, C2.out, (KeepM.of HB1.out).trans K2.out⟩
  have hG : callP x.h.f3 k id now b0 b1 how L = neverP id L := by unfold callP; rw [if_neg k1, if_neg k2, if_neg k3, if_neg k4, if_neg k5, if_neg k6, if_neg k7]
  rw [hG]
  clear hG
  have e1 := beq_eq_false_iff_ne.2 k1
  have e2 := beq_eq_false_iff_ne.2 k2
  have e3 := beq_eq_false_iff_ne.2 k3
  have e4 := beq_eq_false_iff_ne.2 k4
  have e5 := beq_eq_false_iff_ne.2 k5
  have e6 := beq_eq_false_iff_ne.2 k6
  have e7 := beq_eq_false_iff_ne.2 k7
  clear k1 k2 k3 k4 k5 k6 k7
  go_enter Tryd.func25, Tryd.ntmps25
  go_wp2_with (first | ((with_reducible refine gate_dst (N := 3) rfl ?_); refine box_event ?hg (N := 3) ?hd (cs := #[.int .i64 k, .int .u32 id, .int .i64 now, .int .i64 b0, .int .i64 b1, .int .i64 how]) (t := 68) ?hr ?_; (case hd => rfl); (case hg => rfl); (case hr => first | (go_simp; done) | (go_simp; rfl)); intro gb hg w1 hbox hb; have HB1 := Aside0.mk hb; have KX := Aside0.mk hbox; have kx0 := (blk_cell KX.out 0).trans rfl; have kx1 := (blk_cell KX.out 1).trans rfl; have kx2 := (blk_cell KX.out 2).trans rfl; have kx3 := (blk_cell KX.out 3).trans rfl; have kx4 := (blk_cell KX.out 4).trans rfl; have kx5 := (blk_cell KX.out 5).trans rfl; clear hb hg hbox) | (go_at_call 29; refine (t_never id h0 h1 (C.out.below HB1.out)).mono ?_; rintro e w6 ⟨rfl, c2, k2⟩; have C2 := Aside0.mk c2; have K2 := Aside0.mk k2; clear c2 k2))
  go_ret
  exact ⟨rfl, C2.out, (KeepM.of HB1.out).trans K2.out⟩
theorem info41s : (Tryd.prog.info? 41).map (·.size) = some 15 := by kernel_rfl
theorem info58s : (Tryd.prog.info? 58).map (·.size) = some 26 := by kernel_rfl
theorem clone_i (l : List Int) (h : l.length < 17592186044416) : slices_Clone_int_int.f l = some l := by simp [slices_Clone_int_int.f, h]
theorem clone_u (l : List Int) (h : l.length < 35184372088832) : slices_Clone_uint32_uint32.f l = some l := by simp [slices_Clone_uint32_uint32.f, h]
/-- the sizes of a spec's parts -/
def szS (s : S41) : Prop := s.f0.size ≤ 140737488351232 ∧ s.f1.size ≤ 140737488351232 ∧ s.f2.size ≤ 140737488351232 ∧ s.f3.size ≤ 140737488351232 ∧ s.f6.f0.length < 17592186044416 ∧ s.f7.f1.length < 4398046511104 ∧ (∀ n ∈ s.f7.f1, n.f1.length < 35184372088832) ∧ s.f12.size ≤ 140737488351232
theorem copied_l (l : List S105) (hl : l.length < 4398046511104) (hu : ∀ n ∈ l, n.f1.length < 35184372088832) (y0 y1 y2 y3 : ByteArray) (y4 y5 : Int) (y6 : List Int) (y7 : Int) (y8 : Bool) (y9 : List S105) (y10 y11 : Int) (y12 y13 : Bool) (y14 : ByteArray) :
    ∀ m i : Nat, m + i = l.length → jobs_copied.l0 (m + 1) (l.take i) l (l.length : Int) (i : Int) y0 y1 y2 y3 y4 y5 y6 y7 y8 y9 y10 y11 y12 y13 y14 = some (y0, y1, y2, y3, y4, y5, y6, y7, y8, l, y10, y11, y12, y13, y14)
  | 0, i, h => by
    unfold jobs_copied.l0
    rw [if_neg (by omega), List.take_of_length_le (by omega)]
  | m + 1, i, h => by
    have hi : i < l.length := by omega
    have hr : rd_T105 l (i : Int) = l[i] := by simp [rd_T105, List.getD_eq_getElem?_getD, hi]
    unfold jobs_copied.l0
    rw [if_pos (by omega), if_pos (by omega), if_pos (by omega), hr, clone_u _ (hu _ (List.getElem_mem hi)), Option.bind_some, if_pos (by simp; omega)]
    have e : l.take i ++ [(⟨(l[i]).f0, (l[i]).f1⟩ : S105)] = l.take (i + 1) := by rw [List.take_succ_eq_append_getElem hi]
    have e2 : wrap64 ((i : Int) + 1) = ((i + 1 : Nat) : Int) := by unfold wrap64; omega
    rw [e, e2]
    exact copied_l l hl hu y0 y1 y2 y3 y4 y5 y6 y7 y8 y9 y10 y11 y12 y13 y14 m (i + 1) (by omega)
theorem copied_ev (s : S41) (h : szS s) : jobs_copied.f (s.f7.f1.length + 1) s.f0 s.f1 s.f2 s.f3 s.f4 s.f5 s.f6.f0 s.f6.f1 s.f7.f0 s.f7.f1 s.f8 s.f9 s.f10 s.f11 s.f12 = some (s.f0, s.f1, s.f2, s.f3, s.f4, s.f5, s.f6.f0, s.f6.f1, s.f7.f0, s.f7.f1, s.f8, s.f9, s.f10, s.f11, s.f12) := by
  unfold jobs_copied.f
  rw [clone_i _ h.2.2.2.2.1, Option.bind_some]
  have := copied_l s.f7.f1 h.2.2.2.2.2.1 h.2.2.2.2.2.2.1 s.f0 s.f1 s.f2 s.f3 s.f4 s.f5 s.f6.f0 s.f6.f1 s.f7.f0 s.f7.f1 s.f8 s.f9 s.f10 s.f11 s.f12 s.f7.f1.length 0 (by omega)
  exact this
theorem copied_at (s : S41) (h : szS s) (A6 : Option Addr) (c6 : Nat) (A9 : Option Addr) (c9 : Nat) (w : World) (h6 : Kd.C (Kd.int .i64) w A6 s.f6.f0.length s.f6.f0) (hc6 : s.f6.f0.length ≤ c6) (h9 : Kd.C k105 w A9 s.f7.f1.length s.f7.f1) (hc9 : s.f7.f1.length ≤ c9) :
    Calls Tryd.prog 35 #[.agg #[.string s.f0, .string s.f1, .string s.f2, .string s.f3, .int .i64 s.f4, .int .i64 s.f5, .slice A6 s.f6.f0.length c6, .int .i64 s.f6.f1, .bool s.f7.f0, .slice A9 s.f7.f1.length c9, .int .i64 s.f8, .int .i64 s.f9, .bool s.f10, .bool s.f11, .string s.f12]] w fun e w' => ∃ v6_ v9_ : Value, e = .returned (.agg #[.string s.f0, .string s.f1, .string s.f2, .string s.f3, .int .i64 s.f4, .int .i64 s.f5, v6_, .int .i64 s.f6.f1, .bool s.f7.f0, v9_, .int .i64 s.f8, .int .i64 s.f9, .bool s.f10, .bool s.f11, .string s.f12]) ∧ Kd.R (Kd.int .i64) 3 w' w.heap.size (fun _ => True) v6_ s.f6.f0 ∧ Kd.R k105 105 w' w.heap.size (fun _ => True) v9_ s.f7.f1 ∧ Below w.heap.size w w' := by
  refine (jobs_copied.calls _ _ _ _ _ _ _ A6 c6 _ _ _ A9 c9 _ _ _ _ _ _ _ _ _ _ _ _ _ _ _ _ _ _ _ _ _ w h6 hc6 h9 hc9 (copied_ev s h)).mono ?_
  rintro e w' ⟨v6_, v9_, he, g6, g9, hb⟩
  exact ⟨v6_, v9_, he, g6, Kd.S_R g9, hb⟩
set_option maxHeartbeats 2000000 in
set_option maxRecDepth 100000 in
theorem t_get_none (id : Int) (h0 : 0 ≤ id) (h1 : id ≤ 4294967295) (hid : id = 0 ∨ (L.length : Int) < id) (c : Tb W B M t x L) :
    Calls Tryd.prog 19 #[.pointer (some ⟨t, 0, none⟩), .int .u32 id] W fun e w' => e = .returned (.tuple #[.agg #[.int .u32 0, .int .u32 0, .int .i64 0, .string ⟨#[]⟩, .string ⟨#[]⟩, .string ⟨#[]⟩, .string ⟨#[]⟩, .int .i64 0, .int .i64 0, .slice none 0 0, .int .i64 0, .bool false, .slice none 0 0, .int .i64 0, .int .i64 0, .bool false, .bool false, .string ⟨#[]⟩, .int .i64 0, .int .i64 0, .int .i64 0, .int .i64 0, .int .i64 0, .int .i64 0, .int .i64 0, .int .i64 0], .bool false]) ∧ Below W.heap.size W w' := by
  have hu58 := Tryd.underlying58
  obtain ⟨Aj, cj, c⟩ := c
  have C := Aside0.mk c
  clear c
  go_enter Tryd.func19, Tryd.ntmps19
  go_wp2_with (first | ((with_reducible refine gate_dst (N := 4) rfl ?_); refine box_event ?hg (N := 4) ?hd (cs := #[.int .u32 0, .int .u32 0, .int .i64 0, .string ⟨#[]⟩, .string ⟨#[]⟩, .string ⟨#[]⟩, .string ⟨#[]⟩, .int .i64 0, .int .i64 0, .slice none 0 0, .int .i64 0, .bool false, .slice none 0 0, .int .i64 0, .int .i64 0, .bool false, .bool false, .string ⟨#[]⟩, .int .i64 0, .int .i64 0, .int .i64 0, .int .i64 0, .int .i64 0, .int .i64 0, .int .i64 0, .int .i64 0]) (t := 58) ?hr ?_; (case hd => rfl); (case hg => rfl); (case hr => first | (go_simp; done) | (go_simp; rfl)); intro gb4 hg w4 hbox hb; have KX4 := Aside0.mk hbox; have HB4 := Aside0.mk hb; have GE4 := Aside0.mk (show W.heap.size ≤ gb4 by rw [hg]; exact Nat.le_refl _); clear hb hg hbox) | (go_at_call 36; refine (at_none id h0 h1 hid (Tab.below C.out HB4.out)).mono ?_; rintro e w7 ⟨rfl, rfl⟩) | ((with_reducible refine gate_ (.store 58 (.tmp 4) (.tmp 15)) rfl ?_); refine agg_store rfl rfl rfl (g := gb4) (off := 0) (u := .agg #[.int .u32 0, .int .u32 0, .int .i64 0, .string ⟨#[]⟩, .string ⟨#[]⟩, .string ⟨#[]⟩, .string ⟨#[]⟩, .int .i64 0, .int .i64 0, .slice none 0 0, .int .i64 0, .bool false, .slice none 0 0, .int .i64 0, .int .i64 0, .bool false, .bool false, .string ⟨#[]⟩, .int .i64 0, .int .i64 0, .int .i64 0, .int .i64 0, .int .i64 0, .int .i64 0, .int .i64 0, .int .i64 0]) rfl rfl info58s KX4.out [.int .u32 0, .int .u32 0, .int .i64 0, .string ⟨#[]⟩, .string ⟨#[]⟩, .string ⟨#[]⟩, .string ⟨#[]⟩, .int .i64 0, .int .i64 0, .slice none 0 0, .int .i64 0, .bool false, .slice none 0 0, .int .i64 0, .int .i64 0, .bool false, .bool false, .string ⟨#[]⟩, .int .i64 0, .int .i64 0, .int .i64 0, .int .i64 0, .int .i64 0, .int .i64 0, .int .i64 0, .int .i64 0] rfl rfl (by simp) (by simp [Value.oneCell']) #[.int .u32 0, .int .u32 0, .int .i64 0, .string ⟨#[]⟩, .string ⟨#[]⟩, .string ⟨#[]⟩, .string ⟨#[]⟩, .int .i64 0, .int .i64 0, .slice none 0 0, .int .i64 0, .bool false, .slice none 0 0, .int .i64 0, .int .i64 0, .bool false, .bool false, .string ⟨#[]⟩, .int .i64 0, .int .i64 0, .int .i64 0, .int .i64 0, .int .i64 0, .int .i64 0, .int .i64 0, .int .i64 0] rfl ?_; intro w5 hX hO; have KX5 := Aside0.mk hX; have HB5 := Aside0.mk (hO.below HB4.out GE4.out); clear hX hO))
  refine bodyPost_ret (results_list rfl (by simp) (Vals.cell gb4 58 _ _ _ rfl KX5.out hu58 rfl info58s (Vals.tmp Vals.nil))) rfl ?_
  exact ⟨rfl, HB5.out⟩
set_option maxHeartbeats 4000000 in
set_option maxRecDepth 100000 in
theorem t_get (n : Nat) (id : Int) (hn : (n : Int) = id - 1) (k1 : 1 ≤ id) (h1 : id ≤ 4294967295) (k2 : id ≤ (L.length : Int)) (hs : szS (rd_T58 L (n : Int)).f3) (c : Tb W B M t x L) :
    Calls Tryd.prog 19 #[.pointer (some ⟨t, 0, none⟩), .int .u32 id] W fun e w' => ∃ A9 c9 A12 c12, e = .returned (.tuple #[.agg #[.int .u32 (rd_T58 L (n : Int)).f0, .int .u32 (rd_T58 L (n : Int)).f1, .int .i64 (rd_T58 L (n : Int)).f2, .string (rd_T58 L (n : Int)).f3.f0, .string (rd_T58 L (n : Int)).f3.f1, .string (rd_T58 L (n : Int)).f3.f2, .string (rd_T58 L (n : Int)).f3.f3, .int .i64 (rd_T58 L (n : Int)).f3.f4, .int .i64 (rd_T58 L (n : Int)).f3.f5, .slice A9 (rd_T58 L (n : Int)).f3.f6.f0.length c9, .int .i64 (rd_T58 L (n : Int)).f3.f6.f1, .bool (rd_T58 L (n : Int)).f3.f7.f0, .slice A12 (rd_T58 L (n : Int)).f3.f7.f1.length c12, .int .i64 (rd_T58 L (n : Int)).f3.f8, .int .i64 (rd_T58 L (n : Int)).f3.f9, .bool (rd_T58 L (n : Int)).f3.f10, .bool (rd_T58 L (n : Int)).f3.f11, .string (rd_T58 L (n : Int)).f3.f12, .int .i64 (rd_T58 L (n : Int)).f4, .int .i64 (rd_T58 L (n : Int)).f5, .int .i64 (rd_T58 L (n : Int)).f6, .int .i64 (rd_T58 L (n : Int)).f7, .int .i64 (rd_T58 L (n : Int)).f8, .int .i64 (rd_T58 L (n : Int)).f9, .int .i64 (rd_T58 L (n : Int)).f10.f0, .int .i64 (rd_T58 L (n : Int)).f10.f1], .bool true]) ∧ Kd.R (Kd.int .i64) 3 w' W.heap.size (fun _ => True) (.slice A9 (rd_T58 L (n : Int)).f3.f6.f0.length c9) (rd_T58 L (n : Int)).f3.f6.f0 ∧ Kd.R k105 105 w' W.heap.size (fun _ => True) (.slice A12 (rd_T58 L (n : Int)).f3.f7.f1.length c12) (rd_T58 L (n : Int)).f3.f7.f1 ∧ Below W.heap.size W w' := by
  have hu58 := Tryd.underlying58
  have hu41 := Tryd.underlying41
  obtain ⟨Aj, cj, c⟩ := c
  have C := Aside0.mk c
  clear c
  have i1 : n < L.length := by omega
  have HN := Aside0.mk hn
  clear hn
  obtain ⟨g, eA, hMg⟩ := Tab.row C.out (by omega)
  subst eA
  obtain ⟨ce, hcl, hM, hcc, hfr⟩ := Kd.R_elem C.out.rj z58 (n : Int) (by omega) (by omega)
  have hK : k58.K W (rd_T58 L (n : Int)) ce := k58.K_of_M hM
  obtain ⟨A9, c9, A12, c12, rfl, hc9, g9, hc12, g12⟩ := k58_open hK
  have hcc2 : ∀ i u, ([.int .u32 (rd_T58 L (n : Int)).f0, .int .u32 (rd_T58 L (n : Int)).f1, .int .i64 (rd_T58 L (n : Int)).f2, .string (rd_T58 L (n : Int)).f3.f0, .string (rd_T58 L (n : Int)).f3.f1, .string (rd_T58 L (n : Int)).f3.f2, .string (rd_T58 L (n : Int)).f3.f3, .int .i64 (rd_T58 L (n : Int)).f3.f4, .int .i64 (rd_T58 L (n : Int)).f3.f5, .slice A9 (rd_T58 L (n : Int)).f3.f6.f0.length c9, .int .i64 (rd_T58 L (n : Int)).f3.f6.f1, .bool (rd_T58 L (n : Int)).f3.f7.f0, .slice A12 (rd_T58 L (n : Int)).f3.f7.f1.length c12, .int .i64 (rd_T58 L (n : Int)).f3.f8, .int .i64 (rd_T58 L (n : Int)).f3.f9, .bool (rd_T58 L (n : Int)).f3.f10, .bool (rd_T58 L (n : Int)).f3.f11, .string (rd_T58 L (n : Int)).f3.f12, .int .i64 (rd_T58 L (n : Int)).f4, .int .i64 (rd_T58 L (n : Int)).f5, .int .i64 (rd_T58 L (n : Int)).f6, .int .i64 (rd_T58 L (n : Int)).f7, .int .i64 (rd_T58 L (n : Int)).f8, .int .i64 (rd_T58 L (n : Int)).f9, .int .i64 (rd_T58 L (n : Int)).f10.f0, .int .i64 (rd_T58 L (n : Int)).f10.f1] : List Value)[i]? = some u → W.cell? ⟨g, n * 26 + i, none⟩ = some u := hcc
  clear hcc hM hK hcl hfr hMg
  have HS := Aside0.mk hs
  clear hs
  have H9 := Aside0.mk hc9
  have H12 := Aside0.mk hc12
  have G9 := Aside0.mk g9
  have G12 := Aside0.mk g12
  clear hc9 hc12 g9 g12
  have HCC := Aside0.mk hcc2
  clear hcc2
  generalize rd_T58 L (n : Int) = j at HS H9 H12 G9 G12 HCC ⊢
  go_enter Tryd.func19, Tryd.ntmps19
  go_wp2_with (first | ((with_reducible refine gate_dst (N := 4) rfl ?_); refine box_event ?hg (N := 4) ?hd (cs := #[.int .u32 0, .int .u32 0, .int .i64 0, .string ⟨#[]⟩, .string ⟨#[]⟩, .string ⟨#[]⟩, .string ⟨#[]⟩, .int .i64 0, .int .i64 0, .slice none 0 0, .int .i64 0, .bool false, .slice none 0 0, .int .i64 0, .int .i64 0, .bool false, .bool false, .string ⟨#[]⟩, .int .i64 0, .int .i64 0, .int .i64 0, .int .i64 0, .int .i64 0, .int .i64 0, .int .i64 0, .int .i64 0]) (t := 58) ?hr ?_; (case hd => rfl); (case hg => rfl); (case hr => first | (go_simp; done) | (go_simp; rfl)); intro gb4 hg w4 hbox hb; have KX4 := Aside0.mk hbox; have HB := Aside0.mk hb; have GE4 := Aside0.mk (show W.heap.size ≤ gb4 by rw [hg]; exact Nat.le_refl _); clear hb hg hbox) | (go_at_call 36; refine (at_some n id HN.out k1 h1 k2 (Tab.below C.out HB.out)).mono ?_; rintro e w7 ⟨rfl, rfl⟩) | ((with_reducible refine gate_ (.load 58 (.tmp 19)) rfl ?_); refine agg_load rfl (N := 20) rfl rfl Tryd.underlying58 info58s (g := g) (off := (n * 26)) rfl [.int .u32 j.f0, .int .u32 j.f1, .int .i64 j.f2, .string j.f3.f0, .string j.f3.f1, .string j.f3.f2, .string j.f3.f3, .int .i64 j.f3.f4, .int .i64 j.f3.f5, .slice A9 j.f3.f6.f0.length c9, .int .i64 j.f3.f6.f1, .bool j.f3.f7.f0, .slice A12 j.f3.f7.f1.length c12, .int .i64 j.f3.f8, .int .i64 j.f3.f9, .bool j.f3.f10, .bool j.f3.f11, .string j.f3.f12, .int .i64 j.f4, .int .i64 j.f5, .int .i64 j.f6, .int .i64 j.f7, .int .i64 j.f8, .int .i64 j.f9, .int .i64 j.f10.f0, .int .i64 j.f10.f1] rfl (fun i u hu => pw_cell_below HB.out (HCC.out i u hu)) ?_) | ((with_reducible refine gate_dst (N := 6) rfl ?_); refine box_event ?hg (N := 6) ?hd (cs := #[.int .u32 0, .int .u32 0, .int .i64 0, .string ⟨#[]⟩, .string ⟨#[]⟩, .string ⟨#[]⟩, .string ⟨#[]⟩, .int .i64 0, .int .i64 0, .slice none 0 0, .int .i64 0, .bool false, .slice none 0 0, .int .i64 0, .int .i64 0, .bool false, .bool false, .string ⟨#[]⟩, .int .i64 0, .int .i64 0, .int .i64 0, .int .i64 0, .int .i64 0, .int .i64 0, .int .i64 0, .int .i64 0]) (t := 58) ?hr ?_; (case hd => rfl); (case hg => rfl); (case hr => first | (go_simp; done) | (go_simp; rfl)); intro gb6 hg w6 hbox hb; have NE := Aside0.mk (show gb6 ≠ gb4 by have := blk_lt KX4.out; omega); have GE6 := Aside0.mk (show W.heap.size ≤ gb6 by rw [hg]; exact below_size HB.out); have KX6 := Aside0.mk hbox; have n0_ := Aside0.mk (blk_below KX4.out hb); have n1_ := Aside0.mk (below_step HB.out hb); (try clear KX4); (try clear HB); have KX4 := n0_; clear n0_; have HB := n1_; clear n1_; clear hb hg hbox) | ((with_reducible refine gate_ (.store 58 (.tmp 6) (.tmp 20)) rfl ?_); refine agg_store rfl rfl rfl (g := gb6) (off := 0) (u := .agg #[.int .u32 j.f0, .int .u32 j.f1, .int .i64 j.f2, .string j.f3.f0, .string j.f3.f1, .string j.f3.f2, .string j.f3.f3, .int .i64 j.f3.f4, .int .i64 j.f3.f5, .slice A9 j.f3.f6.f0.length c9, .int .i64 j.f3.f6.f1, .bool j.f3.f7.f0, .slice A12 j.f3.f7.f1.length c12, .int .i64 j.f3.f8, .int .i64 j.f3.f9, .bool j.f3.f10, .bool j.f3.f11, .string j.f3.f12, .int .i64 j.f4, .int .i64 j.f5, .int .i64 j.f6, .int .i64 j.f7, .int .i64 j.f8, .int .i64 j.f9, .int .i64 j.f10.f0, .int .i64 j.f10.f1]) rfl rfl info58s KX6.out [.int .u32 j.f0, .int .u32 j.f1, .int .i64 j.f2, .string j.f3.f0, .string j.f3.f1, .string j.f3.f2, .string j.f3.f3, .int .i64 j.f3.f4, .int .i64 j.f3.f5, .slice A9 j.f3.f6.f0.length c9, .int .i64 j.f3.f6.f1, .bool j.f3.f7.f0, .slice A12 j.f3.f7.f1.length c12, .int .i64 j.f3.f8, .int .i64 j.f3.f9, .bool j.f3.f10, .bool j.f3.f11, .string j.f3.f12, .int .i64 j.f4, .int .i64 j.f5, .int .i64 j.f6, .int .i64 j.f7, .int .i64 j.f8, .int .i64 j.f9, .int .i64 j.f10.f0, .int .i64 j.f10.f1] rfl rfl (by simp) (by simp [Value.oneCell']) #[.int .u32 j.f0, .int .u32 j.f1, .int .i64 j.f2, .string j.f3.f0, .string j.f3.f1, .string j.f3.f2, .string j.f3.f3, .int .i64 j.f3.f4, .int .i64 j.f3.f5, .slice A9 j.f3.f6.f0.length c9, .int .i64 j.f3.f6.f1, .bool j.f3.f7.f0, .slice A12 j.f3.f7.f1.length c12, .int .i64 j.f3.f8, .int .i64 j.f3.f9, .bool j.f3.f10, .bool j.f3.f11, .string j.f3.f12, .int .i64 j.f4, .int .i64 j.f5, .int .i64 j.f6, .int .i64 j.f7, .int .i64 j.f8, .int .i64 j.f9, .int .i64 j.f10.f0, .int .i64 j.f10.f1] rfl ?_; intro w8 hX hO; have n0_ := Aside0.mk (hO.blk KX4.out (Ne.symm NE.out)); have n1_ := Aside0.mk (hO.below HB.out GE6.out); have n2_ := Aside0.mk (hX); (try clear KX4); (try clear HB); (try clear KX6); have KX4 := n0_; clear n0_; have HB := n1_; clear n1_; have KX6 := n2_; clear n2_; clear hX hO) | ((with_reducible refine gate_ (.load 41 (.tmp 21)) rfl ?_); refine agg_load rfl (N := 22) rfl rfl Tryd.underlying41 info41s (g := gb6) (off := 3) rfl [.string j.f3.f0, .string j.f3.f1, .string j.f3.f2, .string j.f3.f3, .int .i64 j.f3.f4, .int .i64 j.f3.f5, .slice A9 j.f3.f6.f0.length c9, .int .i64 j.f3.f6.f1, .bool j.f3.f7.f0, .slice A12 j.f3.f7.f1.length c12, .int .i64 j.f3.f8, .int .i64 j.f3.f9, .bool j.f3.f10, .bool j.f3.f11, .string j.f3.f12] rfl (blk_seg KX6.out 3 15 rfl) ?_) | (go_at_call 35; refine (copied_at j.f3 HS.out A9 c9 A12 c12 _ (Kd.C_below G9.out HB.out) H9.out (Kd.C_below G12.out HB.out) H12.out).mono ?_; rintro e w9 ⟨v6_, v9_, rfl, r9, r12, hb⟩; obtain ⟨B9, d9, rfl⟩ := Kd.R_slice r9; obtain ⟨B12, d12, rfl⟩ := Kd.R_slice r12; have GW := Aside0.mk (below_size HB.out); have L4 := Aside0.mk (blk_lt KX4.out); have L6 := Aside0.mk (blk_lt KX6.out); have n0_ := Aside0.mk (blk_below KX4.out hb); have n1_ := Aside0.mk (blk_below KX6.out hb); have n2_ := Aside0.mk (below_step HB.out hb); have n3_ := Aside0.mk (r9); have n4_ := Aside0.mk (r12); (try clear KX4); (try clear KX6); (try clear HB); (try clear R9); (try clear R12); have KX4 := n0_; clear n0_; have KX6 := n1_; clear n1_; have HB := n2_; clear n2_; have R9 := n3_; clear n3_; have R12 := n4_; clear n4_; clear r9 r12 hb) | ((with_reducible refine gate_ (.store 41 (.tmp 24) (.tmp 23)) rfl ?_); refine agg_store rfl rfl rfl (g := gb6) (off := 3) (u := .agg #[.string j.f3.f0, .string j.f3.f1, .string j.f3.f2, .string j.f3.f3, .int .i64 j.f3.f4, .int .i64 j.f3.f5, .slice B9 j.f3.f6.f0.length d9, .int .i64 j.f3.f6.f1, .bool j.f3.f7.f0, .slice B12 j.f3.f7.f1.length d12, .int .i64 j.f3.f8, .int .i64 j.f3.f9, .bool j.f3.f10, .bool j.f3.f11, .string j.f3.f12]) rfl rfl info41s KX6.out [.string j.f3.f0, .string j.f3.f1, .string j.f3.f2, .string j.f3.f3, .int .i64 j.f3.f4, .int .i64 j.f3.f5, .slice B9 j.f3.f6.f0.length d9, .int .i64 j.f3.f6.f1, .bool j.f3.f7.f0, .slice B12 j.f3.f7.f1.length d12, .int .i64 j.f3.f8, .int .i64 j.f3.f9, .bool j.f3.f10, .bool j.f3.f11, .string j.f3.f12] rfl rfl (by simp) (by simp [Value.oneCell']) #[.int .u32 j.f0, .int .u32 j.f1, .int .i64 j.f2, .string j.f3.f0, .string j.f3.f1, .string j.f3.f2, .string j.f3.f3, .int .i64 j.f3.f4, .int .i64 j.f3.f5, .slice B9 j.f3.f6.f0.length d9, .int .i64 j.f3.f6.f1, .bool j.f3.f7.f0, .slice B12 j.f3.f7.f1.length d12, .int .i64 j.f3.f8, .int .i64 j.f3.f9, .bool j.f3.f10, .bool j.f3.f11, .string j.f3.f12, .int .i64 j.f4, .int .i64 j.f5, .int .i64 j.f6, .int .i64 j.f7, .int .i64 j.f8, .int .i64 j.f9, .int .i64 j.f10.f0, .int .i64 j.f10.f1] rfl ?_; intro w10 hX hO; have n0_ := Aside0.mk (hO.blk KX4.out (Ne.symm NE.out)); have n1_ := Aside0.mk (hO.below HB.out GE6.out); have n2_ := Aside0.mk (hX); have n3_ := Aside0.mk (hO.Rb R9.out L6.out); have n4_ := Aside0.mk (hO.Rb R12.out L6.out); (try clear KX4); (try clear HB); (try clear KX6); (try clear R9); (try clear R12); have KX4 := n0_; clear n0_; have HB := n1_; clear n1_; have KX6 := n2_; clear n2_; have R9 := n3_; clear n3_; have R12 := n4_; clear n4_; clear hX hO) | ((with_reducible refine gate_ (.load 58 (.tmp 6)) rfl ?_); refine agg_load rfl (N := 25) rfl rfl Tryd.underlying58 info58s (g := gb6) (off := 0) rfl [.int .u32 j.f0, .int .u32 j.f1, .int .i64 j.f2, .string j.f3.f0, .string j.f3.f1, .string j.f3.f2, .string j.f3.f3, .int .i64 j.f3.f4, .int .i64 j.f3.f5, .slice B9 j.f3.f6.f0.length d9, .int .i64 j.f3.f6.f1, .bool j.f3.f7.f0, .slice B12 j.f3.f7.f1.length d12, .int .i64 j.f3.f8, .int .i64 j.f3.f9, .bool j.f3.f10, .bool j.f3.f11, .string j.f3.f12, .int .i64 j.f4, .int .i64 j.f5, .int .i64 j.f6, .int .i64 j.f7, .int .i64 j.f8, .int .i64 j.f9, .int .i64 j.f10.f0, .int .i64 j.f10.f1] rfl (blk_seg KX6.out 0 26 rfl) ?_) | ((with_reducible refine gate_ (.store 58 (.tmp 4) (.tmp 25)) rfl ?_); refine agg_store rfl rfl rfl (g := gb4) (off := 0) (u := .agg #[.int .u32 j.f0, .int .u32 j.f1, .int .i64 j.f2, .string j.f3.f0, .string j.f3.f1, .string j.f3.f2, .string j.f3.f3, .int .i64 j.f3.f4, .int .i64 j.f3.f5, .slice B9 j.f3.f6.f0.length d9, .int .i64 j.f3.f6.f1, .bool j.f3.f7.f0, .slice B12 j.f3.f7.f1.length d12, .int .i64 j.f3.f8, .int .i64 j.f3.f9, .bool j.f3.f10, .bool j.f3.f11, .string j.f3.f12, .int .i64 j.f4, .int .i64 j.f5, .int .i64 j.f6, .int .i64 j.f7, .int .i64 j.f8, .int .i64 j.f9, .int .i64 j.f10.f0, .int .i64 j.f10.f1]) rfl rfl info58s KX4.out [.int .u32 j.f0, .int .u32 j.f1, .int .i64 j.f2, .string j.f3.f0, .string j.f3.f1, .string j.f3.f2, .string j.f3.f3, .int .i64 j.f3.f4, .int .i64 j.f3.f5, .slice B9 j.f3.f6.f0.length d9, .int .i64 j.f3.f6.f1, .bool j.f3.f7.f0, .slice B12 j.f3.f7.f1.length d12, .int .i64 j.f3.f8, .int .i64 j.f3.f9, .bool j.f3.f10, .bool j.f3.f11, .string j.f3.f12, .int .i64 j.f4, .int .i64 j.f5, .int .i64 j.f6, .int .i64 j.f7, .int .i64 j.f8, .int .i64 j.f9, .int .i64 j.f10.f0, .int .i64 j.f10.f1] rfl rfl (by simp) (by simp [Value.oneCell']) #[.int .u32 j.f0, .int .u32 j.f1, .int .i64 j.f2, .string j.f3.f0, .string j.f3.f1, .string j.f3.f2, .string j.f3.f3, .int .i64 j.f3.f4, .int .i64 j.f3.f5, .slice B9 j.f3.f6.f0.length d9, .int .i64 j.f3.f6.f1, .bool j.f3.f7.f0, .slice B12 j.f3.f7.f1.length d12, .int .i64 j.f3.f8, .int .i64 j.f3.f9, .bool j.f3.f10, .bool j.f3.f11, .string j.f3.f12, .int .i64 j.f4, .int .i64 j.f5, .int .i64 j.f6, .int .i64 j.f7, .int .i64 j.f8, .int .i64 j.f9, .int .i64 j.f10.f0, .int .i64 j.f10.f1] rfl ?_; intro w11 hX hO; have n0_ := Aside0.mk (hO.blk KX6.out NE.out); have n1_ := Aside0.mk (hO.below HB.out GE4.out); have n2_ := Aside0.mk (hX); have n3_ := Aside0.mk (hO.Rb R9.out L4.out); have n4_ := Aside0.mk (hO.Rb R12.out L4.out); (try clear KX6); (try clear HB); (try clear KX4); (try clear R9); (try clear R12); have KX6 := n0_; clear n0_; have HB := n1_; clear n1_; have KX4 := n2_; clear n2_; have R9 := n3_; clear n3_; have R12 := n4_; clear n4_; clear hX hO))
  refine bodyPost_ret (results_list rfl (by simp) (Vals.cell gb4 58 _ _ _ rfl KX4.out hu58 rfl info58s (Vals.tmp Vals.nil))) rfl ?_
  exact ⟨B9, d9, B12, d12, rfl, Kd.R_lower R9.out GW.out, Kd.R_lower R12.out GW.out, HB.out⟩
end
end Go.Proofs.YtgkedamhicemiaaDoor.P
