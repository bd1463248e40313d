/- cut to what one law reaches -/
import Derived.Test.YtfccdngejfnmkaaDoorQfP0
import Derived.Test.YtfccdngejfnmkaaDoorQfP12
import Derived.Test.YtfccdngejfnmkaaDoorQfP13
import Derived.Test.YtfccdngejfnmkaaDoorQfP14
namespace Go.Proofs.YtfccdngejfnmkaaDoor.P
open Go.RowKit Go.Proofs.YtfccdngejfnmkaaDoorW.PrintWords Go.Proofs.YtfccdngejfnmkaaDoorW.PrintLast Go.Proofs.YtfccdngejfnmkaaDoorW.PrintMore
attribute [local go_sem] max2_int min2_int max_two min_two max_three min_three max_four min_four   -- for this text's walks alone
set_option linter.unusedVariables false
set_option linter.unusedSimpArgs false
attribute [local go_sem] isSome_setCell
mutual
def gangerref01_MulDiv.j0 : Nat → Int → Int → Int → Bool → Option (Int × Int)
 | 0, _, _, _, _ => none
 | k + 1, x0, x1, x2, x22 => if x22 = true then (some (0, 2)) else ((gangerref01_Of.f x0).bind fun bt427 => ((gangerref01_Of.f x1).bind fun bt430 => ((gangerref01_Product.f k bt427.1 bt427.2.1 bt427.2.2 bt430.1 bt430.2.1 bt430.2.2).bind fun bt433 => (gangerref01_MulDiv.l0 k x2 0 127 bt433.1 bt433.2.1 bt433.2.2 false 0 0))))
def gangerref01_MulDiv.l0 : Nat → Int → Int → Int → Bool → Int → Int → Bool → Int → Int → Option (Int × Int)
 | 0, _, _, _, _, _, _, _, _, _ => none
 | k + 1, x2, x10, x11, x437000, x437001, x437002, x438000, x438001, x438002 => if x11 ≥ 0 then (if 0 ≤ (IntKind.u64.wrap (Int.tmod x11 64)) then (if x11 ≥ 64 then (if 0 ≤ (IntKind.u64.wrap (wrap64 (x11 - 64))) then ((gangerref01_plus.f x438000 x438001 x438002 x438000 x438001 x438002).bind fun bt440 => (if (IntKind.u64.wrap ((IntKind.u64.wrap (x10 * 2)) + (Int.tmod (shr .u64 x437001 (IntKind.u64.wrap (wrap64 (x11 - 64)))) 2))) ≥ (IntKind.u64.wrap (x2)) then (gangerref01_MulDiv.l0 k x2 (IntKind.u64.wrap ((IntKind.u64.wrap ((IntKind.u64.wrap (x10 * 2)) + (Int.tmod (shr .u64 x437001 (IntKind.u64.wrap (wrap64 (x11 - 64)))) 2))) - (IntKind.u64.wrap (x2)))) (wrap64 (x11 - 1)) x437000 x437001 x437002 bt440.1 bt440.2.1 (IntKind.u64.wrap (bt440.2.2 + 1))) else (gangerref01_MulDiv.l0 k x2 (IntKind.u64.wrap ((IntKind.u64.wrap (x10 * 2)) + (Int.tmod (shr .u64 x437001 (IntKind.u64.wrap (wrap64 (x11 - 64)))) 2))) (wrap64 (x11 - 1)) x437000 x437001 x437002 bt440.1 bt440.2.1 bt440.2.2))) else (none)) else ((gangerref01_plus.f x438000 x438001 x438002 x438000 x438001 x438002).bind fun bt443 => (if (IntKind.u64.wrap ((IntKind.u64.wrap (x10 * 2)) + (Int.tmod (shr .u64 x437002 (IntKind.u64.wrap (Int.tmod x11 64))) 2))) ≥ (IntKind.u64.wrap (x2)) then (gangerref01_MulDiv.l0 k x2 (IntKind.u64.wrap ((IntKind.u64.wrap ((IntKind.u64.wrap (x10 * 2)) + (Int.tmod (shr .u64 x437002 (IntKind.u64.wrap (Int.tmod x11 64))) 2))) - (IntKind.u64.wrap (x2)))) (wrap64 (x11 - 1)) x437000 x437001 x437002 bt443.1 bt443.2.1 (IntKind.u64.wrap (bt443.2.2 + 1))) else (gangerref01_MulDiv.l0 k x2 (IntKind.u64.wrap ((IntKind.u64.wrap (x10 * 2)) + (Int.tmod (shr .u64 x437002 (IntKind.u64.wrap (Int.tmod x11 64))) 2))) (wrap64 (x11 - 1)) x437000 x437001 x437002 bt443.1 bt443.2.1 bt443.2.2)))) else (none)) else ((gangerref01_told.f k x438000 x438001 x438002).bind fun bt438 => (some (bt438.1, bt438.2)))
end
def gangerref01_MulDiv.f (k : Nat) (a0 : Int) (a1 : Int) (a2 : Int) : Option (Int × Int) := if a0 < 0 then (gangerref01_MulDiv.j0 k a0 a1 a2 true) else (if a1 < 0 then (gangerref01_MulDiv.j0 k a0 a1 a2 true) else (gangerref01_MulDiv.j0 k a0 a1 a2 (decide (a2 < 1))))
set_option maxHeartbeats 8000000 in
set_option maxRecDepth 100000 in
theorem gangerref01_MulDiv.calls (k : Nat) (a0 : Int) (a1 : Int) (a2 : Int) (r1 : Int) (r2 : Int) (w : World) (h : gangerref01_MulDiv.f k a0 a1 a2 = some (r1, r2)) :
  Calls Tryd.prog 30 #[.int .i64 a0, .int .i64 a1, .int .i64 a2] w fun e w' => e = .returned (.tuple #[.int .i64 r1, .int .i64 r2]) ∧ Below w.heap.size w w' := by
 have hu72 := Tryd.underlying72
 have HB := Aside0.mk (Below.refl w.heap.size w)
 have H : (if a0 < 0 then (gangerref01_MulDiv.j0 k a0 a1 a2 true) else (if a1 < 0 then (gangerref01_MulDiv.j0 k a0 a1 a2 true) else (gangerref01_MulDiv.j0 k a0 a1 a2 (decide (a2 < 1))))) = some (r1, r2) := h
 clear h
 have HC4 := Aside0.mk H
 clear H
 go_enter Tryd.func30, Tryd.ntmps30
 go_upto_region 1 with (fail)
 go_cut [22] (fun v22 wc => ∃ (kq : Nat) (x22_3 : Bool), v22 = .bool x22_3 ∧ Aside0 (gangerref01_MulDiv.j0 kq a0 a1 a2 x22_3 = some (r1, r2)) ∧ Aside0 (kq ≤ k) ∧ Aside0 (Below w.heap.size w wc))
 case first =>
  have H := HC4.out
  clear HC4
  by_cases c5 : a0 < 0
  ·rw [if_pos c5] at H
   have c5b0 : decide (a0 < 0) = true := decide_eq_true c5
   clear c5
   (first | rw [c5b0] | (simp only [i64_w, i32_w]; rw [c5b0]) | skip)
   have H' := Aside0.mk H
   clear H
   go_wp2
   go_meet
   case rel => exact ⟨_, (true), (by first | rfl | (simp; done) | (simp [*]; done)), H', ⟨by first | omega | exact Nat.le_refl _⟩, ⟨by repeat (first | (with_reducible first | exact HB.out | apply below_alloc | apply pw_below_drewN | apply below_drew1) | exact HB.out)⟩⟩
  ·rw [if_neg c5] at H
   have c5b0 : decide (a0 < 0) = false := decide_eq_false c5
   clear c5
   (first | rw [c5b0] | (simp only [i64_w, i32_w]; rw [c5b0]) | skip)
   by_cases c6 : a1 < 0
   ·rw [if_pos c6] at H
    have c6b0 : decide (a1 < 0) = true := decide_eq_true c6
    clear c6
    have H' := Aside0.mk H
    clear H
    go_wp2
    go_meet
    case rel => exact ⟨_, (true), (by first | rfl | (simp; done) | (simp [*]; done)), H', ⟨by first | omega | exact Nat.le_refl _⟩, ⟨by repeat (first | (with_reducible first | exact HB.out | apply below_alloc | apply pw_below_drewN | apply below_drew1) | exact HB.out)⟩⟩
   ·rw [if_neg c6] at H
    have c6b0 : decide (a1 < 0) = false := decide_eq_false c6
    clear c6
    have H' := Aside0.mk H
    clear H
    go_wp2
    go_meet
    case rel => exact ⟨_, (decide (a2 < 1)), (by first | rfl | (simp; done) | (simp [*]; done)), H', ⟨by first | omega | exact Nat.le_refl _⟩, ⟨by repeat (first | (with_reducible first | exact HB.out | apply below_alloc | apply pw_below_drewN | apply below_drew1) | exact HB.out)⟩⟩
 case rest =>
  clear HC4
  obtain ⟨kq, x22_3, rfl, HA, HJ3, HB⟩ := hcut
  cases kq with
  | zero => exact absurd HA.out (by simp [gangerref01_MulDiv.j0])
  | succ kj3 =>
   have H := HA.out
   clear HA
   simp only [gangerref01_MulDiv.j0] at H
   by_cases c7 : x22_3 = true
   ·subst c7
    have H1 : (some (0, 2)) = some (r1, r2) := by rw [if_pos rfl] at H; exact H
    clear H
    have H := H1
    clear H1
    simp only [Option.some.injEq, Prod.mk.injEq] at H
    obtain ⟨rfl, rfl⟩ := H
    go_wp2
    go_ret2
    exact ⟨by first | rfl | (simp [errW_none, errW_some] <;> rfl) | (simp [*, errW_none, errW_some] <;> rfl), by repeat (first | (with_reducible first | exact HB.out | apply below_alloc | apply pw_below_drewN | apply below_drew1) | exact HB.out)⟩
   ·replace c7 := Bool.eq_false_iff.mpr c7
    subst c7
    have H1 : ((gangerref01_Of.f a0).bind fun bt427 => ((gangerref01_Of.f a1).bind fun bt430 => ((gangerref01_Product.f kj3 bt427.1 bt427.2.1 bt427.2.2 bt430.1 bt430.2.1 bt430.2.2).bind fun bt433 => (gangerref01_MulDiv.l0 kj3 a2 0 127 bt433.1 bt433.2.1 bt433.2.2 false 0 0)))) = some (r1, r2) := by rw [if_neg (show ¬ (false = true) by decide)] at H; exact H
    clear H
    have H := H1
    clear H1
    replace H := Option.bind_eq_some_iff.mp H
    obtain ⟨⟨t427, t428, t429⟩, A80, H⟩ := H
    replace H : ((gangerref01_Of.f a1).bind fun bt430 => ((gangerref01_Product.f kj3 t427 t428 t429 bt430.1 bt430.2.1 bt430.2.2).bind fun bt433 => (gangerref01_MulDiv.l0 kj3 a2 0 127 bt433.1 bt433.2.1 bt433.2.2 false 0 0))) = some (r1, r2) := H
    have A8 := Aside0.mk A80
    clear A80
    replace H := Option.bind_eq_some_iff.mp H
    obtain ⟨⟨t430, t431, t432⟩, A90, H⟩ := H
    replace H : ((gangerref01_Product.f kj3 t427 t428 t429 t430 t431 t432).bind fun bt433 => (gangerref01_MulDiv.l0 kj3 a2 0 127 bt433.1 bt433.2.1 bt433.2.2 false 0 0)) = some (r1, r2) := H
    have A9 := Aside0.mk A90
    clear A90
    replace H := Option.bind_eq_some_iff.mp H
    obtain ⟨⟨t433, t434, t435⟩, A100, H⟩ := H
    replace H : (gangerref01_MulDiv.l0 kj3 a2 0 127 t433 t434 t435 false 0 0) = some (r1, r2) := H
    have A10 := Aside0.mk A100
    clear A100
    have H' := Aside0.mk H
    clear H
    go_wp2_with (first | ((with_reducible refine gate_callee (f := 36) rfl ?_); refine goesL_ (some 24) rfl rfl Tryd.func36 (by kernel_rfl) rfl #[.int .i64 a0] rfl (by (try simp only [List.map_toArray, List.map_cons, List.map_nil]); first | done | rfl | (simp only [List.length_drop, List.length_take]; rfl)) ?_; (with_reducible refine (gangerref01_Of.calls a0 t427 t428 t429 _ A8.out).mono ?_); rintro e w11 ⟨rfl, hb⟩; refine ⟨_, rfl, ?_⟩; have n0_ := Aside0.mk (below_step (by repeat (first | (with_reducible first | exact HB.out | apply below_alloc | apply pw_below_drewN | apply below_drew1) | exact HB.out)) hb); clear HB; have HB := n0_; clear n0_; (try clear hb); (try clear hb2); (try clear hk); (try clear hi)) | ((with_reducible refine gate_callee (f := 36) rfl ?_); refine goesL_ (some 26) rfl rfl Tryd.func36 (by kernel_rfl) rfl #[.int .i64 a1] rfl (by (try simp only [List.map_toArray, List.map_cons, List.map_nil]); first | done | rfl | (simp only [List.length_drop, List.length_take]; rfl)) ?_; (with_reducible refine (gangerref01_Of.calls a1 t430 t431 t432 _ A9.out).mono ?_); rintro e w12 ⟨rfl, hb⟩; refine ⟨_, rfl, ?_⟩; have n0_ := Aside0.mk (below_step (by repeat (first | (with_reducible first | exact HB.out | apply below_alloc | apply pw_below_drewN | apply below_drew1) | exact HB.out)) hb); clear HB; have HB := n0_; clear n0_; (try clear hb); (try clear hb2); (try clear hk); (try clear hi)) | ((with_reducible refine gate_callee (f := 39) rfl ?_); refine goesL_ (some 27) rfl rfl Tryd.func39 (by kernel_rfl) rfl #[.agg #[.bool t427, .int .u64 t428, .int .u64 t429], .agg #[.bool t430, .int .u64 t431, .int .u64 t432]] rfl (by (try simp only [List.map_toArray, List.map_cons, List.map_nil]); first | done | rfl | (simp only [List.length_drop, List.length_take]; rfl)) ?_; (with_reducible refine (gangerref01_Product.calls kj3 t427 t428 t429 t430 t431 t432 t433 t434 t435 _ A10.out).mono ?_); rintro e w13 ⟨rfl, hb⟩; refine ⟨_, rfl, ?_⟩; have n0_ := Aside0.mk (below_step (by repeat (first | (with_reducible first | exact HB.out | apply below_alloc | apply pw_below_drewN | apply below_drew1) | exact HB.out)) hb); clear HB; have HB := n0_; clear n0_; (try clear hb); (try clear hb2); (try clear hk); (try clear hi)) | ((with_reducible refine gate_dst (N := 8) rfl ?_); refine box_event ?hg (N := 8) ?hd (cs := #[.bool false, .int .u64 0, .int .u64 0]) (t := 72) ?hr ?_; (case hd => rfl); (case hg => rfl); (case hr => first | (go_simp; done) | (go_simp; rfl)); intro gb436 hg w14 hbox hb; have n0_ := Aside0.mk (below_step (by repeat (first | (with_reducible first | exact HB.out | apply below_alloc | apply pw_below_drewN | apply below_drew1) | exact HB.out)) hb); have n1_ := Aside0.mk (hbox); have n2_ := Aside0.mk ((by rw [hg]; exact (below_size (by repeat (first | (with_reducible first | exact HB.out | apply below_alloc | apply pw_below_drewN | apply below_drew1) | exact HB.out))) : w.heap.size ≤ gb436)); have n3_ := Aside0.mk ((by rw [hg]; exact (below_size (by repeat (first | (with_reducible first | exact HB.out | apply below_alloc | apply pw_below_drewN | apply below_drew1) | exact HB.out))) : w.heap.size ≤ gb436)); clear HB; have HB := n0_; have BK436 := n1_; have GW436 := n2_; have GE436 := n3_; clear n0_ n1_ n2_ n3_; clear hb hbox hg; have hcz15_0 : w14.cell? ⟨gb436, 0, none⟩ = some (.bool false) := (blk_cell BK436.out 0).trans rfl; have hcz15_1 : w14.cell? ⟨gb436, 1, none⟩ = some (.int .u64 0) := (blk_cell BK436.out 1).trans rfl; have hcz15_2 : w14.cell? ⟨gb436, 2, none⟩ = some (.int .u64 0) := (blk_cell BK436.out 2).trans rfl; have hfz15_0 := blk_frozen BK436.out 0; have hfz15_1 := blk_frozen BK436.out 1; have hfz15_2 := blk_frozen BK436.out 2) | ((with_reducible refine gate_dst (N := 9) rfl ?_); refine box_event ?hg (N := 9) ?hd (cs := #[.bool false, .int .u64 0, .int .u64 0]) (t := 72) ?hr ?_; (case hd => rfl); (case hg => rfl); (case hr => first | (go_simp; done) | (go_simp; rfl)); intro gb437 hg w16 hbox hb; have n0_ := Aside0.mk (blk_below (g := gb436) (o := .cells #[.bool t433, .int .u64 t434, .int .u64 t435] 72 (0, 0)) (by (with_reducible repeat (first | refine blk_drewN ?_ _ | refine blk_drew ?_ | refine blk_alloc ?_ _)); refine blk_put (cs := #[.bool t433, .int .u64 t434, .int .u64 0]) ?_ 2 _ rfl; (with_reducible repeat (first | refine blk_drewN ?_ _ | refine blk_drew ?_ | refine blk_alloc ?_ _)); refine blk_put (cs := #[.bool t433, .int .u64 0, .int .u64 0]) ?_ 1 _ rfl; (with_reducible repeat (first | refine blk_drewN ?_ _ | refine blk_drew ?_ | refine blk_alloc ?_ _)); refine blk_put (cs := #[.bool false, .int .u64 0, .int .u64 0]) ?_ 0 _ rfl; (with_reducible repeat (first | refine blk_drewN ?_ _ | refine blk_drew ?_ | refine blk_alloc ?_ _)); exact BK436.out) hb); have n1_ := Aside0.mk (below_step (by repeat (first | (with_reducible first | exact HB.out | apply below_alloc | apply pw_below_drewN | apply below_drew1 | refine below_set ?_ GE436.out) | exact HB.out)) hb); have n2_ := Aside0.mk (hbox); have n3_ := Aside0.mk ((by rw [hg]; exact (below_size (by repeat (first | (with_reducible first | exact HB.out | apply below_alloc | apply pw_below_drewN | apply below_drew1 | refine below_set ?_ GE436.out) | exact HB.out))) : w.heap.size ≤ gb437)); have n4_ := Aside0.mk ((by rw [hg]; exact (below_size (by repeat (first | (with_reducible first | exact HB.out | apply below_alloc | apply pw_below_drewN | apply below_drew1 | refine below_set ?_ GE436.out) | exact HB.out))) : w.heap.size ≤ gb437)); have n5_ := Aside0.mk ((by rw [hg]; exact Nat.ne_of_lt (blk_lt (g := gb436) (o := .cells #[.bool t433, .int .u64 t434, .int .u64 t435] 72 (0, 0)) (by (with_reducible repeat (first | refine blk_drewN ?_ _ | refine blk_drew ?_ | refine blk_alloc ?_ _)); refine blk_put (cs := #[.bool t433, .int .u64 t434, .int .u64 0]) ?_ 2 _ rfl; (with_reducible repeat (first | refine blk_drewN ?_ _ | refine blk_drew ?_ | refine blk_alloc ?_ _)); refine blk_put (cs := #[.bool t433, .int .u64 0, .int .u64 0]) ?_ 1 _ rfl; (with_reducible repeat (first | refine blk_drewN ?_ _ | refine blk_drew ?_ | refine blk_alloc ?_ _)); refine blk_put (cs := #[.bool false, .int .u64 0, .int .u64 0]) ?_ 0 _ rfl; (with_reducible repeat (first | refine blk_drewN ?_ _ | refine blk_drew ?_ | refine blk_alloc ?_ _)); exact BK436.out)) : gb436 ≠ gb437)); have n6_ := Aside0.mk ((by rw [hg]; exact Nat.ne_of_gt (blk_lt (g := gb436) (o := .cells #[.bool t433, .int .u64 t434, .int .u64 t435] 72 (0, 0)) (by (with_reducible repeat (first | refine blk_drewN ?_ _ | refine blk_drew ?_ | refine blk_alloc ?_ _)); refine blk_put (cs := #[.bool t433, .int .u64 t434, .int .u64 0]) ?_ 2 _ rfl; (with_reducible repeat (first | refine blk_drewN ?_ _ | refine blk_drew ?_ | refine blk_alloc ?_ _)); refine blk_put (cs := #[.bool t433, .int .u64 0, .int .u64 0]) ?_ 1 _ rfl; (with_reducible repeat (first | refine blk_drewN ?_ _ | refine blk_drew ?_ | refine blk_alloc ?_ _)); refine blk_put (cs := #[.bool false, .int .u64 0, .int .u64 0]) ?_ 0 _ rfl; (with_reducible repeat (first | refine blk_drewN ?_ _ | refine blk_drew ?_ | refine blk_alloc ?_ _)); exact BK436.out)) : gb437 ≠ gb436)); clear BK436; clear HB; have BK436 := n0_; have HB := n1_; have BK437 := n2_; have GW437 := n3_; have GE437 := n4_; have NB436_437 := n5_; have NB437_436 := n6_; clear n0_ n1_ n2_ n3_ n4_ n5_ n6_; clear hb hbox hg; have hnb17 := NB437_436.out; have hnc17 := NB436_437.out; have hcz18_0 : w16.cell? ⟨gb437, 0, none⟩ = some (.bool false) := (blk_cell BK437.out 0).trans rfl; have hcz18_1 : w16.cell? ⟨gb437, 1, none⟩ = some (.int .u64 0) := (blk_cell BK437.out 1).trans rfl; have hcz18_2 : w16.cell? ⟨gb437, 2, none⟩ = some (.int .u64 0) := (blk_cell BK437.out 2).trans rfl; have hfz18_0 := blk_frozen BK437.out 0; have hfz18_1 := blk_frozen BK437.out 1; have hfz18_2 := blk_frozen BK437.out 2))
    go_loopg [10, 11] kj3 (fun kq v10 v11 w' => ∃ (x10_2 : Int) (x11_2 : Int) (x438000_2 : Bool) (x438001_2 : Int) (x438002_2 : Int), v10 = .int .u64 x10_2 ∧ v11 = .int .i64 x11_2 ∧ Aside0 (gangerref01_MulDiv.l0 kq a2 x10_2 x11_2 t433 t434 t435 x438000_2 x438001_2 x438002_2 = some (r1, r2)) ∧ Aside0 (kq ≤ kj3) ∧ Aside0 (w'.heap[gb436]? = some (.cells #[.bool t433, .int .u64 t434, .int .u64 t435] 72 (0, 0))) ∧ Aside0 (w'.heap[gb437]? = some (.cells #[.bool x438000_2, .int .u64 x438001_2, .int .u64 x438002_2] 72 (0, 0))) ∧ Aside0 (Below w.heap.size w w'))
    case atStart => exact ⟨(0), (127), (false), (0), (0), (by first | rfl | (simp; done) | (simp [*]; done)), (by first | rfl | (simp; done) | (simp [*]; done)), H', ⟨Nat.le_refl _⟩, ⟨by (with_reducible repeat (first | refine blk_drewN ?_ _ | refine blk_drew ?_ | refine blk_alloc ?_ _)); refine blk_far ?_ NB436_437.out _; (with_reducible repeat (first | refine blk_drewN ?_ _ | refine blk_drew ?_ | refine blk_alloc ?_ _)); refine blk_far ?_ NB436_437.out _; (with_reducible repeat (first | refine blk_drewN ?_ _ | refine blk_drew ?_ | refine blk_alloc ?_ _)); refine blk_far ?_ NB436_437.out _; (with_reducible repeat (first | refine blk_drewN ?_ _ | refine blk_drew ?_ | refine blk_alloc ?_ _)); exact BK436.out⟩, ⟨by (with_reducible repeat (first | refine blk_drewN ?_ _ | refine blk_drew ?_ | refine blk_alloc ?_ _)); refine blk_put (cs := #[.bool false, .int .u64 0, .int .u64 0]) ?_ 2 _ rfl; (with_reducible repeat (first | refine blk_drewN ?_ _ | refine blk_drew ?_ | refine blk_alloc ?_ _)); refine blk_put (cs := #[.bool false, .int .u64 0, .int .u64 0]) ?_ 1 _ rfl; (with_reducible repeat (first | refine blk_drewN ?_ _ | refine blk_drew ?_ | refine blk_alloc ?_ _)); refine blk_put (cs := #[.bool false, .int .u64 0, .int .u64 0]) ?_ 0 _ rfl; (with_reducible repeat (first | refine blk_drewN ?_ _ | refine blk_drew ?_ | refine blk_alloc ?_ _)); exact BK437.out⟩, ⟨by repeat (first | (with_reducible first | exact HB.out | apply below_alloc | apply pw_below_drewN | apply below_drew1 | refine below_set ?_ GE436.out | refine below_set ?_ GE437.out) | exact HB.out)⟩⟩
    case round =>
     clear H'
     obtain ⟨x10_2, x11_2, x438000_2, x438001_2, x438002_2, rfl, rfl, HA, HK2, BK436, BK437, HB⟩ := hrel
     cases gk with
     | zero => exact absurd HA.out (by simp [gangerref01_MulDiv.l0])
     | succ k2 =>
      have H := HA.out
      clear HA
      simp only [gangerref01_MulDiv.l0] at H
      by_cases c19 : x11_2 ≥ 0
      ·rw [if_pos c19] at H
       have c19b0 : decide (0 ≤ x11_2) = true := decide_eq_true c19
       clear c19
       obtain ⟨ji20, hji20⟩ : ∃ j_ : Int, (IntKind.u64.wrap (Int.tmod x11_2 64)) = j_ := ⟨_, rfl⟩
       replace H : (if 0 ≤ (ji20) then (if x11_2 ≥ 64 then (if 0 ≤ (IntKind.u64.wrap (wrap64 (x11_2 - 64))) then ((gangerref01_plus.f x438000_2 x438001_2 x438002_2 x438000_2 x438001_2 x438002_2).bind fun bt440 => (if (IntKind.u64.wrap ((IntKind.u64.wrap (x10_2 * 2)) + (Int.tmod (shr .u64 t434 (IntKind.u64.wrap (wrap64 (x11_2 - 64)))) 2))) ≥ (IntKind.u64.wrap (a2)) then (gangerref01_MulDiv.l0 k2 a2 (IntKind.u64.wrap ((IntKind.u64.wrap ((IntKind.u64.wrap (x10_2 * 2)) + (Int.tmod (shr .u64 t434 (IntKind.u64.wrap (wrap64 (x11_2 - 64)))) 2))) - (IntKind.u64.wrap (a2)))) (wrap64 (x11_2 - 1)) t433 t434 t435 bt440.1 bt440.2.1 (IntKind.u64.wrap (bt440.2.2 + 1))) else (gangerref01_MulDiv.l0 k2 a2 (IntKind.u64.wrap ((IntKind.u64.wrap (x10_2 * 2)) + (Int.tmod (shr .u64 t434 (IntKind.u64.wrap (wrap64 (x11_2 - 64)))) 2))) (wrap64 (x11_2 - 1)) t433 t434 t435 bt440.1 bt440.2.1 bt440.2.2))) else (none)) else ((gangerref01_plus.f x438000_2 x438001_2 x438002_2 x438000_2 x438001_2 x438002_2).bind fun bt443 => (if (IntKind.u64.wrap ((IntKind.u64.wrap (x10_2 * 2)) + (Int.tmod (shr .u64 t435 (ji20)) 2))) ≥ (IntKind.u64.wrap (a2)) then (gangerref01_MulDiv.l0 k2 a2 (IntKind.u64.wrap ((IntKind.u64.wrap ((IntKind.u64.wrap (x10_2 * 2)) + (Int.tmod (shr .u64 t435 (ji20)) 2))) - (IntKind.u64.wrap (a2)))) (wrap64 (x11_2 - 1)) t433 t434 t435 bt443.1 bt443.2.1 (IntKind.u64.wrap (bt443.2.2 + 1))) else (gangerref01_MulDiv.l0 k2 a2 (IntKind.u64.wrap ((IntKind.u64.wrap (x10_2 * 2)) + (Int.tmod (shr .u64 t435 (ji20)) 2))) (wrap64 (x11_2 - 1)) t433 t434 t435 bt443.1 bt443.2.1 bt443.2.2)))) else (none)) = some (r1, r2) := by first | (rw [hji20] at H; exact H) | (simp only [hji20] at H ⊢; exact H)
       by_cases c21 : 0 ≤ (ji20)
       ·rw [if_pos c21] at H
        have c21b0 := eq_true c21
        have c21b1 : decide (0 ≤ (ji20)) = true := decide_eq_true c21
        clear c21
        obtain ⟨ji22, hji22⟩ : ∃ j_ : Int, (shr .u64 t435 (ji20)) = j_ := ⟨_, rfl⟩
        replace H : (if x11_2 ≥ 64 then (if 0 ≤ (IntKind.u64.wrap (wrap64 (x11_2 - 64))) then ((gangerref01_plus.f x438000_2 x438001_2 x438002_2 x438000_2 x438001_2 x438002_2).bind fun bt440 => (if (IntKind.u64.wrap ((IntKind.u64.wrap (x10_2 * 2)) + (Int.tmod (shr .u64 t434 (IntKind.u64.wrap (wrap64 (x11_2 - 64)))) 2))) ≥ (IntKind.u64.wrap (a2)) then (gangerref01_MulDiv.l0 k2 a2 (IntKind.u64.wrap ((IntKind.u64.wrap ((IntKind.u64.wrap (x10_2 * 2)) + (Int.tmod (shr .u64 t434 (IntKind.u64.wrap (wrap64 (x11_2 - 64)))) 2))) - (IntKind.u64.wrap (a2)))) (wrap64 (x11_2 - 1)) t433 t434 t435 bt440.1 bt440.2.1 (IntKind.u64.wrap (bt440.2.2 + 1))) else (gangerref01_MulDiv.l0 k2 a2 (IntKind.u64.wrap ((IntKind.u64.wrap (x10_2 * 2)) + (Int.tmod (shr .u64 t434 (IntKind.u64.wrap (wrap64 (x11_2 - 64)))) 2))) (wrap64 (x11_2 - 1)) t433 t434 t435 bt440.1 bt440.2.1 bt440.2.2))) else (none)) else ((gangerref01_plus.f x438000_2 x438001_2 x438002_2 x438000_2 x438001_2 x438002_2).bind fun bt443 => (if (IntKind.u64.wrap ((IntKind.u64.wrap (x10_2 * 2)) + (Int.tmod (ji22) 2))) ≥ (IntKind.u64.wrap (a2)) then (gangerref01_MulDiv.l0 k2 a2 (IntKind.u64.wrap ((IntKind.u64.wrap ((IntKind.u64.wrap (x10_2 * 2)) + (Int.tmod (ji22) 2))) - (IntKind.u64.wrap (a2)))) (wrap64 (x11_2 - 1)) t433 t434 t435 bt443.1 bt443.2.1 (IntKind.u64.wrap (bt443.2.2 + 1))) else (gangerref01_MulDiv.l0 k2 a2 (IntKind.u64.wrap ((IntKind.u64.wrap (x10_2 * 2)) + (Int.tmod (ji22) 2))) (wrap64 (x11_2 - 1)) t433 t434 t435 bt443.1 bt443.2.1 bt443.2.2)))) = some (r1, r2) := by first | (rw [hji22] at H; exact H) | (simp only [hji22] at H ⊢; exact H)
        have hji22_ : (t435 / 2 ^ min (ji20).toNat 64) = ji22 := hji22
        have hji22z : (ji20) ≤ 64 → (t435 / 2 ^ (ji20).toNat) = ji22 := shr_small hji22
        by_cases c23 : x11_2 ≥ 64
        ·rw [if_pos c23] at H
         have c23b0 : decide (64 ≤ x11_2) = true := decide_eq_true c23
         clear c23
         obtain ⟨ji24, hji24⟩ : ∃ j_ : Int, (IntKind.u64.wrap (wrap64 (x11_2 - 64))) = j_ := ⟨_, rfl⟩
         replace H : (if 0 ≤ (ji24) then ((gangerref01_plus.f x438000_2 x438001_2 x438002_2 x438000_2 x438001_2 x438002_2).bind fun bt440 => (if (IntKind.u64.wrap ((IntKind.u64.wrap (x10_2 * 2)) + (Int.tmod (shr .u64 t434 (ji24)) 2))) ≥ (IntKind.u64.wrap (a2)) then (gangerref01_MulDiv.l0 k2 a2 (IntKind.u64.wrap ((IntKind.u64.wrap ((IntKind.u64.wrap (x10_2 * 2)) + (Int.tmod (shr .u64 t434 (ji24)) 2))) - (IntKind.u64.wrap (a2)))) (wrap64 (x11_2 - 1)) t433 t434 t435 bt440.1 bt440.2.1 (IntKind.u64.wrap (bt440.2.2 + 1))) else (gangerref01_MulDiv.l0 k2 a2 (IntKind.u64.wrap ((IntKind.u64.wrap (x10_2 * 2)) + (Int.tmod (shr .u64 t434 (ji24)) 2))) (wrap64 (x11_2 - 1)) t433 t434 t435 bt440.1 bt440.2.1 bt440.2.2))) else (none)) = some (r1, r2) := by first | (rw [hji24] at H; exact H) | (simp only [hji24] at H ⊢; exact H)
         by_cases c25 : 0 ≤ (ji24)
         ·rw [if_pos c25] at H
          have c25b0 := eq_true c25
          have c25b1 : decide (0 ≤ (ji24)) = true := decide_eq_true c25
          clear c25
          obtain ⟨ji26, hji26⟩ : ∃ j_ : Int, (shr .u64 t434 (ji24)) = j_ := ⟨_, rfl⟩
          replace H : ((gangerref01_plus.f x438000_2 x438001_2 x438002_2 x438000_2 x438001_2 x438002_2).bind fun bt440 => (if (IntKind.u64.wrap ((IntKind.u64.wrap (x10_2 * 2)) + (Int.tmod (ji26) 2))) ≥ (IntKind.u64.wrap (a2)) then (gangerref01_MulDiv.l0 k2 a2 (IntKind.u64.wrap ((IntKind.u64.wrap ((IntKind.u64.wrap (x10_2 * 2)) + (Int.tmod (ji26) 2))) - (IntKind.u64.wrap (a2)))) (wrap64 (x11_2 - 1)) t433 t434 t435 bt440.1 bt440.2.1 (IntKind.u64.wrap (bt440.2.2 + 1))) else (gangerref01_MulDiv.l0 k2 a2 (IntKind.u64.wrap ((IntKind.u64.wrap (x10_2 * 2)) + (Int.tmod (ji26) 2))) (wrap64 (x11_2 - 1)) t433 t434 t435 bt440.1 bt440.2.1 bt440.2.2))) = some (r1, r2) := by first | (rw [hji26] at H; exact H) | (simp only [hji26] at H ⊢; exact H)
          have hji26_ : (t434 / 2 ^ min (ji24).toNat 64) = ji26 := hji26
          have hji26z : (ji24) ≤ 64 → (t434 / 2 ^ (ji24).toNat) = ji26 := shr_small hji26
          replace H := Option.bind_eq_some_iff.mp H
          obtain ⟨⟨t440, t441, t442⟩, A270, H⟩ := H
          replace H : (if (IntKind.u64.wrap ((IntKind.u64.wrap (x10_2 * 2)) + (Int.tmod (ji26) 2))) ≥ (IntKind.u64.wrap (a2)) then (gangerref01_MulDiv.l0 k2 a2 (IntKind.u64.wrap ((IntKind.u64.wrap ((IntKind.u64.wrap (x10_2 * 2)) + (Int.tmod (ji26) 2))) - (IntKind.u64.wrap (a2)))) (wrap64 (x11_2 - 1)) t433 t434 t435 t440 t441 (IntKind.u64.wrap (t442 + 1))) else (gangerref01_MulDiv.l0 k2 a2 (IntKind.u64.wrap ((IntKind.u64.wrap (x10_2 * 2)) + (Int.tmod (ji26) 2))) (wrap64 (x11_2 - 1)) t433 t434 t435 t440 t441 t442)) = some (r1, r2) := H
          have A27 := Aside0.mk A270
          clear A270
          by_cases c28 : (IntKind.u64.wrap ((IntKind.u64.wrap (x10_2 * 2)) + (Int.tmod (ji26) 2))) ≥ (IntKind.u64.wrap (a2))
          ·rw [if_pos c28] at H
           have c28b0 : decide ((IntKind.u64.wrap (a2)) ≤ (IntKind.u64.wrap ((IntKind.u64.wrap (x10_2 * 2)) + (Int.tmod (ji26) 2)))) = true := decide_eq_true c28
           clear c28
           have H' := Aside0.mk H
           clear H
           have hnb29 := NB436_437.out
           have hnc29 := NB437_436.out
           have hcz30_0 : wr.cell? ⟨gb436, 0, none⟩ = some (.bool t433) := (blk_cell BK436.out 0).trans rfl
           have hcz30_1 : wr.cell? ⟨gb436, 1, none⟩ = some (.int .u64 t434) := (blk_cell BK436.out 1).trans rfl
           have hcz30_2 : wr.cell? ⟨gb436, 2, none⟩ = some (.int .u64 t435) := (blk_cell BK436.out 2).trans rfl
           have hfz30_0 := blk_frozen BK436.out 0
           have hfz30_1 := blk_frozen BK436.out 1
           have hfz30_2 := blk_frozen BK436.out 2
           have hcz31_0 : wr.cell? ⟨gb437, 0, none⟩ = some (.bool x438000_2) := (blk_cell BK437.out 0).trans rfl
           have hcz31_1 : wr.cell? ⟨gb437, 1, none⟩ = some (.int .u64 x438001_2) := (blk_cell BK437.out 1).trans rfl
           have hcz31_2 : wr.cell? ⟨gb437, 2, none⟩ = some (.int .u64 x438002_2) := (blk_cell BK437.out 2).trans rfl
           have hfz31_0 := blk_frozen BK437.out 0
           have hfz31_1 := blk_frozen BK437.out 1
           have hfz31_2 := blk_frozen BK437.out 2
           go_wp2_with (first | ((with_reducible refine gate_callee (f := 40) rfl ?_); refine goesL_ (some 55) rfl rfl Tryd.func40 (by kernel_rfl) rfl #[.agg #[.bool x438000_2, .int .u64 x438001_2, .int .u64 x438002_2], .agg #[.bool x438000_2, .int .u64 x438001_2, .int .u64 x438002_2]] rfl (by (try simp only [List.map_toArray, List.map_cons, List.map_nil]); first | done | rfl | (simp only [List.length_drop, List.length_take]; rfl)) ?_; (with_reducible refine (gangerref01_plus.calls x438000_2 x438001_2 x438002_2 x438000_2 x438001_2 x438002_2 t440 t441 t442 _ A27.out).mono ?_); rintro e w32 ⟨rfl, hb⟩; refine ⟨_, rfl, ?_⟩; have n0_ := Aside0.mk (blk_below (g := gb436) (o := .cells #[.bool t433, .int .u64 t434, .int .u64 t435] 72 (0, 0)) (by (with_reducible repeat (first | refine blk_drewN ?_ _ | refine blk_drew ?_ | refine blk_alloc ?_ _)); exact BK436.out) hb); have n1_ := Aside0.mk (blk_below (g := gb437) (o := .cells #[.bool x438000_2, .int .u64 x438001_2, .int .u64 x438002_2] 72 (0, 0)) (by (with_reducible repeat (first | refine blk_drewN ?_ _ | refine blk_drew ?_ | refine blk_alloc ?_ _)); exact BK437.out) hb); have n2_ := Aside0.mk (below_step (by repeat (first | (with_reducible first | exact HB.out | apply below_alloc | apply pw_below_drewN | apply below_drew1 | refine below_set ?_ GE436.out | refine below_set ?_ GE437.out) | exact HB.out)) hb); clear BK436; clear BK437; clear HB; have BK436 := n0_; have BK437 := n1_; have HB := n2_; clear n0_ n1_ n2_; (try clear hb); (try clear hb2); (try clear hk); (try clear hi); have hcz33_0 : w32.cell? ⟨gb437, 0, none⟩ = some (.bool x438000_2) := (blk_cell BK437.out 0).trans rfl; have hcz33_1 : w32.cell? ⟨gb437, 1, none⟩ = some (.int .u64 x438001_2) := (blk_cell BK437.out 1).trans rfl; have hcz33_2 : w32.cell? ⟨gb437, 2, none⟩ = some (.int .u64 x438002_2) := (blk_cell BK437.out 2).trans rfl; have hfz33_0 := blk_frozen BK437.out 0; have hfz33_1 := blk_frozen BK437.out 1; have hfz33_2 := blk_frozen BK437.out 2))
           go_roundg k2
           case measure => have := HJ3.out; have := HK2.out; omega
           case rel => exact ⟨(IntKind.u64.wrap ((IntKind.u64.wrap ((IntKind.u64.wrap (x10_2 * 2)) + (Int.tmod (ji26) 2))) - (IntKind.u64.wrap (a2)))), (wrap64 (x11_2 - 1)), (t440), (t441), (IntKind.u64.wrap (t442 + 1)), (by first | rfl | (simp; done) | (simp only [← hji26] <;> (first | rfl | simp)) | (simp [*]; done)), (by first | rfl | (simp; done) | (simp [*]; done)), H', ⟨by have := HJ3.out; have := HK2.out; omega⟩, ⟨by (with_reducible repeat (first | refine blk_drewN ?_ _ | refine blk_drew ?_ | refine blk_alloc ?_ _)); refine blk_far ?_ NB436_437.out _; (with_reducible repeat (first | refine blk_drewN ?_ _ | refine blk_drew ?_ | refine blk_alloc ?_ _)); refine blk_far ?_ NB436_437.out _; (with_reducible repeat (first | refine blk_drewN ?_ _ | refine blk_drew ?_ | refine blk_alloc ?_ _)); refine blk_far ?_ NB436_437.out _; (with_reducible repeat (first | refine blk_drewN ?_ _ | refine blk_drew ?_ | refine blk_alloc ?_ _)); refine blk_far ?_ NB436_437.out _; (with_reducible repeat (first | refine blk_drewN ?_ _ | refine blk_drew ?_ | refine blk_alloc ?_ _)); exact BK436.out⟩, ⟨by (with_reducible repeat (first | refine blk_drewN ?_ _ | refine blk_drew ?_ | refine blk_alloc ?_ _)); refine blk_put (cs := #[.bool t440, .int .u64 t441, .int .u64 t442]) ?_ 2 _ rfl; (with_reducible repeat (first | refine blk_drewN ?_ _ | refine blk_drew ?_ | refine blk_alloc ?_ _)); refine blk_put (cs := #[.bool t440, .int .u64 t441, .int .u64 x438002_2]) ?_ 2 _ rfl; (with_reducible repeat (first | refine blk_drewN ?_ _ | refine blk_drew ?_ | refine blk_alloc ?_ _)); refine blk_put (cs := #[.bool t440, .int .u64 x438001_2, .int .u64 x438002_2]) ?_ 1 _ rfl; (with_reducible repeat (first | refine blk_drewN ?_ _ | refine blk_drew ?_ | refine blk_alloc ?_ _)); refine blk_put (cs := #[.bool x438000_2, .int .u64 x438001_2, .int .u64 x438002_2]) ?_ 0 _ rfl; (with_reducible repeat (first | refine blk_drewN ?_ _ | refine blk_drew ?_ | refine blk_alloc ?_ _)); exact BK437.out⟩, ⟨by repeat (first | (with_reducible first | exact HB.out | apply below_alloc | apply pw_below_drewN | apply below_drew1 | refine below_set ?_ GE436.out | refine below_set ?_ GE437.out) | exact HB.out)⟩⟩
          ·rw [if_neg c28] at H
           have c28b0 : decide ((IntKind.u64.wrap (a2)) ≤ (IntKind.u64.wrap ((IntKind.u64.wrap (x10_2 * 2)) + (Int.tmod (ji26) 2)))) = false := decide_eq_false c28
           clear c28
           have H' := Aside0.mk H
           clear H
           have hnb34 := NB436_437.out
           have hnc34 := NB437_436.out
           have hcz35_0 : wr.cell? ⟨gb436, 0, none⟩ = some (.bool t433) := (blk_cell BK436.out 0).trans rfl
           have hcz35_1 : wr.cell? ⟨gb436, 1, none⟩ = some (.int .u64 t434) := (blk_cell BK436.out 1).trans rfl
           have hcz35_2 : wr.cell? ⟨gb436, 2, none⟩ = some (.int .u64 t435) := (blk_cell BK436.out 2).trans rfl
           have hfz35_0 := blk_frozen BK436.out 0
           have hfz35_1 := blk_frozen BK436.out 1
           have hfz35_2 := blk_frozen BK436.out 2
           have hcz36_0 : wr.cell? ⟨gb437, 0, none⟩ = some (.bool x438000_2) := (blk_cell BK437.out 0).trans rfl
           have hcz36_1 : wr.cell? ⟨gb437, 1, none⟩ = some (.int .u64 x438001_2) := (blk_cell BK437.out 1).trans rfl
           have hcz36_2 : wr.cell? ⟨gb437, 2, none⟩ = some (.int .u64 x438002_2) := (blk_cell BK437.out 2).trans rfl
           have hfz36_0 := blk_frozen BK437.out 0
           have hfz36_1 := blk_frozen BK437.out 1
           have hfz36_2 := blk_frozen BK437.out 2
           go_wp2_with (first | ((with_reducible refine gate_callee (f := 40) rfl ?_); refine goesL_ (some 55) rfl rfl Tryd.func40 (by kernel_rfl) rfl #[.agg #[.bool x438000_2, .int .u64 x438001_2, .int .u64 x438002_2], .agg #[.bool x438000_2, .int .u64 x438001_2, .int .u64 x438002_2]] rfl (by (try simp only [List.map_toArray, List.map_cons, List.map_nil]); first | done | rfl | (simp only [List.length_drop, List.length_take]; rfl)) ?_; (with_reducible refine (gangerref01_plus.calls x438000_2 x438001_2 x438002_2 x438000_2 x438001_2 x438002_2 t440 t441 t442 _ A27.out).mono ?_); rintro e w37 ⟨rfl, hb⟩; refine ⟨_, rfl, ?_⟩; have n0_ := Aside0.mk (blk_below (g := gb436) (o := .cells #[.bool t433, .int .u64 t434, .int .u64 t435] 72 (0, 0)) (by (with_reducible repeat (first | refine blk_drewN ?_ _ | refine blk_drew ?_ | refine blk_alloc ?_ _)); exact BK436.out) hb); have n1_ := Aside0.mk (blk_below (g := gb437) (o := .cells #[.bool x438000_2, .int .u64 x438001_2, .int .u64 x438002_2] 72 (0, 0)) (by (with_reducible repeat (first | refine blk_drewN ?_ _ | refine blk_drew ?_ | refine blk_alloc ?_ _)); exact BK437.out) hb); have n2_ := Aside0.mk (below_step (by repeat (first | (with_reducible first | exact HB.out | apply below_alloc | apply pw_below_drewN | apply below_drew1 | refine below_set ?_ GE436.out | refine below_set ?_ GE437.out) | exact HB.out)) hb); clear BK436; clear BK437; clear HB; have BK436 := n0_; have BK437 := n1_; have HB := n2_; clear n0_ n1_ n2_; (try clear hb); (try clear hb2); (try clear hk); (try clear hi); have hcz38_0 : w37.cell? ⟨gb437, 0, none⟩ = some (.bool x438000_2) := (blk_cell BK437.out 0).trans rfl; have hcz38_1 : w37.cell? ⟨gb437, 1, none⟩ = some (.int .u64 x438001_2) := (blk_cell BK437.out 1).trans rfl; have hcz38_2 : w37.cell? ⟨gb437, 2, none⟩ = some (.int .u64 x438002_2) := (blk_cell BK437.out 2).trans rfl; have hfz38_0 := blk_frozen BK437.out 0; have hfz38_1 := blk_frozen BK437.out 1; have hfz38_2 := blk_frozen BK437.out 2))
           go_roundg k2
           case measure => have := HJ3.out; have := HK2.out; omega
           case rel => exact ⟨(IntKind.u64.wrap ((IntKind.u64.wrap (x10_2 * 2)) + (Int.tmod (ji26) 2))), (wrap64 (x11_2 - 1)), (t440), (t441), (t442), (by first | rfl | (simp; done) | (simp only [← hji26] <;> (first | rfl | simp)) | (simp [*]; done)), (by first | rfl | (simp; done) | (simp [*]; done)), H', ⟨by have := HJ3.out; have := HK2.out; omega⟩, ⟨by (with_reducible repeat (first | refine blk_drewN ?_ _ | refine blk_drew ?_ | refine blk_alloc ?_ _)); refine blk_far ?_ NB436_437.out _; (with_reducible repeat (first | refine blk_drewN ?_ _ | refine blk_drew ?_ | refine blk_alloc ?_ _)); refine blk_far ?_ NB436_437.out _; (with_reducible repeat (first | refine blk_drewN ?_ _ | refine blk_drew ?_ | refine blk_alloc ?_ _)); refine blk_far ?_ NB436_437.out _; (with_reducible repeat (first | refine blk_drewN ?_ _ | refine blk_drew ?_ | refine blk_alloc ?_ _)); exact BK436.out⟩, ⟨by (with_reducible repeat (first | refine blk_drewN ?_ _ | refine blk_drew ?_ | refine blk_alloc ?_ _)); refine blk_put (cs := #[.bool t440, .int .u64 t441, .int .u64 x438002_2]) ?_ 2 _ rfl; (with_reducible repeat (first | refine blk_drewN ?_ _ | refine blk_drew ?_ | refine blk_alloc ?_ _)); refine blk_put (cs := #[.bool t440, .int .u64 x438001_2, .int .u64 x438002_2]) ?_ 1 _ rfl; (with_reducible repeat (first | refine blk_drewN ?_ _ | refine blk_drew ?_ | refine blk_alloc ?_ _)); refine blk_put (cs := #[.bool x438000_2, .int .u64 x438001_2, .int .u64 x438002_2]) ?_ 0 _ rfl; (with_reducible repeat (first | refine blk_drewN ?_ _ | refine blk_drew ?_ | refine blk_alloc ?_ _)); exact BK437.out⟩, ⟨by repeat (first | (with_reducible first | exact HB.out | apply below_alloc | apply pw_below_drewN | apply below_drew1 | refine below_set ?_ GE436.out | refine below_set ?_ GE437.out) | exact HB.out)⟩⟩
         ·rw [if_neg c25] at H
          exact absurd H (by simp)
        ·rw [if_neg c23] at H
         have c23b0 : decide (64 ≤ x11_2) = false := decide_eq_false c23
         clear c23
         replace H := Option.bind_eq_some_iff.mp H
         obtain ⟨⟨t443, t444, t445⟩, A390, H⟩ := H
         replace H : (if (IntKind.u64.wrap ((IntKind.u64.wrap (x10_2 * 2)) + (Int.tmod (ji22) 2))) ≥ (IntKind.u64.wrap (a2)) then (gangerref01_MulDiv.l0 k2 a2 (IntKind.u64.wrap ((IntKind.u64.wrap ((IntKind.u64.wrap (x10_2 * 2)) + (Int.tmod (ji22) 2))) - (IntKind.u64.wrap (a2)))) (wrap64 (x11_2 - 1)) t433 t434 t435 t443 t444 (IntKind.u64.wrap (t445 + 1))) else (gangerref01_MulDiv.l0 k2 a2 (IntKind.u64.wrap ((IntKind.u64.wrap (x10_2 * 2)) + (Int.tmod (ji22) 2))) (wrap64 (x11_2 - 1)) t433 t434 t435 t443 t444 t445)) = some (r1, r2) := H
         have A39 := Aside0.mk A390
         clear A390
         by_cases c40 : (IntKind.u64.wrap ((IntKind.u64.wrap (x10_2 * 2)) + (Int.tmod (ji22) 2))) ≥ (IntKind.u64.wrap (a2))
         ·rw [if_pos c40] at H
          have c40b0 : decide ((IntKind.u64.wrap (a2)) ≤ (IntKind.u64.wrap ((IntKind.u64.wrap (x10_2 * 2)) + (Int.tmod (ji22) 2)))) = true := decide_eq_true c40
          clear c40
          have H' := Aside0.mk H
          clear H
          have hnb41 := NB436_437.out
          have hnc41 := NB437_436.out
          have hcz42_0 : wr.cell? ⟨gb436, 0, none⟩ = some (.bool t433) := (blk_cell BK436.out 0).trans rfl
          have hcz42_1 : wr.cell? ⟨gb436, 1, none⟩ = some (.int .u64 t434) := (blk_cell BK436.out 1).trans rfl
          have hcz42_2 : wr.cell? ⟨gb436, 2, none⟩ = some (.int .u64 t435) := (blk_cell BK436.out 2).trans rfl
          have hfz42_0 := blk_frozen BK436.out 0
          have hfz42_1 := blk_frozen BK436.out 1
          have hfz42_2 := blk_frozen BK436.out 2
          have hcz43_0 : wr.cell? ⟨gb437, 0, none⟩ = some (.bool x438000_2) := (blk_cell BK437.out 0).trans rfl
          have hcz43_1 : wr.cell? ⟨gb437, 1, none⟩ = some (.int .u64 x438001_2) := (blk_cell BK437.out 1).trans rfl
          have hcz43_2 : wr.cell? ⟨gb437, 2, none⟩ = some (.int .u64 x438002_2) := (blk_cell BK437.out 2).trans rfl
          have hfz43_0 := blk_frozen BK437.out 0
          have hfz43_1 := blk_frozen BK437.out 1
          have hfz43_2 := blk_frozen BK437.out 2
          go_wp2_with (first | ((with_reducible refine gate_callee (f := 40) rfl ?_); refine goesL_ (some 55) rfl rfl Tryd.func40 (by kernel_rfl) rfl #[.agg #[.bool x438000_2, .int .u64 x438001_2, .int .u64 x438002_2], .agg #[.bool x438000_2, .int .u64 x438001_2, .int .u64 x438002_2]] rfl (by (try simp only [List.map_toArray, List.map_cons, List.map_nil]); first | done | rfl | (simp only [List.length_drop, List.length_take]; rfl)) ?_; (with_reducible refine (gangerref01_plus.calls x438000_2 x438001_2 x438002_2 x438000_2 x438001_2 x438002_2 t443 t444 t445 _ A39.out).mono ?_); rintro e w44 ⟨rfl, hb⟩; refine ⟨_, rfl, ?_⟩; have n0_ := Aside0.mk (blk_below (g := gb436) (o := .cells #[.bool t433, .int .u64 t434, .int .u64 t435] 72 (0, 0)) (by (with_reducible repeat (first | refine blk_drewN ?_ _ | refine blk_drew ?_ | refine blk_alloc ?_ _)); exact BK436.out) hb); have n1_ := Aside0.mk (blk_below (g := gb437) (o := .cells #[.bool x438000_2, .int .u64 x438001_2, .int .u64 x438002_2] 72 (0, 0)) (by (with_reducible repeat (first | refine blk_drewN ?_ _ | refine blk_drew ?_ | refine blk_alloc ?_ _)); exact BK437.out) hb); have n2_ := Aside0.mk (below_step (by repeat (first | (with_reducible first | exact HB.out | apply below_alloc | apply pw_below_drewN | apply below_drew1 | refine below_set ?_ GE436.out | refine below_set ?_ GE437.out) | exact HB.out)) hb); clear BK436; clear BK437; clear HB; have BK436 := n0_; have BK437 := n1_; have HB := n2_; clear n0_ n1_ n2_; (try clear hb); (try clear hb2); (try clear hk); (try clear hi); have hcz45_0 : w44.cell? ⟨gb437, 0, none⟩ = some (.bool x438000_2) := (blk_cell BK437.out 0).trans rfl; have hcz45_1 : w44.cell? ⟨gb437, 1, none⟩ = some (.int .u64 x438001_2) := (blk_cell BK437.out 1).trans rfl; have hcz45_2 : w44.cell? ⟨gb437, 2, none⟩ = some (.int .u64 x438002_2) := (blk_cell BK437.out 2).trans rfl; have hfz45_0 := blk_frozen BK437.out 0; have hfz45_1 := blk_frozen BK437.out 1; have hfz45_2 := blk_frozen BK437.out 2))
          go_roundg k2
          case measure => have := HJ3.out; have := HK2.out; omega
          case rel => exact ⟨(IntKind.u64.wrap ((IntKind.u64.wrap ((IntKind.u64.wrap (x10_2 * 2)) + (Int.tmod (ji22) 2))) - (IntKind.u64.wrap (a2)))), (wrap64 (x11_2 - 1)), (t443), (t444), (IntKind.u64.wrap (t445 + 1)), (by first | rfl | (simp; done) | (simp only [← hji22] <;> (first | rfl | simp)) | (simp [*]; done)), (by first | rfl | (simp; done) | (simp [*]; done)), H', ⟨by have := HJ3.out; have := HK2.out; omega⟩, ⟨by (with_reducible repeat (first | refine blk_drewN ?_ _ | refine blk_drew ?_ | refine blk_alloc ?_ _)); refine blk_far ?_ NB436_437.out _; (with_reducible repeat (first | refine blk_drewN ?_ _ | refine blk_drew ?_ | refine blk_alloc ?_ _)); refine blk_far ?_ NB436_437.out _; (with_reducible repeat (first | refine blk_drewN ?_ _ | refine blk_drew ?_ | refine blk_alloc ?_ _)); refine blk_far ?_ NB436_437.out _; (with_reducible repeat (first | refine blk_drewN ?_ _ | refine blk_drew ?_ | refine blk_alloc ?_ _)); refine blk_far ?_ NB436_437.out _; (with_reducible repeat (first | refine blk_drewN ?_ _ | refine blk_drew ?_ | refine blk_alloc ?_ _)); exact BK436.out⟩, ⟨by (with_reducible repeat (first | refine blk_drewN ?_ _ | refine blk_drew ?_ | refine blk_alloc ?_ _)); refine blk_put (cs := #[.bool t443, .int .u64 t444, .int .u64 t445]) ?_ 2 _ rfl; (with_reducible repeat (first | refine blk_drewN ?_ _ | refine blk_drew ?_ | refine blk_alloc ?_ _)); refine blk_put (cs := #[.bool t443, .int .u64 t444, .int .u64 x438002_2]) ?_ 2 _ rfl; (with_reducible repeat (first | refine blk_drewN ?_ _ | refine blk_drew ?_ | refine blk_alloc ?_ _)); refine blk_put (cs := #[.bool t443, .int .u64 x438001_2, .int .u64 x438002_2]) ?_ 1 _ rfl; (with_reducible repeat (first | refine blk_drewN ?_ _ | refine blk_drew ?_ | refine blk_alloc ?_ _)); refine blk_put (cs := #[.bool x438000_2, .int .u64 x438001_2, .int .u64 x438002_2]) ?_ 0 _ rfl; (with_reducible repeat (first | refine blk_drewN ?_ _ | refine blk_drew ?_ | refine blk_alloc ?_ _)); exact BK437.out⟩, ⟨by repeat (first | (with_reducible first | exact HB.out | apply below_alloc | apply pw_below_drewN | apply below_drew1 | refine below_set ?_ GE436.out | refine below_set ?_ GE437.out) | exact HB.out)⟩⟩
         ·rw [if_neg c40] at H
          have c40b0 : decide ((IntKind.u64.wrap (a2)) ≤ (IntKind.u64.wrap ((IntKind.u64.wrap (x10_2 * 2)) + (Int.tmod (ji22) 2)))) = false := decide_eq_false c40
          clear c40
          have H' := Aside0.mk H
          clear H
          have hnb46 := NB436_437.out
          have hnc46 := NB437_436.out
          have hcz47_0 : wr.cell? ⟨gb436, 0, none⟩ = some (.bool t433) := (blk_cell BK436.out 0).trans rfl
          have hcz47_1 : wr.cell? ⟨gb436, 1, none⟩ = some (.int .u64 t434) := (blk_cell BK436.out 1).trans rfl
          have hcz47_2 : wr.cell? ⟨gb436, 2, none⟩ = some (.int .u64 t435) := (blk_cell BK436.out 2).trans rfl
          have hfz47_0 := blk_frozen BK436.out 0
          have hfz47_1 := blk_frozen BK436.out 1
          have hfz47_2 := blk_frozen BK436.out 2
          have hcz48_0 : wr.cell? ⟨gb437, 0, none⟩ = some (.bool x438000_2) := (blk_cell BK437.out 0).trans rfl
          have hcz48_1 : wr.cell? ⟨gb437, 1, none⟩ = some (.int .u64 x438001_2) := (blk_cell BK437.out 1).trans rfl
          have hcz48_2 : wr.cell? ⟨gb437, 2, none⟩ = some (.int .u64 x438002_2) := (blk_cell BK437.out 2).trans rfl
          have hfz48_0 := blk_frozen BK437.out 0
          have hfz48_1 := blk_frozen BK437.out 1
          have hfz48_2 := blk_frozen BK437.out 2
          go_wp2_with (first | ((with_reducible refine gate_callee (f := 40) rfl ?_); refine goesL_ (some 55) rfl rfl Tryd.func40 (by kernel_rfl) rfl #[.agg #[.bool x438000_2, .int .u64 x438001_2, .int .u64 x438002_2], .agg #[.bool x438000_2, .int .u64 x438001_2, .int .u64 x438002_2]] rfl (by (try simp only [List.map_toArray, List.map_cons, List.map_nil]); first | done | rfl | (simp only [List.length_drop, List.length_take]; rfl)) ?_; (with_reducible refine (gangerref01_plus.calls x438000_2 x438001_2 x438002_2 x438000_2 x438001_2 x438002_2 t443 t444 t445 _ A39.out).mono ?_); rintro e w49 ⟨rfl, hb⟩; refine ⟨_, rfl, ?_⟩; have n0_ := Aside0.mk (blk_below (g := gb436) (o := .cells #[.bool t433, .int .u64 t434, .int .u64 t435] 72 (0, 0)) (by (with_reducible repeat (first | refine blk_drewN ?_ _ | refine blk_drew ?_ | refine blk_alloc ?_ _)); exact BK436.out) hb); have n1_ := Aside0.mk (blk_below (g := gb437) (o := .cells #[.bool x438000_2, .int .u64 x438001_2, .int .u64 x438002_2] 72 (0, 0)) (by (with_reducible repeat (first | refine blk_drewN ?_ _ | refine blk_drew ?_ | refine blk_alloc ?_ _)); exact BK437.out) hb); have n2_ := Aside0.mk (below_step (by repeat (first | (with_reducible first | exact HB.out | apply below_alloc | apply pw_below_drewN | apply below_drew1 | refine below_set ?_ GE436.out | refine below_set ?_ GE437.out) | exact HB.out)) hb); clear BK436; clear BK437; clear HB; have BK436 := n0_; have BK437 := n1_; have HB := n2_; clear n0_ n1_ n2_; (try clear hb); (try clear hb2); (try clear hk); (try clear hi); have hcz50_0 : w49.cell? ⟨gb437, 0, none⟩ = some (.bool x438000_2) := (blk_cell BK437.out 0).trans rfl; have hcz50_1 : w49.cell? ⟨gb437, 1, none⟩ = some (.int .u64 x438001_2) := (blk_cell BK437.out 1).trans rfl; have hcz50_2 : w49.cell? ⟨gb437, 2, none⟩ = some (.int .u64 x438002_2) := (blk_cell BK437.out 2).trans rfl; have hfz50_0 := blk_frozen BK437.out 0; have hfz50_1 := blk_frozen BK437.out 1; have hfz50_2 := blk_frozen BK437.out 2))
          go_roundg k2
          case measure => have := HJ3.out; have := HK2.out; omega
          case rel => exact ⟨(IntKind.u64.wrap ((IntKind.u64.wrap (x10_2 * 2)) + (Int.tmod (ji22) 2))), (wrap64 (x11_2 - 1)), (t443), (t444), (t445), (by first | rfl | (simp; done) | (simp only [← hji22] <;> (first | rfl | simp)) | (simp [*]; done)), (by first | rfl | (simp; done) | (simp [*]; done)), H', ⟨by have := HJ3.out; have := HK2.out; omega⟩, ⟨by (with_reducible repeat (first | refine blk_drewN ?_ _ | refine blk_drew ?_ | refine blk_alloc ?_ _)); refine blk_far ?_ NB436_437.out _; (with_reducible repeat (first | refine blk_drewN ?_ _ | refine blk_drew ?_ | refine blk_alloc ?_ _)); refine blk_far ?_ NB436_437.out _; (with_reducible repeat (first | refine blk_drewN ?_ _ | refine blk_drew ?_ | refine blk_alloc ?_ _)); refine blk_far ?_ NB436_437.out _; (with_reducible repeat (first | refine blk_drewN ?_ _ | refine blk_drew ?_ | refine blk_alloc ?_ _)); exact BK436.out⟩, ⟨by (with_reducible repeat (first | refine blk_drewN ?_ _ | refine blk_drew ?_ | refine blk_alloc ?_ _)); refine blk_put (cs := #[.bool t443, .int .u64 t444, .int .u64 x438002_2]) ?_ 2 _ rfl; (with_reducible repeat (first | refine blk_drewN ?_ _ | refine blk_drew ?_ | refine blk_alloc ?_ _)); refine blk_put (cs := #[.bool t443, .int .u64 x438001_2, .int .u64 x438002_2]) ?_ 1 _ rfl; (with_reducible repeat (first | refine blk_drewN ?_ _ | refine blk_drew ?_ | refine blk_alloc ?_ _)); refine blk_put (cs := #[.bool x438000_2, .int .u64 x438001_2, .int .u64 x438002_2]) ?_ 0 _ rfl; (with_reducible repeat (first | refine blk_drewN ?_ _ | refine blk_drew ?_ | refine blk_alloc ?_ _)); exact BK437.out⟩, ⟨by repeat (first | (with_reducible first | exact HB.out | apply below_alloc | apply pw_below_drewN | apply below_drew1 | refine below_set ?_ GE436.out | refine below_set ?_ GE437.out) | exact HB.out)⟩⟩
       ·rw [if_neg c21] at H
        exact absurd H (by simp)
      ·rw [if_neg c19] at H
       have c19b0 : decide (0 ≤ x11_2) = false := decide_eq_false c19
       clear c19
       replace H := Option.bind_eq_some_iff.mp H
       obtain ⟨⟨t438, t439⟩, A510, H⟩ := H
       replace H : (some (t438, t439)) = some (r1, r2) := H
       have A51 := Aside0.mk A510
       clear A510
       simp only [Option.some.injEq, Prod.mk.injEq] at H
       obtain ⟨rfl, rfl⟩ := H
       have hnb52 := NB437_436.out
       have hnc52 := NB436_437.out
       have hcz53_0 : wr.cell? ⟨gb437, 0, none⟩ = some (.bool x438000_2) := (blk_cell BK437.out 0).trans rfl
       have hcz53_1 : wr.cell? ⟨gb437, 1, none⟩ = some (.int .u64 x438001_2) := (blk_cell BK437.out 1).trans rfl
       have hcz53_2 : wr.cell? ⟨gb437, 2, none⟩ = some (.int .u64 x438002_2) := (blk_cell BK437.out 2).trans rfl
       have hfz53_0 := blk_frozen BK437.out 0
       have hfz53_1 := blk_frozen BK437.out 1
       have hfz53_2 := blk_frozen BK437.out 2
       go_wp2_with (first | ((with_reducible refine gate_callee (f := 41) rfl ?_); refine goesL_ (some 69) rfl rfl Tryd.func41 (by kernel_rfl) rfl #[.agg #[.bool x438000_2, .int .u64 x438001_2, .int .u64 x438002_2]] rfl (by (try simp only [List.map_toArray, List.map_cons, List.map_nil]); first | done | rfl | (simp only [List.length_drop, List.length_take]; rfl)) ?_; (with_reducible refine (gangerref01_told.calls k2 x438000_2 x438001_2 x438002_2 t438 t439 _ A51.out).mono ?_); rintro e w54 ⟨rfl, hb⟩; refine ⟨_, rfl, ?_⟩; have n0_ := Aside0.mk (blk_below (g := gb436) (o := .cells #[.bool t433, .int .u64 t434, .int .u64 t435] 72 (0, 0)) (by (with_reducible repeat (first | refine blk_drewN ?_ _ | refine blk_drew ?_ | refine blk_alloc ?_ _)); exact BK436.out) hb); have n1_ := Aside0.mk (blk_below (g := gb437) (o := .cells #[.bool x438000_2, .int .u64 x438001_2, .int .u64 x438002_2] 72 (0, 0)) (by (with_reducible repeat (first | refine blk_drewN ?_ _ | refine blk_drew ?_ | refine blk_alloc ?_ _)); exact BK437.out) hb); have n2_ := Aside0.mk (below_step (by repeat (first | (with_reducible first | exact HB.out | apply below_alloc | apply pw_below_drewN | apply below_drew1 | refine below_set ?_ GE436.out | refine below_set ?_ GE437.out) | exact HB.out)) hb); clear BK436; clear BK437; clear HB; have BK436 := n0_; have BK437 := n1_; have HB := n2_; clear n0_ n1_ n2_; (try clear hb); (try clear hb2); (try clear hk); (try clear hi)))
       go_ret2
       exact ⟨by first | rfl | (simp [errW_none, errW_some] <;> rfl) | (simp [*, errW_none, errW_some] <;> rfl), by repeat (first | (with_reducible first | exact HB.out | apply below_alloc | apply pw_below_drewN | apply below_drew1 | refine below_set ?_ GE436.out | refine below_set ?_ GE437.out) | exact HB.out)⟩
def gangerref11_Parts.l0 : Nat → List Int → List Int → Int → Option (List Int × Int)
 | 0, _, _, _ => none
 | k + 1, x6, x8, x9 => if x9 < (x6.length : Int) then (if 0 < (x6.length : Int) then (if (rd x6 0) = 0 then (if x8.length < 17592186044416 then (gangerref11_Parts.l0 k x6 (x8 ++ [0]) (wrap64 (x9 + 1))) else (none)) else (if 0 ≤ x9 then ((gangerref01_MulDiv.f k (rd x6 x9) 65536 (rd x6 0)).bind fun bt456 => (if x8.length < 17592186044416 then (gangerref11_Parts.l0 k x6 (x8 ++ [bt456.1]) (wrap64 (x9 + 1))) else (none))) else (none))) else (none)) else (some (x8, 0))
def gangerref11_Parts.f (k : Nat) (l0 : List (S37)) (l1 : List Int) : Option (List Int × Int) := (gangerref11_Sums.f k l0 l1).bind fun bt446 => (if bt446.2 = 0 then (gangerref11_Parts.l0 k bt446.1 ([] : List Int) 0) else (some (([] : List Int), bt446.2)))
def gangerref11_Parts.T10 : Bool × List (List Nat × List Nat) := (true, [([], []), ([], []), ([0, 1], [0, 1]), ([2], [2]), ([], []), ([4], [4]), ([5], [5]), ([3, 6], [3, 6]), ([7], [7]), ([8], [8]), ([8], [8]), ([9, 7, 0, 1, 2, 3, 4, 5, 6, 7, 8, 9], [9])])
def gangerref11_Parts.B10 : List Nat := [0, 0, 3, 7, 0, 16, 48, 127, 255, 511, 511, 1023]
theorem gangerref11_Parts.tab10 : rtab .any (opsOf Tryd.f19 10) = gangerref11_Parts.T10 := by kernel_rfl
theorem gangerref11_Parts.bits10 : waitsOk gangerref11_Parts.T10.2 gangerref11_Parts.B10 = true := by kernel_rfl
set_option maxHeartbeats 8000000 in
set_option maxRecDepth 100000 in
theorem gangerref11_Parts.calls (k : Nat) (A0 : Option Addr) (c0 : Nat) (l0 : List (S37)) (A1 : Option Addr) (c1 : Nat) (l1 : List Int) (r1 : List Int) (r2 : Int) (w : World) (hr0 : Kd.C k37 w A0 l0.length l0) (hc0 : l0.length ≤ c0) (hr1 : Kd.C (Kd.int .i64) w A1 l1.length l1) (hc1 : l1.length ≤ c1) (h : gangerref11_Parts.f k l0 l1 = some (r1, r2)) :
  Calls Tryd.prog 19 #[.slice A0 l0.length c0, .slice A1 l1.length c1] w fun e w' => ∃ v0_ : Value, e = .returned (.tuple #[v0_, .int .i64 r2]) ∧ Kd.R (Kd.int .i64) 3 w' w.heap.size (fun _ => True) v0_ r1 ∧ Below w.heap.size w w' := by
 have HR0 := Aside0.mk hr0
 have HC0 := Aside0.mk hc0
 clear hr0 hc0
 have HR1 := Aside0.mk hr1
 have HC1 := Aside0.mk hc1
 clear hr1 hc1
 have HB := Aside0.mk (Below.refl w.heap.size w)
 have H : ((gangerref11_Sums.f k l0 l1).bind fun bt446 => (if bt446.2 = 0 then (gangerref11_Parts.l0 k bt446.1 ([] : List Int) 0) else (some (([] : List Int), bt446.2)))) = some (r1, r2) := h
 clear h
 replace H := Option.bind_eq_some_iff.mp H
 obtain ⟨⟨t446, t447⟩, A30, H⟩ := H
 replace H : (if t447 = 0 then (gangerref11_Parts.l0 k t446 ([] : List Int) 0) else (some (([] : List Int), t447))) = some (r1, r2) := H
 have A3 := Aside0.mk A30
 clear A30
 by_cases c4 : t447 = 0
 ·rw [if_pos c4] at H
  have c4b0 : (t447 == 0) = true := beq_iff_eq.mpr c4
  have c4b1 : (t447 != 0) = false := bne_eq_false_iff_eq.mpr c4
  clear c4
  have H' := Aside0.mk H
  clear H
  go_enter Tryd.func19, Tryd.ntmps19
  go_wp2_with (first | ((with_reducible refine gate_callee (f := 14) rfl ?_); refine goesL_ (some 14) rfl rfl Tryd.func14 (by kernel_rfl) rfl #[.slice A0 l0.length c0, .slice A1 l1.length c1] rfl (by (try simp only [List.map_toArray, List.map_cons, List.map_nil]); first | done | rfl | (simp only [List.length_drop, List.length_take]; rfl)) ?_; (with_reducible refine (gangerref11_Sums.calls k _ _ l0 _ _ l1 t446 t447 _ ?side1 ?side2 ?side3 ?side4 A3.out).mono ?_); (case side1 => repeat (first | exact HR0.out | (with_reducible refine Kd.C_alloc ?_ _) | (with_reducible refine Kd.C_drewN ?_ _) | (with_reducible refine Kd.C_drew ?_))); (case side2 => exact HC0.out); (case side3 => repeat (first | exact HR1.out | (with_reducible refine Kd.C_alloc ?_ _) | (with_reducible refine Kd.C_drewN ?_ _) | (with_reducible refine Kd.C_drew ?_))); (case side4 => exact HC1.out); rintro e w5 ⟨v448, rfl, ho0, hb⟩; refine ⟨_, rfl, ?_⟩; have n0_ := Aside0.mk (Kd.R_lower ho0 (below_size (by repeat (first | (with_reducible first | exact HB.out | apply below_alloc | apply pw_below_drewN | apply below_drew1) | exact HB.out)))); have n1_ := Aside0.mk (below_step (by repeat (first | (with_reducible first | exact HB.out | apply below_alloc | apply pw_below_drewN | apply below_drew1) | exact HB.out)) hb); clear HB; have HO449 := n0_; have HB := n1_; clear n0_ n1_; (try clear hb); (try clear hb2); (try clear hk); (try clear hi); (try clear ho0)))
  go_loopg [8, 9] k (fun kq v8 v9 w' => ∃ (x8_1 : List Int) (x9_1 : Int), v9 = .int .i64 x9_1 ∧ Aside0 (gangerref11_Parts.l0 kq t446 x8_1 x9_1 = some (r1, r2)) ∧ Aside0 (kq ≤ k) ∧ Aside0 (Kd.R (Kd.int .i64) 3 w' w.heap.size (fun k_ => some k_ ≠ (v8 : Value).ownBlock) v448 t446) ∧ Aside0 (Kd.R (Kd.int .i64) 3 w' w.heap.size (fun k_ => some k_ ≠ (v448 : Value).ownBlock) v8 x8_1) ∧ Aside0 (Below w.heap.size w w'))
  case atStart => exact ⟨(([] : List Int)), (0), (by first | rfl | (simp; done) | (simp [*]; done)), H', ⟨Nat.le_refl _⟩, ⟨by (with_reducible repeat (first | apply Kd.R_alloc | apply Kd.R_drewN | apply Kd.R_drew)); exact Kd.R_mono HO449.out (fun _ hk => (by simp [Value.ownBlock]))⟩, ⟨by first | exact Kd.R_nil _ _ _ _ _ | exact Kd.N_nil _ _ _ _ _ | exact Kd.V_nil _ _ _ _ _ | exact Kd.Q_nil _ _ _ _ _ | exact Kd.S_nil _ _ _ _ _⟩, ⟨by repeat (first | (with_reducible first | exact HB.out | apply below_alloc | apply pw_below_drewN | apply below_drew1) | exact HB.out)⟩⟩
  case round =>
   clear H'
   obtain ⟨x8_1, x9_1, rfl, HA, HK1, HO_6, HO_8, HB⟩ := hrel
   cases gk with
   | zero => exact absurd HA.out (by simp [gangerref11_Parts.l0])
   | succ k1 =>
    have H := HA.out
    clear HA
    simp only [gangerref11_Parts.l0] at H
    by_cases c6 : x9_1 < (t446.length : Int)
    ·rw [if_pos c6] at H
     have c6b0 : decide (x9_1 < (t446.length : Int)) = true := decide_eq_true c6
     clear c6
     by_cases c7 : 0 < (t446.length : Int)
     ·rw [if_pos c7] at H
      have c7b0 : decide (0 < (t446.length : Int)) = true := decide_eq_true c7
      have c7b1 : decide (0 < t446.length) = true := decide_eq_true (by omega)
      clear c7
      by_cases c8 : (rd t446 0) = 0
      ·rw [if_pos c8] at H
       have c8b0 : ((rd t446 0) == 0) = true := beq_iff_eq.mpr c8
       have c8b1 : ((rd t446 0) != 0) = false := bne_eq_false_iff_eq.mpr c8
       clear c8
       by_cases c9 : x8_1.length < 17592186044416
       ·rw [if_pos c9] at H
        have LMc9 := Aside0.mk c9
        clear c9
        obtain ⟨y451, hy451⟩ : ∃ y_ : List Int, y_ = (x8_1 ++ [0]) := ⟨_, rfl⟩
        replace H : (gangerref11_Parts.l0 k1 t446 y451 (wrap64 (x9_1 + 1))) = some (r1, r2) := by first | (rw [hy451]; with_reducible exact H) | (have H2_ := (Option.bind_some _ _).symm.trans H; rw [hy451]; with_reducible exact H2_) | (have H2_ := (Option.bind_some _ _).symm.trans H; with_reducible exact H2_) | with_reducible exact H | (rw [hy451]; exact H) | exact H
        have Ny451 := Aside0.mk hy451
        clear hy451
        have H' := Aside0.mk H
        clear H
        obtain ⟨Ao10, co10, eo10⟩ := Kd.R_slice HO_6.out
        subst eo10
        have p450 : 0 ≤ (0 : Int) := (by omega)
        have q450 : 0 < (t446.length : Int) := of_decide_eq_true (by first | (with_reducible assumption) | assumption)
        obtain ⟨ad450, e450, hx450_0⟩ := Kd.at_int (Kd.R_reads' HO_6.out).2.2 0 p450 q450
        cases e450
        have qi450 : (0 < t446.length) = True := eq_true (by omega)
        (try rw [show ((0 : Int)).toNat = 0 from rfl] at hx450_0)
        (try rw [Addr.add_zero'] at hx450_0)
        replace p450 := eq_true p450
        replace q450 := eq_true q450
        go_wp2_with (first | ((with_reducible refine gate_builtin (b := .append) (xs := #[.tmp 41, .tmp 43]) rfl ?_); at_builtin; refine Kd.R_append (Kd.int .i64) (w0 := w) w.heap.size rfl (.tmp 41) (.tmp 43) 23 3 (.int .i64 0) 8 rfl Tryd.underlying23 info3 rfl (by decide) (by omega) u8 x8_1 0 [.int .i64 0] (fun k_ => some k_ ≠ (.slice (some ad450) t446.length co10 : Value).ownBlock) (fun _ => False) rfl rfl ?aP (fun _ hk => hk.elim) ?aF ?aO ?aB ?aS ?aL ?_; (case aP => exact rfl); (case aB => exact (by repeat (first | (with_reducible first | exact HB.out | apply below_alloc | apply pw_below_drewN | apply below_drew1) | exact HB.out))); (case aF => exact (fun k_ hk => Kd.fresh' (Kd.R_lt (by (with_reducible repeat (first | apply Kd.R_alloc | apply Kd.R_drewN | apply Kd.R_drew)); exact HO_6.out)) k_ hk)); (case aO => exact (by (with_reducible repeat (first | apply Kd.R_alloc | apply Kd.R_drewN | apply Kd.R_drew)); exact HO_8.out)); (case aS => exact (below_size (by repeat (first | (with_reducible first | exact HB.out | apply below_alloc | apply pw_below_drewN | apply below_drew1) | exact HB.out)))); (case aL => have := LMc9.out; omega); intro v452 w11 ho hb hg hat; rw [← Ny451.out] at ho; have n0_ := Aside0.mk (Kd.R_after (ok := (fun _ => True)) (by (with_reducible repeat (first | apply Kd.R_alloc | apply Kd.R_drewN | apply Kd.R_drew)); exact Kd.R_mono HO_6.out (fun _ hk => ⟨trivial, hk⟩)) hg hat); have n1_ := Aside0.mk (hb); have n2_ := Aside0.mk (ho); clear HO_6; clear HB; clear HO_8; have HO_6 := n0_; have HB := n1_; have HO453 := n2_; clear n0_ n1_ n2_; clear ho hb hg hat))
        go_roundg k1
        case measure => have := HK1.out; omega
        case rel => exact ⟨(y451), (wrap64 (x9_1 + 1)), (by first | rfl | (simp; done) | (simp [*]; done)), H', ⟨by have := HK1.out; omega⟩, ⟨by (with_reducible repeat (first | apply Kd.R_alloc | apply Kd.R_drewN | apply Kd.R_drew)); exact Kd.R_mono HO_6.out (fun _ hk => hk.2)⟩, ⟨by (with_reducible repeat (first | apply Kd.R_alloc | apply Kd.R_drewN | apply Kd.R_drew)); exact HO453.out⟩, ⟨by repeat (first | (with_reducible first | exact HB.out | apply below_alloc | apply pw_below_drewN | apply below_drew1) | exact HB.out)⟩⟩
       ·rw [if_neg c9] at H
        exact absurd H (by simp)
      ·rw [if_neg c8] at H
       have c8b0 : ((rd t446 0) == 0) = false := beq_eq_false_iff_ne.mpr c8
       have c8b1 : ((rd t446 0) != 0) = true := bne_iff_ne.mpr c8
       by_cases c12 : 0 ≤ x9_1
       ·rw [if_pos c12] at H
        have c12b0 : decide (0 ≤ x9_1) = true := decide_eq_true c12
        clear c12
        replace H := Option.bind_eq_some_iff.mp H
        obtain ⟨⟨t456, t457⟩, A130, H⟩ := H
        replace H : (if x8_1.length < 17592186044416 then (gangerref11_Parts.l0 k1 t446 (x8_1 ++ [t456]) (wrap64 (x9_1 + 1))) else (none)) = some (r1, r2) := H
        have A13 := Aside0.mk A130
        clear A130
        by_cases c14 : x8_1.length < 17592186044416
        ·rw [if_pos c14] at H
         have LMc14 := Aside0.mk c14
         clear c14
         obtain ⟨y458, hy458⟩ : ∃ y_ : List Int, y_ = (x8_1 ++ [t456]) := ⟨_, rfl⟩
         replace H : (gangerref11_Parts.l0 k1 t446 y458 (wrap64 (x9_1 + 1))) = some (r1, r2) := by first | (rw [hy458]; with_reducible exact H) | (have H2_ := (Option.bind_some _ _).symm.trans H; rw [hy458]; with_reducible exact H2_) | (have H2_ := (Option.bind_some _ _).symm.trans H; with_reducible exact H2_) | with_reducible exact H | (rw [hy458]; exact H) | exact H
         have Ny458 := Aside0.mk hy458
         clear hy458
         have H' := Aside0.mk H
         clear H
         obtain ⟨Ao15, co15, eo15⟩ := Kd.R_slice HO_6.out
         subst eo15
         have p450 : 0 ≤ (0 : Int) := (by omega)
         have q450 : 0 < (t446.length : Int) := of_decide_eq_true (by first | (with_reducible assumption) | assumption)
         obtain ⟨ad450, e450, hx450_0⟩ := Kd.at_int (Kd.R_reads' HO_6.out).2.2 0 p450 q450
         cases e450
         have qi450 : (0 < t446.length) = True := eq_true (by omega)
         (try rw [show ((0 : Int)).toNat = 0 from rfl] at hx450_0)
         (try rw [Addr.add_zero'] at hx450_0)
         replace p450 := eq_true p450
         replace q450 := eq_true q450
         try go_wp2
         have n0_ := Aside0.mk (Kd.R_drew HO_6.out)
         have n1_ := Aside0.mk (Kd.R_drew HO_8.out)
         have n2_ := Aside0.mk (below_drew1 HB.out)
         clear HO_6
         clear HO_8
         clear HB
         have HO_6 := n0_
         have HO_8 := n1_
         have HB := n2_
         clear n0_ n1_ n2_
         have p454 : 0 ≤ (x9_1 : Int) := of_decide_eq_true (by first | (with_reducible assumption) | assumption)
         have q454 : x9_1 < (t446.length : Int) := of_decide_eq_true (by first | (with_reducible assumption) | assumption)
         obtain ⟨ad454, e454, hx454_0⟩ := Kd.at_int (Kd.R_reads' HO_6.out).2.2 x9_1 p454 q454
         obtain rfl : ad450 = ad454 := (by injection e454)
         replace p454 := eq_true p454
         replace q454 := eq_true q454
         have p455 : 0 ≤ (0 : Int) := (by omega)
         have q455 : 0 < (t446.length : Int) := of_decide_eq_true (by first | (with_reducible assumption) | assumption)
         obtain ⟨ad455, e455, hx455_0⟩ := Kd.at_int (Kd.R_reads' HO_6.out).2.2 0 p455 q455
         obtain rfl : ad450 = ad455 := (by injection e455)
         have qi455 : (0 < t446.length) = True := eq_true (by omega)
         (try rw [show ((0 : Int)).toNat = 0 from rfl] at hx455_0)
         (try rw [Addr.add_zero'] at hx455_0)
         replace p455 := eq_true p455
         replace q455 := eq_true q455
         refine start_ (n := 12) (S := fun w' => w'.cell? (ad450.add (x9_1).toNat) = some (.int .i64 (rd t446 x9_1)) ∧ w'.cell? ad450 = some (.int .i64 (rd t446 0))) (ds := []) #[false, false, false, false, false, false, false, false, false, false, false, false] (by kernel_rfl) rfl rfl ⟨hx454_0, hx455_0⟩ (fun hHeld => ?_); refine with_tabW gangerref11_Parts.tab10 gangerref11_Parts.bits10 (fun HT_ HW_ => ?_)
         generalize wr.drew = w16 at HO_6 HO_8 HB hx454_0 hx455_0 hHeld ⊢
         refine pure_ (i := 0) (N := some 31) (v := ?_) (a' := ?_) #[true, false, false, false, false, false, false, false, false, false, false, false] rfl rfl (any_of HT_.out (by kernel_rfl)) (fun _ _ _ h => h) (Or.inl ⟨by rfl, ?_⟩) ?_ ?_
         rotate_left
         ·intro w'
          go_simp
          with_reducible rfl
         rotate_left
         ·simp only [Act.put, List.setIfInBounds_toArray, List.set_cons_zero, List.set_cons_succ, i64_w, i32_w]
          rfl
         refine pure_ (i := 1) (N := some 32) (v := ?_) (a' := ?_) #[true, true, false, false, false, false, false, false, false, false, false, false] rfl rfl (any_of HT_.out (by kernel_rfl)) (fun _ _ _ h => h) (Or.inl ⟨by rfl, ?_⟩) ?_ ?_
         rotate_left
         ·intro w'
          go_simp
          with_reducible rfl
         rotate_left
         ·simp only [Act.put, List.setIfInBounds_toArray, List.set_cons_zero, List.set_cons_succ, i64_w, i32_w]
          rfl
         refine pure_ (i := 2) (N := some 33) (v := ?_) (a' := ?_) #[true, true, true, false, false, false, false, false, false, false, false, false] rfl rfl (any_of HT_.out (by kernel_rfl)) (fun _ _ _ h => h) (Or.inl ⟨by rfl, ?_⟩) ?_ ?_
         rotate_left
         ·intro w'
          go_simp
          with_reducible rfl
         rotate_left
         ·simp only [Act.put, List.setIfInBounds_toArray, List.set_cons_zero, List.set_cons_succ, i64_w, i32_w]
          rfl
         refine pure_ (i := 4) (N := some 35) (v := ?_) (a' := ?_) #[true, true, true, false, true, false, false, false, false, false, false, false] rfl rfl (any_of HT_.out (by kernel_rfl)) (fun _ _ _ h => h) (Or.inl ⟨by rfl, ?_⟩) ?_ ?_
         rotate_left
         ·intro w'
          go_simp
          with_reducible rfl
         rotate_left
         ·simp only [Act.put, List.setIfInBounds_toArray, List.set_cons_zero, List.set_cons_succ, i64_w, i32_w]
          rfl
         refine pure_ (i := 5) (N := some 36) (v := ?_) (a' := ?_) #[true, true, true, false, true, true, false, false, false, false, false, false] rfl rfl (any_of HT_.out (by kernel_rfl)) (fun _ _ _ h => h) (Or.inl ⟨by rfl, ?_⟩) ?_ ?_
         rotate_left
         ·intro w'
          go_simp
          with_reducible rfl
         rotate_left
         ·simp only [Act.put, List.setIfInBounds_toArray, List.set_cons_zero, List.set_cons_succ, i64_w, i32_w]
          rfl
         refine take_ (i := 3) (N := some 34) (v := ?_) (a' := ?_) #[true, true, true, true, true, true, false, false, false, false, false, false] rfl rfl (take_ofW HT_.out HW_.out (by kernel_rfl)) (fun _ _ _ h => h) (Or.inl ⟨by rfl, ?_⟩) hHeld ?_ ?_
         rotate_left
         ·rintro w' ⟨s0, s1⟩
          go_simp
          with_reducible rfl
         rotate_left
         ·simp only [Act.put, List.setIfInBounds_toArray, List.set_cons_zero, List.set_cons_succ, i64_w, i32_w]
          rfl
         refine take_ (i := 6) (N := some 37) (v := ?_) (a' := ?_) #[true, true, true, true, true, true, true, false, false, false, false, false] rfl rfl (take_ofW HT_.out HW_.out (by kernel_rfl)) (fun _ _ _ h => h) (Or.inl ⟨by rfl, ?_⟩) hHeld ?_ ?_
         rotate_left
         ·rintro w' ⟨s0, s1⟩
          go_simp
          with_reducible rfl
         rotate_left
         ·simp only [Act.put, List.setIfInBounds_toArray, List.set_cons_zero, List.set_cons_succ, i64_w, i32_w]
          rfl
         refine one_ (i := 7) (N := some 38) #[true, true, true, true, true, true, true, true, false, false, false, false] rfl rfl (one_of HT_.out (by kernel_rfl)) (by decide) (fun K hK => ?_)
         refine goes_ Tryd.func30 (by kernel_rfl) rfl #[.int .i64 (rd t446 x9_1), .int .i64 65536, .int .i64 (rd t446 0)] (by rfl) rfl rfl (by (try simp only [List.map_toArray, List.map_cons, List.map_nil]); first | done | rfl | (simp only [List.length_drop, List.length_take]; rfl)) ?_
         with_reducible refine (gangerref01_MulDiv.calls k1 (rd t446 x9_1) 65536 (rd t446 0) t456 t457 _ A13.out).mono ?_
         rintro e w17 ⟨rfl, hb⟩
         have HS0_ := (hb.cell (World.block_lt_of_cell? _ _ (hHeld.1))).trans (hHeld.1)
         have HS1_ := (hb.cell (World.block_lt_of_cell? _ _ (hHeld.2))).trans (hHeld.2)
         refine ⟨_, rfl, ?_⟩
         have n0_ := Aside0.mk (Kd.R_below (by (with_reducible repeat (first | apply Kd.R_alloc | apply Kd.R_drewN | apply Kd.R_drew)); exact HO_6.out) hb)
         have n1_ := Aside0.mk (Kd.R_below (by (with_reducible repeat (first | apply Kd.R_alloc | apply Kd.R_drewN | apply Kd.R_drew)); exact HO_8.out) hb)
         have n2_ := Aside0.mk (below_step (by repeat (first | (with_reducible first | exact HB.out | apply below_alloc | apply pw_below_drewN | apply below_drew1) | exact HB.out)) hb)
         clear HO_6
         clear HO_8
         clear HB
         have HO_6 := n0_
         have HO_8 := n1_
         have HB := n2_
         clear n0_ n1_ n2_
         (try clear hb)
         (try clear hb2)
         (try clear hk)
         (try clear hi)
         refine hK.out _ _ ⟨HS0_, HS1_⟩ (fun hHeld => ?_)
         clear hK K
         refine norm_ (a' := ?_) ?_ ?_
         rotate_left
         ·show Act.put _ (some 38) _ = _
          simp only [Act.put, List.setIfInBounds_toArray, List.set_cons_zero, List.set_cons_succ, i64_w, i32_w]
          rfl
         refine pure_ (i := 8) (N := some 30) (v := ?_) (a' := ?_) #[true, true, true, true, true, true, true, true, true, false, false, false] rfl rfl (any_of HT_.out (by kernel_rfl)) (fun _ _ _ h => h) (Or.inl ⟨by rfl, ?_⟩) ?_ ?_
         rotate_left
         ·intro w'
          go_simp
          with_reducible rfl
         rotate_left
         ·simp only [Act.put, List.setIfInBounds_toArray, List.set_cons_zero, List.set_cons_succ, i64_w, i32_w]
          rfl
         refine pure_ (i := 9) (N := some 39) (v := ?_) (a' := ?_) #[true, true, true, true, true, true, true, true, true, true, false, false] rfl rfl (any_of HT_.out (by kernel_rfl)) (fun _ _ _ h => h) (Or.inl ⟨by rfl, ?_⟩) ?_ ?_
         rotate_left
         ·intro w'
          go_simp
          with_reducible rfl
         rotate_left
         ·simp only [Act.put, List.setIfInBounds_toArray, List.set_cons_zero, List.set_cons_succ, i64_w, i32_w]
          rfl
         refine pure_ (i := 10) (N := some 40) (v := ?_) (a' := ?_) #[true, true, true, true, true, true, true, true, true, true, true, false] rfl rfl (any_of HT_.out (by kernel_rfl)) (fun _ _ _ h => h) (Or.inl ⟨by rfl, ?_⟩) ?_ ?_
         rotate_left
         ·intro w'
          go_simp
          with_reducible rfl
         rotate_left
         ·simp only [Act.put, List.setIfInBounds_toArray, List.set_cons_zero, List.set_cons_succ, i64_w, i32_w]
          rfl
         refine pure_ (i := 11) (N := some 10) (v := ?_) (a' := ?_) #[true, true, true, true, true, true, true, true, true, true, true, true] rfl rfl (any_of HT_.out (by kernel_rfl)) (fun _ _ _ h => h) (Or.inl ⟨by rfl, ?_⟩) ?_ ?_
         rotate_left
         ·intro w'
          go_simp
          with_reducible rfl
         rotate_left
         ·simp only [Act.put, List.setIfInBounds_toArray, List.set_cons_zero, List.set_cons_succ, i64_w, i32_w]
          rfl
         refine done_ (done_of HT_.out (by kernel_rfl)) ?_
         try go_wp2_with (first | ((with_reducible refine gate_builtin (b := .append) (xs := #[.tmp 41, .tmp 43]) rfl ?_); at_builtin; refine Kd.R_append (Kd.int .i64) (w0 := w) w.heap.size rfl (.tmp 41) (.tmp 43) 23 3 (.int .i64 0) 8 rfl Tryd.underlying23 info3 rfl (by decide) (by omega) u8 x8_1 t456 [.int .i64 t456] (fun k_ => some k_ ≠ (.slice (some ad450) t446.length co15 : Value).ownBlock) (fun _ => False) rfl rfl ?aP (fun _ hk => hk.elim) ?aF ?aO ?aB ?aS ?aL ?_; (case aP => exact rfl); (case aB => exact (by repeat (first | (with_reducible first | exact HB.out | apply below_alloc | apply pw_below_drewN | apply below_drew1) | exact HB.out))); (case aF => exact (fun k_ hk => Kd.fresh' (Kd.R_lt (by (with_reducible repeat (first | apply Kd.R_alloc | apply Kd.R_drewN | apply Kd.R_drew)); exact HO_6.out)) k_ hk)); (case aO => exact (by (with_reducible repeat (first | apply Kd.R_alloc | apply Kd.R_drewN | apply Kd.R_drew)); exact HO_8.out)); (case aS => exact (below_size (by repeat (first | (with_reducible first | exact HB.out | apply below_alloc | apply pw_below_drewN | apply below_drew1) | exact HB.out)))); (case aL => have := LMc14.out; omega); intro v459 w18 ho hb hg hat; rw [← Ny458.out] at ho; have n0_ := Aside0.mk (Kd.R_after (ok := (fun _ => True)) (by (with_reducible repeat (first | apply Kd.R_alloc | apply Kd.R_drewN | apply Kd.R_drew)); exact Kd.R_mono HO_6.out (fun _ hk => ⟨trivial, hk⟩)) hg hat); have n1_ := Aside0.mk (hb); have n2_ := Aside0.mk (ho); clear HO_6; clear HB; clear HO_8; have HO_6 := n0_; have HB := n1_; have HO460 := n2_; clear n0_ n1_ n2_; clear ho hb hg hat))
         go_roundg k1
         case measure => have := HK1.out; omega
         case rel => exact ⟨(y458), (wrap64 (x9_1 + 1)), (by first | rfl | (simp; done) | (simp [*]; done)), H', ⟨by have := HK1.out; omega⟩, ⟨by (with_reducible repeat (first | apply Kd.R_alloc | apply Kd.R_drewN | apply Kd.R_drew)); exact Kd.R_mono HO_6.out (fun _ hk => hk.2)⟩, ⟨by (with_reducible repeat (first | apply Kd.R_alloc | apply Kd.R_drewN | apply Kd.R_drew)); exact HO460.out⟩, ⟨by repeat (first | (with_reducible first | exact HB.out | apply below_alloc | apply pw_below_drewN | apply below_drew1) | exact HB.out)⟩⟩
        ·rw [if_neg c14] at H
         exact absurd H (by simp)
       ·rw [if_neg c12] at H
        exact absurd H (by simp)
     ·rw [if_neg c7] at H
      exact absurd H (by simp)
    ·rw [if_neg c6] at H
     have c6b0 : decide (x9_1 < (t446.length : Int)) = false := decide_eq_false c6
     clear c6
     simp only [Option.some.injEq, Prod.mk.injEq] at H
     obtain ⟨rfl, rfl⟩ := H
     obtain ⟨Ao19, co19, eo19⟩ := Kd.R_slice HO_6.out
     subst eo19
     go_wp2
     go_ret2
     exact ⟨_, by first | rfl | (simp [errW_none, errW_some] <;> rfl) | (simp [*, errW_none, errW_some] <;> rfl), by (with_reducible repeat (first | apply Kd.R_alloc | apply Kd.R_drewN | apply Kd.R_drew)); exact Kd.R_mono HO_8.out (fun _ hk => trivial), by repeat (first | (with_reducible first | exact HB.out | apply below_alloc | apply pw_below_drewN | apply below_drew1) | exact HB.out)⟩
 ·rw [if_neg c4] at H
  have c4b0 : (t447 == 0) = false := beq_eq_false_iff_ne.mpr c4
  have c4b1 : (t447 != 0) = true := bne_iff_ne.mpr c4
  simp only [Option.some.injEq, Prod.mk.injEq] at H
  obtain ⟨rfl, rfl⟩ := H
  go_enter Tryd.func19, Tryd.ntmps19
  go_wp2_with (first | ((with_reducible refine gate_callee (f := 14) rfl ?_); refine goesL_ (some 14) rfl rfl Tryd.func14 (by kernel_rfl) rfl #[.slice A0 l0.length c0, .slice A1 l1.length c1] rfl (by (try simp only [List.map_toArray, List.map_cons, List.map_nil]); first | done | rfl | (simp only [List.length_drop, List.length_take]; rfl)) ?_; (with_reducible refine (gangerref11_Sums.calls k _ _ l0 _ _ l1 t446 t447 _ ?side1 ?side2 ?side3 ?side4 A3.out).mono ?_); (case side1 => repeat (first | exact HR0.out | (with_reducible refine Kd.C_alloc ?_ _) | (with_reducible refine Kd.C_drewN ?_ _) | (with_reducible refine Kd.C_drew ?_))); (case side2 => exact HC0.out); (case side3 => repeat (first | exact HR1.out | (with_reducible refine Kd.C_alloc ?_ _) | (with_reducible refine Kd.C_drewN ?_ _) | (with_reducible refine Kd.C_drew ?_))); (case side4 => exact HC1.out); rintro e w20 ⟨v448, rfl, ho0, hb⟩; refine ⟨_, rfl, ?_⟩; have n0_ := Aside0.mk (Kd.R_lower ho0 (below_size (by repeat (first | (with_reducible first | exact HB.out | apply below_alloc | apply pw_below_drewN | apply below_drew1) | exact HB.out)))); have n1_ := Aside0.mk (below_step (by repeat (first | (with_reducible first | exact HB.out | apply below_alloc | apply pw_below_drewN | apply below_drew1) | exact HB.out)) hb); clear HB; have HO449 := n0_; have HB := n1_; clear n0_ n1_; (try clear hb); (try clear hb2); (try clear hk); (try clear hi); (try clear ho0)))
  go_ret2
  exact ⟨_, by first | rfl | (simp [errW_none, errW_some] <;> rfl) | (simp [*, errW_none, errW_some] <;> rfl), by first | exact Kd.R_nil _ _ _ _ _ | exact Kd.N_nil _ _ _ _ _ | exact Kd.V_nil _ _ _ _ _ | exact Kd.Q_nil _ _ _ _ _ | exact Kd.S_nil _ _ _ _ _, by repeat (first | (with_reducible first | exact HB.out | apply below_alloc | apply pw_below_drewN | apply below_drew1) | exact HB.out)⟩
def gangerref11_Factors.l0 : Nat → List (S37) → List Int → List Int → Int → Option (List Int × Int)
 | 0, _, _, _, _ => none
 | k + 1, x0, x6, x8, x9 => if x9 < (x0.length : Int) then ((gangerref11_norm.f k x0 x9).bind fun t465 => (if 0 ≤ x9 then (if x9 < (x6.length : Int) then (if (wrap64 (t465 + (rd x6 x9))) = 0 then (if x8.length < 17592186044416 then (gangerref11_Factors.l0 k x0 x6 (x8 ++ [0]) (wrap64 (x9 + 1))) else (none)) else (if x8.length < 17592186044416 then (gangerref11_Factors.l0 k x0 x6 (x8 ++ [wrap64 (Int.tdiv (wrap64 (65536 * t465)) (wrap64 (t465 + (rd x6 x9))))]) (wrap64 (x9 + 1))) else (none))) else (none)) else (none))) else (some (x8, 0))
def gangerref11_Factors.f (k : Nat) (l0 : List (S37)) (l1 : List Int) : Option (List Int × Int) := (gangerref11_Parts.f k l0 l1).bind fun bt461 => (if bt461.2 = 0 then (gangerref11_Factors.l0 k l0 bt461.1 ([] : List Int) 0) else (some (([] : List Int), bt461.2)))
set_option maxHeartbeats 8000000 in
set_option maxRecDepth 100000 in
theorem gangerref11_Factors.calls (k : Nat) (A0 : Option Addr) (c0 : Nat) (l0 : List (S37)) (A1 : Option Addr) (c1 : Nat) (l1 : List Int) (r1 : List Int) (r2 : Int) (w : World) (hr0 : Kd.C k37 w A0 l0.length l0) (hc0 : l0.length ≤ c0) (hr1 : Kd.C (Kd.int .i64) w A1 l1.length l1) (hc1 : l1.length ≤ c1) (h : gangerref11_Factors.f k l0 l1 = some (r1, r2)) :
  Calls Tryd.prog 21 #[.slice A0 l0.length c0, .slice A1 l1.length c1] w fun e w' => ∃ v0_ : Value, e = .returned (.tuple #[v0_, .int .i64 r2]) ∧ Kd.R (Kd.int .i64) 3 w' w.heap.size (fun _ => True) v0_ r1 ∧ Below w.heap.size w w' := by
 have HR0 := Aside0.mk hr0
 have HC0 := Aside0.mk hc0
 clear hr0 hc0
 have HR1 := Aside0.mk hr1
 have HC1 := Aside0.mk hc1
 clear hr1 hc1
 have HB := Aside0.mk (Below.refl w.heap.size w)
 have H : ((gangerref11_Parts.f k l0 l1).bind fun bt461 => (if bt461.2 = 0 then (gangerref11_Factors.l0 k l0 bt461.1 ([] : List Int) 0) else (some (([] : List Int), bt461.2)))) = some (r1, r2) := h
 clear h
 replace H := Option.bind_eq_some_iff.mp H
 obtain ⟨⟨t461, t462⟩, A30, H⟩ := H
 replace H : (if t462 = 0 then (gangerref11_Factors.l0 k l0 t461 ([] : List Int) 0) else (some (([] : List Int), t462))) = some (r1, r2) := H
 have A3 := Aside0.mk A30
 clear A30
 by_cases c4 : t462 = 0
 ·rw [if_pos c4] at H
  have c4b0 : (t462 == 0) = true := beq_iff_eq.mpr c4
  have c4b1 : (t462 != 0) = false := bne_eq_false_iff_eq.mpr c4
  clear c4
  have H' := Aside0.mk H
  clear H
  go_enter Tryd.func21, Tryd.ntmps21
  go_wp2_with (first | ((with_reducible refine gate_callee (f := 19) rfl ?_); refine goesL_ (some 14) rfl rfl Tryd.func19 (by kernel_rfl) rfl #[.slice A0 l0.length c0, .slice A1 l1.length c1] rfl (by (try simp only [List.map_toArray, List.map_cons, List.map_nil]); first | done | rfl | (simp only [List.length_drop, List.length_take]; rfl)) ?_; (with_reducible refine (gangerref11_Parts.calls k _ _ l0 _ _ l1 t461 t462 _ ?side1 ?side2 ?side3 ?side4 A3.out).mono ?_); (case side1 => repeat (first | exact HR0.out | (with_reducible refine Kd.C_alloc ?_ _) | (with_reducible refine Kd.C_drewN ?_ _) | (with_reducible refine Kd.C_drew ?_))); (case side2 => exact HC0.out); (case side3 => repeat (first | exact HR1.out | (with_reducible refine Kd.C_alloc ?_ _) | (with_reducible refine Kd.C_drewN ?_ _) | (with_reducible refine Kd.C_drew ?_))); (case side4 => exact HC1.out); rintro e w5 ⟨v463, rfl, ho0, hb⟩; refine ⟨_, rfl, ?_⟩; have n0_ := Aside0.mk (Kd.R_lower ho0 (below_size (by repeat (first | (with_reducible first | exact HB.out | apply below_alloc | apply pw_below_drewN | apply below_drew1) | exact HB.out)))); have n1_ := Aside0.mk (below_step (by repeat (first | (with_reducible first | exact HB.out | apply below_alloc | apply pw_below_drewN | apply below_drew1) | exact HB.out)) hb); clear HB; have HO464 := n0_; have HB := n1_; clear n0_ n1_; (try clear hb); (try clear hb2); (try clear hk); (try clear hi); (try clear ho0)))
  go_loopg [8, 9] k (fun kq v8 v9 w' => ∃ (x8_1 : List Int) (x9_1 : Int), v9 = .int .i64 x9_1 ∧ Aside0 (gangerref11_Factors.l0 kq l0 t461 x8_1 x9_1 = some (r1, r2)) ∧ Aside0 (kq ≤ k) ∧ Aside0 (Kd.R (Kd.int .i64) 3 w' w.heap.size (fun k_ => some k_ ≠ (v8 : Value).ownBlock) v463 t461) ∧ Aside0 (Kd.R (Kd.int .i64) 3 w' w.heap.size (fun k_ => some k_ ≠ (v463 : Value).ownBlock) v8 x8_1) ∧ Aside0 (Below w.heap.size w w'))
  case atStart => exact ⟨(([] : List Int)), (0), (by first | rfl | (simp; done) | (simp [*]; done)), H', ⟨Nat.le_refl _⟩, ⟨by (with_reducible repeat (first | apply Kd.R_alloc | apply Kd.R_drewN | apply Kd.R_drew)); exact Kd.R_mono HO464.out (fun _ hk => (by simp [Value.ownBlock]))⟩, ⟨by first | exact Kd.R_nil _ _ _ _ _ | exact Kd.N_nil _ _ _ _ _ | exact Kd.V_nil _ _ _ _ _ | exact Kd.Q_nil _ _ _ _ _ | exact Kd.S_nil _ _ _ _ _⟩, ⟨by repeat (first | (with_reducible first | exact HB.out | apply below_alloc | apply pw_below_drewN | apply below_drew1) | exact HB.out)⟩⟩
  case round =>
   clear H'
   obtain ⟨x8_1, x9_1, rfl, HA, HK1, HO_6, HO_8, HB⟩ := hrel
   cases gk with
   | zero => exact absurd HA.out (by simp [gangerref11_Factors.l0])
   | succ k1 =>
    have H := HA.out
    clear HA
    simp only [gangerref11_Factors.l0] at H
    by_cases c6 : x9_1 < (l0.length : Int)
    ·rw [if_pos c6] at H
     have c6b0 : decide (x9_1 < (l0.length : Int)) = true := decide_eq_true c6
     clear c6
     replace H := Option.bind_eq_some_iff.mp H
     obtain ⟨t465, A70, H⟩ := H
     replace H : (if 0 ≤ x9_1 then (if x9_1 < (t461.length : Int) then (if (wrap64 (t465 + (rd t461 x9_1))) = 0 then (if x8_1.length < 17592186044416 then (gangerref11_Factors.l0 k1 l0 t461 (x8_1 ++ [0]) (wrap64 (x9_1 + 1))) else (none)) else (if x8_1.length < 17592186044416 then (gangerref11_Factors.l0 k1 l0 t461 (x8_1 ++ [wrap64 (Int.tdiv (wrap64 (65536 * t465)) (wrap64 (t465 + (rd t461 x9_1))))]) (wrap64 (x9_1 + 1))) else (none))) else (none)) else (none)) = some (r1, r2) := H
     have A7 := Aside0.mk A70
     clear A70
     by_cases c8 : 0 ≤ x9_1
     ·rw [if_pos c8] at H
      have c8b0 : decide (0 ≤ x9_1) = true := decide_eq_true c8
      clear c8
      by_cases c9 : x9_1 < (t461.length : Int)
      ·rw [if_pos c9] at H
       have c9b0 : decide (x9_1 < (t461.length : Int)) = true := decide_eq_true c9
       clear c9
       by_cases c10 : (wrap64 (t465 + (rd t461 x9_1))) = 0
       ·rw [if_pos c10] at H
        have c10b0 : ((wrap64 (t465 + (rd t461 x9_1))) == 0) = true := beq_iff_eq.mpr c10
        have c10b1 : ((wrap64 (t465 + (rd t461 x9_1))) != 0) = false := bne_eq_false_iff_eq.mpr c10
        clear c10
        by_cases c11 : x8_1.length < 17592186044416
        ·rw [if_pos c11] at H
         have LMc11 := Aside0.mk c11
         clear c11
         obtain ⟨y467, hy467⟩ : ∃ y_ : List Int, y_ = (x8_1 ++ [0]) := ⟨_, rfl⟩
         replace H : (gangerref11_Factors.l0 k1 l0 t461 y467 (wrap64 (x9_1 + 1))) = some (r1, r2) := by first | (rw [hy467]; with_reducible exact H) | (have H2_ := (Option.bind_some _ _).symm.trans H; rw [hy467]; with_reducible exact H2_) | (have H2_ := (Option.bind_some _ _).symm.trans H; with_reducible exact H2_) | with_reducible exact H | (rw [hy467]; exact H) | exact H
         have Ny467 := Aside0.mk hy467
         clear hy467
         have H' := Aside0.mk H
         clear H
         go_wp2_with (first | ((with_reducible refine gate_callee (f := 29) rfl ?_); refine goesL_ (some 28) rfl rfl Tryd.func29 (by kernel_rfl) rfl #[.slice A0 l0.length c0, .int .i64 x9_1] rfl (by (try simp only [List.map_toArray, List.map_cons, List.map_nil]); first | done | rfl | (simp only [List.length_drop, List.length_take]; rfl)) ?_; (with_reducible refine (gangerref11_norm.calls k1 _ _ l0 x9_1 t465 _ ?side1 ?side2 A7.out).mono ?_); (case side1 => repeat (first | exact (Kd.C_below HR0.out HB.out) | (with_reducible refine Kd.C_alloc ?_ _) | (with_reducible refine Kd.C_drewN ?_ _) | (with_reducible refine Kd.C_drew ?_))); (case side2 => exact HC0.out); rintro e w' ⟨rfl, ⟨nd, rfl⟩⟩; refine ⟨_, rfl, ?_⟩; obtain ⟨Ao12, co12, eo12⟩ := Kd.R_slice HO_6.out; subst eo12; have p466 : 0 ≤ (x9_1 : Int) := of_decide_eq_true (by first | (with_reducible assumption) | assumption); have q466 : x9_1 < (t461.length : Int) := of_decide_eq_true (by first | (with_reducible assumption) | assumption); obtain ⟨ad466, e466, hx466_0⟩ := Kd.at_int (Kd.R_reads' HO_6.out).2.2 x9_1 p466 q466; cases e466; replace p466 := eq_true p466; replace q466 := eq_true q466) | ((with_reducible refine gate_builtin (b := .append) (xs := #[.tmp 36, .tmp 37]) rfl ?_); at_builtin; refine Kd.R_append (Kd.int .i64) (w0 := w) w.heap.size rfl (.tmp 36) (.tmp 37) 23 3 (.int .i64 0) 8 rfl Tryd.underlying23 info3 rfl (by decide) (by omega) u8 x8_1 0 [.int .i64 0] (fun k_ => some k_ ≠ (.slice (some ad466) t461.length co12 : Value).ownBlock) (fun _ => False) rfl rfl ?aP (fun _ hk => hk.elim) ?aF ?aO ?aB ?aS ?aL ?_; (case aP => exact rfl); (case aB => exact (by repeat (first | (with_reducible first | exact HB.out | apply below_alloc | apply pw_below_drewN | apply below_drew1) | exact HB.out))); (case aF => exact (fun k_ hk => Kd.fresh' (Kd.R_lt (by (with_reducible repeat (first | apply Kd.R_alloc | apply Kd.R_drewN | apply Kd.R_drew)); exact HO_6.out)) k_ hk)); (case aO => exact (by (with_reducible repeat (first | apply Kd.R_alloc | apply Kd.R_drewN | apply Kd.R_drew)); exact HO_8.out)); (case aS => exact (below_size (by repeat (first | (with_reducible first | exact HB.out | apply below_alloc | apply pw_below_drewN | apply below_drew1) | exact HB.out)))); (case aL => have := LMc11.out; omega); intro v468 w13 ho hb hg hat; rw [← Ny467.out] at ho; have n0_ := Aside0.mk (Kd.R_after (ok := (fun _ => True)) (by (with_reducible repeat (first | apply Kd.R_alloc | apply Kd.R_drewN | apply Kd.R_drew)); exact Kd.R_mono HO_6.out (fun _ hk => ⟨trivial, hk⟩)) hg hat); have n1_ := Aside0.mk (hb); have n2_ := Aside0.mk (ho); clear HO_6; clear HB; clear HO_8; have HO_6 := n0_; have HB := n1_; have HO469 := n2_; clear n0_ n1_ n2_; clear ho hb hg hat))
         go_roundg k1
         case measure => have := HK1.out; omega
         case rel => exact ⟨(y467), (wrap64 (x9_1 + 1)), (by first | rfl | (simp; done) | (simp [*]; done)), H', ⟨by have := HK1.out; omega⟩, ⟨by (with_reducible repeat (first | apply Kd.R_alloc | apply Kd.R_drewN | apply Kd.R_drew)); exact Kd.R_mono HO_6.out (fun _ hk => hk.2)⟩, ⟨by (with_reducible repeat (first | apply Kd.R_alloc | apply Kd.R_drewN | apply Kd.R_drew)); exact HO469.out⟩, ⟨by repeat (first | (with_reducible first | exact HB.out | apply below_alloc | apply pw_below_drewN | apply below_drew1) | exact HB.out)⟩⟩
        ·rw [if_neg c11] at H
         exact absurd H (by simp)
       ·rw [if_neg c10] at H
        have c10b0 : ((wrap64 (t465 + (rd t461 x9_1))) == 0) = false := beq_eq_false_iff_ne.mpr c10
        have c10b1 : ((wrap64 (t465 + (rd t461 x9_1))) != 0) = true := bne_iff_ne.mpr c10
        by_cases c14 : x8_1.length < 17592186044416
        ·rw [if_pos c14] at H
         have LMc14 := Aside0.mk c14
         clear c14
         obtain ⟨y471, hy471⟩ : ∃ y_ : List Int, y_ = (x8_1 ++ [wrap64 (Int.tdiv (wrap64 (65536 * t465)) (wrap64 (t465 + (rd t461 x9_1))))]) := ⟨_, rfl⟩
         replace H : (gangerref11_Factors.l0 k1 l0 t461 y471 (wrap64 (x9_1 + 1))) = some (r1, r2) := by first | (rw [hy471]; with_reducible exact H) | (have H2_ := (Option.bind_some _ _).symm.trans H; rw [hy471]; with_reducible exact H2_) | (have H2_ := (Option.bind_some _ _).symm.trans H; with_reducible exact H2_) | with_reducible exact H | (rw [hy471]; exact H) | exact H
         have Ny471 := Aside0.mk hy471
         clear hy471
         have H' := Aside0.mk H
         clear H
         go_wp2_with (first | ((with_reducible refine gate_callee (f := 29) rfl ?_); refine goesL_ (some 28) rfl rfl Tryd.func29 (by kernel_rfl) rfl #[.slice A0 l0.length c0, .int .i64 x9_1] rfl (by (try simp only [List.map_toArray, List.map_cons, List.map_nil]); first | done | rfl | (simp only [List.length_drop, List.length_take]; rfl)) ?_; (with_reducible refine (gangerref11_norm.calls k1 _ _ l0 x9_1 t465 _ ?side1 ?side2 A7.out).mono ?_); (case side1 => repeat (first | exact (Kd.C_below HR0.out HB.out) | (with_reducible refine Kd.C_alloc ?_ _) | (with_reducible refine Kd.C_drewN ?_ _) | (with_reducible refine Kd.C_drew ?_))); (case side2 => exact HC0.out); rintro e w' ⟨rfl, ⟨nd, rfl⟩⟩; refine ⟨_, rfl, ?_⟩; obtain ⟨Ao15, co15, eo15⟩ := Kd.R_slice HO_6.out; subst eo15; have p466 : 0 ≤ (x9_1 : Int) := of_decide_eq_true (by first | (with_reducible assumption) | assumption); have q466 : x9_1 < (t461.length : Int) := of_decide_eq_true (by first | (with_reducible assumption) | assumption); obtain ⟨ad466, e466, hx466_0⟩ := Kd.at_int (Kd.R_reads' HO_6.out).2.2 x9_1 p466 q466; cases e466; replace p466 := eq_true p466; replace q466 := eq_true q466; have p470 : 0 ≤ (x9_1 : Int) := of_decide_eq_true (by first | (with_reducible assumption) | assumption); have q470 : x9_1 < (t461.length : Int) := of_decide_eq_true (by first | (with_reducible assumption) | assumption); obtain ⟨ad470, e470, hx470_0⟩ := Kd.at_int (Kd.R_reads' HO_6.out).2.2 x9_1 p470 q470; obtain rfl : ad466 = ad470 := (by injection e470); replace p470 := eq_true p470; replace q470 := eq_true q470) | ((with_reducible refine gate_builtin (b := .append) (xs := #[.tmp 39, .tmp 49]) rfl ?_); at_builtin; refine Kd.R_append (Kd.int .i64) (w0 := w) w.heap.size rfl (.tmp 39) (.tmp 49) 23 3 (.int .i64 0) 8 rfl Tryd.underlying23 info3 rfl (by decide) (by omega) u8 x8_1 (wrap64 (Int.tdiv (wrap64 (65536 * t465)) (wrap64 (t465 + (rd t461 x9_1))))) [.int .i64 (wrap64 (Int.tdiv (wrap64 (65536 * t465)) (wrap64 (t465 + (rd t461 x9_1)))))] (fun k_ => some k_ ≠ (.slice (some ad466) t461.length co15 : Value).ownBlock) (fun _ => False) rfl rfl ?aP (fun _ hk => hk.elim) ?aF ?aO ?aB ?aS ?aL ?_; (case aP => exact rfl); (case aB => exact (by repeat (first | (with_reducible first | exact HB.out | apply below_alloc | apply pw_below_drewN | apply below_drew1) | exact HB.out))); (case aF => exact (fun k_ hk => Kd.fresh' (Kd.R_lt (by (with_reducible repeat (first | apply Kd.R_alloc | apply Kd.R_drewN | apply Kd.R_drew)); exact HO_6.out)) k_ hk)); (case aO => exact (by (with_reducible repeat (first | apply Kd.R_alloc | apply Kd.R_drewN | apply Kd.R_drew)); exact HO_8.out)); (case aS => exact (below_size (by repeat (first | (with_reducible first | exact HB.out | apply below_alloc | apply pw_below_drewN | apply below_drew1) | exact HB.out)))); (case aL => have := LMc14.out; omega); intro v472 w16 ho hb hg hat; rw [← Ny471.out] at ho; have n0_ := Aside0.mk (Kd.R_after (ok := (fun _ => True)) (by (with_reducible repeat (first | apply Kd.R_alloc | apply Kd.R_drewN | apply Kd.R_drew)); exact Kd.R_mono HO_6.out (fun _ hk => ⟨trivial, hk⟩)) hg hat); have n1_ := Aside0.mk (hb); have n2_ := Aside0.mk (ho); clear HO_6; clear HB; clear HO_8; have HO_6 := n0_; have HB := n1_; have HO473 := n2_; clear n0_ n1_ n2_; clear ho hb hg hat))
         go_roundg k1
         case measure => have := HK1.out; omega
         case rel => exact ⟨(y471), (wrap64 (x9_1 + 1)), (by first | rfl | (simp; done) | (simp [*]; done)), H', ⟨by have := HK1.out; omega⟩, ⟨by (with_reducible repeat (first | apply Kd.R_alloc | apply Kd.R_drewN | apply Kd.R_drew)); exact Kd.R_mono HO_6.out (fun _ hk => hk.2)⟩, ⟨by (with_reducible repeat (first | apply Kd.R_alloc | apply Kd.R_drewN | apply Kd.R_drew)); exact HO473.out⟩, ⟨by repeat (first | (with_reducible first | exact HB.out | apply below_alloc | apply pw_below_drewN | apply below_drew1) | exact HB.out)⟩⟩
        ·rw [if_neg c14] at H
         exact absurd H (by simp)
      ·rw [if_neg c9] at H
       exact absurd H (by simp)
     ·rw [if_neg c8] at H
      exact absurd H (by simp)
    ·rw [if_neg c6] at H
     have c6b0 : decide (x9_1 < (l0.length : Int)) = false := decide_eq_false c6
     clear c6
     simp only [Option.some.injEq, Prod.mk.injEq] at H
     obtain ⟨rfl, rfl⟩ := H
     go_wp2
     go_ret2
     exact ⟨_, by first | rfl | (simp [errW_none, errW_some] <;> rfl) | (simp [*, errW_none, errW_some] <;> rfl), by (with_reducible repeat (first | apply Kd.R_alloc | apply Kd.R_drewN | apply Kd.R_drew)); exact Kd.R_mono HO_8.out (fun _ hk => trivial), by repeat (first | (with_reducible first | exact HB.out | apply below_alloc | apply pw_below_drewN | apply below_drew1) | exact HB.out)⟩
 ·rw [if_neg c4] at H
  have c4b0 : (t462 == 0) = false := beq_eq_false_iff_ne.mpr c4
  have c4b1 : (t462 != 0) = true := bne_iff_ne.mpr c4
  simp only [Option.some.injEq, Prod.mk.injEq] at H
  obtain ⟨rfl, rfl⟩ := H
  go_enter Tryd.func21, Tryd.ntmps21
  go_wp2_with (first | ((with_reducible refine gate_callee (f := 19) rfl ?_); refine goesL_ (some 14) rfl rfl Tryd.func19 (by kernel_rfl) rfl #[.slice A0 l0.length c0, .slice A1 l1.length c1] rfl (by (try simp only [List.map_toArray, List.map_cons, List.map_nil]); first | done | rfl | (simp only [List.length_drop, List.length_take]; rfl)) ?_; (with_reducible refine (gangerref11_Parts.calls k _ _ l0 _ _ l1 t461 t462 _ ?side1 ?side2 ?side3 ?side4 A3.out).mono ?_); (case side1 => repeat (first | exact HR0.out | (with_reducible refine Kd.C_alloc ?_ _) | (with_reducible refine Kd.C_drewN ?_ _) | (with_reducible refine Kd.C_drew ?_))); (case side2 => exact HC0.out); (case side3 => repeat (first | exact HR1.out | (with_reducible refine Kd.C_alloc ?_ _) | (with_reducible refine Kd.C_drewN ?_ _) | (with_reducible refine Kd.C_drew ?_))); (case side4 => exact HC1.out); rintro e w17 ⟨v463, rfl, ho0, hb⟩; refine ⟨_, rfl, ?_⟩; have n0_ := Aside0.mk (Kd.R_lower ho0 (below_size (by repeat (first | (with_reducible first | exact HB.out | apply below_alloc | apply pw_below_drewN | apply below_drew1) | exact HB.out)))); have n1_ := Aside0.mk (below_step (by repeat (first | (with_reducible first | exact HB.out | apply below_alloc | apply pw_below_drewN | apply below_drew1) | exact HB.out)) hb); clear HB; have HO464 := n0_; have HB := n1_; clear n0_ n1_; (try clear hb); (try clear hb2); (try clear hk); (try clear hi); (try clear ho0)))
  go_ret2
  exact ⟨_, by first | rfl | (simp [errW_none, errW_some] <;> rfl) | (simp [*, errW_none, errW_some] <;> rfl), by first | exact Kd.R_nil _ _ _ _ _ | exact Kd.N_nil _ _ _ _ _ | exact Kd.V_nil _ _ _ _ _ | exact Kd.Q_nil _ _ _ _ _ | exact Kd.S_nil _ _ _ _ _, by repeat (first | (with_reducible first | exact HB.out | apply below_alloc | apply pw_below_drewN | apply below_drew1) | exact HB.out)⟩
end Go.Proofs.YtfccdngejfnmkaaDoor.P
