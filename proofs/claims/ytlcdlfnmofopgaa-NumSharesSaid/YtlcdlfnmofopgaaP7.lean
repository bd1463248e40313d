/- The machine's side of the laws of this seat: each function's plain form and its contract, written by a program of this session out of Lean's print of the loaded functions; no condition beyond what each statement says. -/
import Derived.Test.YtlcdlfnmofopgaaP0
import Derived.Test.YtlcdlfnmofopgaaP2
import Derived.Test.YtlcdlfnmofopgaaP3
import Derived.Test.YtlcdlfnmofopgaaP4
namespace Go.Proofs.Ytlcdlfnmofopgaa.P
open Go.RowKit Go.Proofs.YtlcdlfnmofopgaaW.PrintWords Go.Proofs.YtlcdlfnmofopgaaW.PrintLast Go.Proofs.YtlcdlfnmofopgaaW.PrintMore
attribute [local go_sem] max2_int min2_int max_two min_two max_three min_three max_four min_four   -- for this text's walks alone
set_option linter.unusedVariables false
set_option linter.unusedSimpArgs false

attribute [local go_sem] isSome_setCell
/-! ### gangerref01_told: function 41 -/
def gangerref01_told.f (k : Nat) (a0_0 : Bool) (a0_1 : Int) (a0_2 : Int) : Option (Int × Int) := (gangerref01_Wide_Narrow.f k a0_0 a0_1 a0_2).bind fun bt226 => (if bt226.2 = true then (some (bt226.1, 0)) else (some (0, 10)))
theorem gangerref01_told.mono : ∀ a0 a1 a2 k, LeO (gangerref01_told.f k a0 a1 a2) (gangerref01_told.f (k + 1) a0 a1 a2) := by
  intro a0 a1 a2 k
  unfold gangerref01_told.f
  repeat' first
      | (with_reducible exact gangerref01_Wide_Narrow.mono _ _ _ _)
      | (with_reducible exact LeO.refl _)
      | (with_reducible exact LeO.none _)
      | (with_reducible refine LeO.ite ?_ ?_)
      | (with_reducible refine LeO.bind ?_ (fun _ => ?_))
      | exact gangerref01_Wide_Narrow.mono _ _ _ _
      | exact LeO.none _
      | refine LeO.ite ?_ ?_
      | refine LeO.bind ?_ (fun _ => ?_)
set_option maxHeartbeats 8000000 in
set_option maxRecDepth 100000 in
theorem gangerref01_told.calls (k : Nat) (a0_0 : Bool) (a0_1 : Int) (a0_2 : Int) (r1 : Int) (r2 : Int) (w : World) (h : gangerref01_told.f k a0_0 a0_1 a0_2 = some (r1, r2)) :
    Calls Try.prog 41 #[.agg #[.bool a0_0, .int .u64 a0_1, .int .u64 a0_2]] w fun e w' => e = .returned (.tuple #[.int .i64 r1, .int .i64 r2]) ∧ Below w.heap.size w w' := by
  have hu28 := Try.underlying28
  have HB := Aside0.mk (Below.refl w.heap.size w)
  have H : ((gangerref01_Wide_Narrow.f k a0_0 a0_1 a0_2).bind fun bt226 => (if bt226.2 = true then (some (bt226.1, 0)) else (some (0, 10)))) = some (r1, r2) := h
  clear h
  replace H := Option.bind_eq_some_iff.mp H
  obtain ⟨⟨t226, t227⟩, A20, H⟩ := H
  replace H : (if t227 = true then (some (t226, 0)) else (some (0, 10))) = some (r1, r2) := H
  have A2 := Aside0.mk A20
  clear A20
  by_cases c3 : t227 = true
  · subst c3
    have H1 : (some (t226, 0)) = some (r1, r2) := by rw [if_pos rfl] at H; exact H
    clear H
    have H := H1
    clear H1
    simp only [Option.some.injEq, Prod.mk.injEq] at H
    obtain ⟨rfl, rfl⟩ := H
    go_enter Try.func41, Try.ntmps41
    go_wp2_with (first | ((with_reducible refine gate_dst (N := 1) rfl ?_); refine box_event ?hg (N := 1) ?hd (cs := #[.bool a0_0, .int .u64 a0_1, .int .u64 a0_2]) (t := 28) ?hr ?_; (case hd => rfl); (case hg => rfl); (case hr => first | (go_simp; done) | (go_simp; rfl)); intro gb225 hg w4 hbox hb; have n0_ := Aside0.mk (below_step (by repeat (first | (with_reducible first | exact HB.out | apply below_alloc | apply pw_below_drewN | apply below_drew1) | exact HB.out)) hb); have n1_ := Aside0.mk (hbox); have n2_ := Aside0.mk ((by rw [hg]; exact (below_size (by repeat (first | (with_reducible first | exact HB.out | apply below_alloc | apply pw_below_drewN | apply below_drew1) | exact HB.out))) : w.heap.size ≤ gb225)); have n3_ := Aside0.mk ((by rw [hg]; exact (below_size (by repeat (first | (with_reducible first | exact HB.out | apply below_alloc | apply pw_below_drewN | apply below_drew1) | exact HB.out))) : w.heap.size ≤ gb225)); clear HB; have HB := n0_; have BK225 := n1_; have GW225 := n2_; have GE225 := n3_; clear n0_ n1_ n2_ n3_; clear hb hbox hg; have hcz5_0 : w4.cell? ⟨gb225, 0, none⟩ = some (.bool a0_0) := (blk_cell BK225.out 0).trans rfl; have hcz5_1 : w4.cell? ⟨gb225, 1, none⟩ = some (.int .u64 a0_1) := (blk_cell BK225.out 1).trans rfl; have hcz5_2 : w4.cell? ⟨gb225, 2, none⟩ = some (.int .u64 a0_2) := (blk_cell BK225.out 2).trans rfl; have hfz5_0 := blk_frozen BK225.out 0; have hfz5_1 := blk_frozen BK225.out 1; have hfz5_2 := blk_frozen BK225.out 2) | ((with_reducible refine gate_callee (f := 16) rfl ?_); refine goesL_ (some 8) rfl rfl Try.func16 (by kernel_rfl) rfl #[.agg #[.bool a0_0, .int .u64 a0_1, .int .u64 a0_2]] rfl (by (try simp only [List.map_toArray, List.map_cons, List.map_nil]); first | done | rfl | (simp only [List.length_drop, List.length_take]; rfl)) ?_; (with_reducible refine (gangerref01_Wide_Narrow.calls k a0_0 a0_1 a0_2 t226 true _ A2.out).mono ?_); rintro e w6 ⟨rfl, hb⟩; refine ⟨_, rfl, ?_⟩; have n0_ := Aside0.mk (blk_below (g := gb225) (o := .cells #[.bool a0_0, .int .u64 a0_1, .int .u64 a0_2] 28 (0, 0)) (by (with_reducible repeat (first | refine blk_drewN ?_ _ | refine blk_drew ?_ | refine blk_alloc ?_ _)); exact BK225.out) hb); have n1_ := Aside0.mk (below_step (by repeat (first | (with_reducible first | exact HB.out | apply below_alloc | apply pw_below_drewN | apply below_drew1 | refine below_set ?_ GE225.out) | exact HB.out)) hb); clear BK225; clear HB; have BK225 := n0_; have HB := n1_; clear n0_ n1_; (try clear hb); (try clear hb2); (try clear hk); (try clear hi)))
    go_ret2
    exact ⟨by first | rfl | (simp [errW_none, errW_some] <;> rfl) | (simp [*, errW_none, errW_some] <;> rfl), by repeat (first | (with_reducible first | exact HB.out | apply below_alloc | apply pw_below_drewN | apply below_drew1 | refine below_set ?_ GE225.out) | exact HB.out)⟩
  · replace c3 := Bool.eq_false_iff.mpr c3
    subst c3
    have H1 : (some (0, 10)) = some (r1, r2) := by rw [if_neg (show ¬ (false = true) by decide)] at H; exact H
    clear H
    have H := H1
    clear H1
    simp only [Option.some.injEq, Prod.mk.injEq] at H
    obtain ⟨rfl, rfl⟩ := H
    go_enter Try.func41, Try.ntmps41
    go_wp2_with (first | ((with_reducible refine gate_dst (N := 1) rfl ?_); refine box_event ?hg (N := 1) ?hd (cs := #[.bool a0_0, .int .u64 a0_1, .int .u64 a0_2]) (t := 28) ?hr ?_; (case hd => rfl); (case hg => rfl); (case hr => first | (go_simp; done) | (go_simp; rfl)); intro gb225 hg w7 hbox hb; have n0_ := Aside0.mk (below_step (by repeat (first | (with_reducible first | exact HB.out | apply below_alloc | apply pw_below_drewN | apply below_drew1) | exact HB.out)) hb); have n1_ := Aside0.mk (hbox); have n2_ := Aside0.mk ((by rw [hg]; exact (below_size (by repeat (first | (with_reducible first | exact HB.out | apply below_alloc | apply pw_below_drewN | apply below_drew1) | exact HB.out))) : w.heap.size ≤ gb225)); have n3_ := Aside0.mk ((by rw [hg]; exact (below_size (by repeat (first | (with_reducible first | exact HB.out | apply below_alloc | apply pw_below_drewN | apply below_drew1) | exact HB.out))) : w.heap.size ≤ gb225)); clear HB; have HB := n0_; have BK225 := n1_; have GW225 := n2_; have GE225 := n3_; clear n0_ n1_ n2_ n3_; clear hb hbox hg; have hcz8_0 : w7.cell? ⟨gb225, 0, none⟩ = some (.bool a0_0) := (blk_cell BK225.out 0).trans rfl; have hcz8_1 : w7.cell? ⟨gb225, 1, none⟩ = some (.int .u64 a0_1) := (blk_cell BK225.out 1).trans rfl; have hcz8_2 : w7.cell? ⟨gb225, 2, none⟩ = some (.int .u64 a0_2) := (blk_cell BK225.out 2).trans rfl; have hfz8_0 := blk_frozen BK225.out 0; have hfz8_1 := blk_frozen BK225.out 1; have hfz8_2 := blk_frozen BK225.out 2) | ((with_reducible refine gate_callee (f := 16) rfl ?_); refine goesL_ (some 8) rfl rfl Try.func16 (by kernel_rfl) rfl #[.agg #[.bool a0_0, .int .u64 a0_1, .int .u64 a0_2]] rfl (by (try simp only [List.map_toArray, List.map_cons, List.map_nil]); first | done | rfl | (simp only [List.length_drop, List.length_take]; rfl)) ?_; (with_reducible refine (gangerref01_Wide_Narrow.calls k a0_0 a0_1 a0_2 t226 false _ A2.out).mono ?_); rintro e w9 ⟨rfl, hb⟩; refine ⟨_, rfl, ?_⟩; have n0_ := Aside0.mk (blk_below (g := gb225) (o := .cells #[.bool a0_0, .int .u64 a0_1, .int .u64 a0_2] 28 (0, 0)) (by (with_reducible repeat (first | refine blk_drewN ?_ _ | refine blk_drew ?_ | refine blk_alloc ?_ _)); exact BK225.out) hb); have n1_ := Aside0.mk (below_step (by repeat (first | (with_reducible first | exact HB.out | apply below_alloc | apply pw_below_drewN | apply below_drew1 | refine below_set ?_ GE225.out) | exact HB.out)) hb); clear BK225; clear HB; have BK225 := n0_; have HB := n1_; clear n0_ n1_; (try clear hb); (try clear hb2); (try clear hk); (try clear hi)))
    go_ret2
    exact ⟨by first | rfl | (simp [errW_none, errW_some] <;> rfl) | (simp [*, errW_none, errW_some] <;> rfl), by repeat (first | (with_reducible first | exact HB.out | apply below_alloc | apply pw_below_drewN | apply below_drew1 | refine below_set ?_ GE225.out) | exact HB.out)⟩

/-! ### gangerref01_MulDiv: function 20 -/
mutual
def gangerref01_MulDiv.j0 : Nat → Int → Int → Int → Bool → Option (Int × Int)
  | 0, _, _, _, _ => none
  | k + 1, x0, x1, x2, x22 => if x22 = true then (some (0, 2)) else ((gangerref01_Of.f x0).bind fun bt228 => ((gangerref01_Of.f x1).bind fun bt231 => ((gangerref01_Product.f k bt228.1 bt228.2.1 bt228.2.2 bt231.1 bt231.2.1 bt231.2.2).bind fun bt234 => (gangerref01_MulDiv.l0 k x2 0 127 bt234.1 bt234.2.1 bt234.2.2 false 0 0))))
def gangerref01_MulDiv.l0 : Nat → Int → Int → Int → Bool → Int → Int → Bool → Int → Int → Option (Int × Int)
  | 0, _, _, _, _, _, _, _, _, _ => none
  | k + 1, x2, x10, x11, x238000, x238001, x238002, x239000, x239001, x239002 => if x11 ≥ 0 then (if 0 ≤ (IntKind.u64.wrap (Int.tmod x11 64)) then (if x11 ≥ 64 then (if 0 ≤ (IntKind.u64.wrap (wrap64 (x11 - 64))) then ((gangerref01_plus.f x239000 x239001 x239002 x239000 x239001 x239002).bind fun bt241 => (if (IntKind.u64.wrap ((IntKind.u64.wrap (x10 * 2)) + (Int.tmod (shr .u64 x238001 (IntKind.u64.wrap (wrap64 (x11 - 64)))) 2))) ≥ (IntKind.u64.wrap (x2)) then (gangerref01_MulDiv.l0 k x2 (IntKind.u64.wrap ((IntKind.u64.wrap ((IntKind.u64.wrap (x10 * 2)) + (Int.tmod (shr .u64 x238001 (IntKind.u64.wrap (wrap64 (x11 - 64)))) 2))) - (IntKind.u64.wrap (x2)))) (wrap64 (x11 - 1)) x238000 x238001 x238002 bt241.1 bt241.2.1 (IntKind.u64.wrap (bt241.2.2 + 1))) else (gangerref01_MulDiv.l0 k x2 (IntKind.u64.wrap ((IntKind.u64.wrap (x10 * 2)) + (Int.tmod (shr .u64 x238001 (IntKind.u64.wrap (wrap64 (x11 - 64)))) 2))) (wrap64 (x11 - 1)) x238000 x238001 x238002 bt241.1 bt241.2.1 bt241.2.2))) else (none)) else ((gangerref01_plus.f x239000 x239001 x239002 x239000 x239001 x239002).bind fun bt244 => (if (IntKind.u64.wrap ((IntKind.u64.wrap (x10 * 2)) + (Int.tmod (shr .u64 x238002 (IntKind.u64.wrap (Int.tmod x11 64))) 2))) ≥ (IntKind.u64.wrap (x2)) then (gangerref01_MulDiv.l0 k x2 (IntKind.u64.wrap ((IntKind.u64.wrap ((IntKind.u64.wrap (x10 * 2)) + (Int.tmod (shr .u64 x238002 (IntKind.u64.wrap (Int.tmod x11 64))) 2))) - (IntKind.u64.wrap (x2)))) (wrap64 (x11 - 1)) x238000 x238001 x238002 bt244.1 bt244.2.1 (IntKind.u64.wrap (bt244.2.2 + 1))) else (gangerref01_MulDiv.l0 k x2 (IntKind.u64.wrap ((IntKind.u64.wrap (x10 * 2)) + (Int.tmod (shr .u64 x238002 (IntKind.u64.wrap (Int.tmod x11 64))) 2))) (wrap64 (x11 - 1)) x238000 x238001 x238002 bt244.1 bt244.2.1 bt244.2.2)))) else (none)) else ((gangerref01_told.f k x239000 x239001 x239002).bind fun bt239 => (some (bt239.1, bt239.2)))
end
def gangerref01_MulDiv.f (k : Nat) (a0 : Int) (a1 : Int) (a2 : Int) : Option (Int × Int) := if a0 < 0 then (gangerref01_MulDiv.j0 k a0 a1 a2 true) else (if a1 < 0 then (gangerref01_MulDiv.j0 k a0 a1 a2 true) else (gangerref01_MulDiv.j0 k a0 a1 a2 (decide (a2 < 1))))
theorem gangerref01_MulDiv.mono_l : ∀ k, (∀ y0 y1 y2 y3, LeO (gangerref01_MulDiv.j0 k y0 y1 y2 y3) (gangerref01_MulDiv.j0 (k + 1) y0 y1 y2 y3)) ∧ (∀ y0 y1 y2 y3 y4 y5 y6 y7 y8, LeO (gangerref01_MulDiv.l0 k y0 y1 y2 y3 y4 y5 y6 y7 y8) (gangerref01_MulDiv.l0 (k + 1) y0 y1 y2 y3 y4 y5 y6 y7 y8))
  | 0 => ⟨fun _ _ _ _ r h => by simp [gangerref01_MulDiv.j0] at h, fun _ _ _ _ _ _ _ _ _ r h => by simp [gangerref01_MulDiv.l0] at h⟩
  | k + 1 => by
    obtain ⟨ih0, ih1⟩ := gangerref01_MulDiv.mono_l k
    refine ⟨?_, ?_⟩
    · intro y0 y1 y2 y3
      unfold gangerref01_MulDiv.j0
      repeat' first
      | (with_reducible exact ih0 _ _ _ _)
      | (with_reducible exact ih1 _ _ _ _ _ _ _ _ _)
      | (with_reducible exact gangerref01_Product.mono _ _ _ _ _ _ _)
      | (with_reducible exact gangerref01_told.mono _ _ _ _)
      | (with_reducible exact LeO.refl _)
      | (with_reducible exact LeO.none _)
      | (with_reducible refine LeO.ite ?_ ?_)
      | (with_reducible refine LeO.bind ?_ (fun _ => ?_))
      | exact ih0 _ _ _ _
      | exact ih1 _ _ _ _ _ _ _ _ _
      | exact gangerref01_Product.mono _ _ _ _ _ _ _
      | exact gangerref01_told.mono _ _ _ _
      | exact LeO.none _
      | refine LeO.ite ?_ ?_
      | refine LeO.bind ?_ (fun _ => ?_)
    · intro y0 y1 y2 y3 y4 y5 y6 y7 y8
      unfold gangerref01_MulDiv.l0
      repeat' first
      | (with_reducible exact ih0 _ _ _ _)
      | (with_reducible exact ih1 _ _ _ _ _ _ _ _ _)
      | (with_reducible exact gangerref01_Product.mono _ _ _ _ _ _ _)
      | (with_reducible exact gangerref01_told.mono _ _ _ _)
      | (with_reducible exact LeO.refl _)
      | (with_reducible exact LeO.none _)
      | (with_reducible refine LeO.ite ?_ ?_)
      | (with_reducible refine LeO.bind ?_ (fun _ => ?_))
      | exact ih0 _ _ _ _
      | exact ih1 _ _ _ _ _ _ _ _ _
      | exact gangerref01_Product.mono _ _ _ _ _ _ _
      | exact gangerref01_told.mono _ _ _ _
      | exact LeO.none _
      | refine LeO.ite ?_ ?_
      | refine LeO.bind ?_ (fun _ => ?_)
theorem gangerref01_MulDiv.mono : ∀ a0 a1 a2 k, LeO (gangerref01_MulDiv.f k a0 a1 a2) (gangerref01_MulDiv.f (k + 1) a0 a1 a2) := by
  intro a0 a1 a2 k
  obtain ⟨ih0, ih1⟩ := gangerref01_MulDiv.mono_l k
  unfold gangerref01_MulDiv.f
  repeat' first
      | (with_reducible exact ih0 _ _ _ _)
      | (with_reducible exact ih1 _ _ _ _ _ _ _ _ _)
      | (with_reducible exact gangerref01_Product.mono _ _ _ _ _ _ _)
      | (with_reducible exact gangerref01_told.mono _ _ _ _)
      | (with_reducible exact LeO.refl _)
      | (with_reducible exact LeO.none _)
      | (with_reducible refine LeO.ite ?_ ?_)
      | (with_reducible refine LeO.bind ?_ (fun _ => ?_))
      | exact ih0 _ _ _ _
      | exact ih1 _ _ _ _ _ _ _ _ _
      | exact gangerref01_Product.mono _ _ _ _ _ _ _
      | exact gangerref01_told.mono _ _ _ _
      | exact LeO.none _
      | refine LeO.ite ?_ ?_
      | refine LeO.bind ?_ (fun _ => ?_)
set_option maxHeartbeats 8000000 in
set_option maxRecDepth 100000 in
theorem gangerref01_MulDiv.calls (k : Nat) (a0 : Int) (a1 : Int) (a2 : Int) (r1 : Int) (r2 : Int) (w : World) (h : gangerref01_MulDiv.f k a0 a1 a2 = some (r1, r2)) :
    Calls Try.prog 20 #[.int .i64 a0, .int .i64 a1, .int .i64 a2] w fun e w' => e = .returned (.tuple #[.int .i64 r1, .int .i64 r2]) ∧ Below w.heap.size w w' := by
  have hu28 := Try.underlying28
  have HB := Aside0.mk (Below.refl w.heap.size w)
  have H : (if a0 < 0 then (gangerref01_MulDiv.j0 k a0 a1 a2 true) else (if a1 < 0 then (gangerref01_MulDiv.j0 k a0 a1 a2 true) else (gangerref01_MulDiv.j0 k a0 a1 a2 (decide (a2 < 1))))) = some (r1, r2) := h
  clear h
  have HC4 := Aside0.mk H
  clear H
  go_enter Try.func20, Try.ntmps20
  go_upto_region 1 with (fail)
  go_cut [22] (fun v22 wc => ∃ (kq : Nat) (x22_3 : Bool), v22 = .bool x22_3 ∧ Aside0 (gangerref01_MulDiv.j0 kq a0 a1 a2 x22_3 = some (r1, r2)) ∧ Aside0 (kq ≤ k) ∧ Aside0 (Below w.heap.size w wc))
  case first =>
    have H := HC4.out
    clear HC4
    by_cases c5 : a0 < 0
    · rw [if_pos c5] at H
      have c5b0 : decide (a0 < 0) = true := decide_eq_true c5
      clear c5
      (first | rw [c5b0] | (simp only [i64_w, i32_w]; rw [c5b0]) | skip)
      have H' := Aside0.mk H
      clear H
      go_wp2
      go_meet
      case rel => exact ⟨_, (true), (by first | rfl | (simp; done) | (simp [*]; done)), H', ⟨by first | omega | exact Nat.le_refl _⟩, ⟨by repeat (first | (with_reducible first | exact HB.out | apply below_alloc | apply pw_below_drewN | apply below_drew1) | exact HB.out)⟩⟩
    · rw [if_neg c5] at H
      have c5b0 : decide (a0 < 0) = false := decide_eq_false c5
      clear c5
      (first | rw [c5b0] | (simp only [i64_w, i32_w]; rw [c5b0]) | skip)
      by_cases c6 : a1 < 0
      · rw [if_pos c6] at H
        have c6b0 : decide (a1 < 0) = true := decide_eq_true c6
        clear c6
        have H' := Aside0.mk H
        clear H
        go_wp2
        go_meet
        case rel => exact ⟨_, (true), (by first | rfl | (simp; done) | (simp [*]; done)), H', ⟨by first | omega | exact Nat.le_refl _⟩, ⟨by repeat (first | (with_reducible first | exact HB.out | apply below_alloc | apply pw_below_drewN | apply below_drew1) | exact HB.out)⟩⟩
      · rw [if_neg c6] at H
        have c6b0 : decide (a1 < 0) = false := decide_eq_false c6
        clear c6
        have H' := Aside0.mk H
        clear H
        go_wp2
        go_meet
        case rel => exact ⟨_, (decide (a2 < 1)), (by first | rfl | (simp; done) | (simp [*]; done)), H', ⟨by first | omega | exact Nat.le_refl _⟩, ⟨by repeat (first | (with_reducible first | exact HB.out | apply below_alloc | apply pw_below_drewN | apply below_drew1) | exact HB.out)⟩⟩
  case rest =>
    clear HC4
    try clear c2
    try clear p2
    try clear c5
    try clear c5b0
    try clear c6
    try clear c6b0
    obtain ⟨kq, x22_3, rfl, HA, HJ3, HB⟩ := hcut
    cases kq with
    | zero => exact absurd HA.out (by simp [gangerref01_MulDiv.j0])
    | succ kj3 =>
      have H := HA.out
      clear HA
      simp only [gangerref01_MulDiv.j0] at H
      by_cases c7 : x22_3 = true
      · subst c7
        have H1 : (some (0, 2)) = some (r1, r2) := by rw [if_pos rfl] at H; exact H
        clear H
        have H := H1
        clear H1
        simp only [Option.some.injEq, Prod.mk.injEq] at H
        obtain ⟨rfl, rfl⟩ := H
        go_wp2
        go_ret2
        exact ⟨by first | rfl | (simp [errW_none, errW_some] <;> rfl) | (simp [*, errW_none, errW_some] <;> rfl), by repeat (first | (with_reducible first | exact HB.out | apply below_alloc | apply pw_below_drewN | apply below_drew1) | exact HB.out)⟩
      · replace c7 := Bool.eq_false_iff.mpr c7
        subst c7
        have H1 : ((gangerref01_Of.f a0).bind fun bt228 => ((gangerref01_Of.f a1).bind fun bt231 => ((gangerref01_Product.f kj3 bt228.1 bt228.2.1 bt228.2.2 bt231.1 bt231.2.1 bt231.2.2).bind fun bt234 => (gangerref01_MulDiv.l0 kj3 a2 0 127 bt234.1 bt234.2.1 bt234.2.2 false 0 0)))) = some (r1, r2) := by rw [if_neg (show ¬ (false = true) by decide)] at H; exact H
        clear H
        have H := H1
        clear H1
        replace H := Option.bind_eq_some_iff.mp H
        obtain ⟨⟨t228, t229, t230⟩, A80, H⟩ := H
        replace H : ((gangerref01_Of.f a1).bind fun bt231 => ((gangerref01_Product.f kj3 t228 t229 t230 bt231.1 bt231.2.1 bt231.2.2).bind fun bt234 => (gangerref01_MulDiv.l0 kj3 a2 0 127 bt234.1 bt234.2.1 bt234.2.2 false 0 0))) = some (r1, r2) := H
        have A8 := Aside0.mk A80
        clear A80
        replace H := Option.bind_eq_some_iff.mp H
        obtain ⟨⟨t231, t232, t233⟩, A90, H⟩ := H
        replace H : ((gangerref01_Product.f kj3 t228 t229 t230 t231 t232 t233).bind fun bt234 => (gangerref01_MulDiv.l0 kj3 a2 0 127 bt234.1 bt234.2.1 bt234.2.2 false 0 0)) = some (r1, r2) := H
        have A9 := Aside0.mk A90
        clear A90
        replace H := Option.bind_eq_some_iff.mp H
        obtain ⟨⟨t234, t235, t236⟩, A100, H⟩ := H
        replace H : (gangerref01_MulDiv.l0 kj3 a2 0 127 t234 t235 t236 false 0 0) = some (r1, r2) := H
        have A10 := Aside0.mk A100
        clear A100
        have H' := Aside0.mk H
        clear H
        go_wp2_with (first | ((with_reducible refine gate_callee (f := 15) rfl ?_); refine goesL_ (some 24) rfl rfl Try.func15 (by kernel_rfl) rfl #[.int .i64 a0] rfl (by (try simp only [List.map_toArray, List.map_cons, List.map_nil]); first | done | rfl | (simp only [List.length_drop, List.length_take]; rfl)) ?_; (with_reducible refine (gangerref01_Of.calls a0 t228 t229 t230 _ A8.out).mono ?_); rintro e w11 ⟨rfl, hb⟩; refine ⟨_, rfl, ?_⟩; have n0_ := Aside0.mk (below_step (by repeat (first | (with_reducible first | exact HB.out | apply below_alloc | apply pw_below_drewN | apply below_drew1) | exact HB.out)) hb); clear HB; have HB := n0_; clear n0_; (try clear hb); (try clear hb2); (try clear hk); (try clear hi)) | ((with_reducible refine gate_callee (f := 15) rfl ?_); refine goesL_ (some 26) rfl rfl Try.func15 (by kernel_rfl) rfl #[.int .i64 a1] rfl (by (try simp only [List.map_toArray, List.map_cons, List.map_nil]); first | done | rfl | (simp only [List.length_drop, List.length_take]; rfl)) ?_; (with_reducible refine (gangerref01_Of.calls a1 t231 t232 t233 _ A9.out).mono ?_); rintro e w12 ⟨rfl, hb⟩; refine ⟨_, rfl, ?_⟩; have n0_ := Aside0.mk (below_step (by repeat (first | (with_reducible first | exact HB.out | apply below_alloc | apply pw_below_drewN | apply below_drew1) | exact HB.out)) hb); clear HB; have HB := n0_; clear n0_; (try clear hb); (try clear hb2); (try clear hk); (try clear hi)) | ((with_reducible refine gate_callee (f := 14) rfl ?_); refine goesL_ (some 27) rfl rfl Try.func14 (by kernel_rfl) rfl #[.agg #[.bool t228, .int .u64 t229, .int .u64 t230], .agg #[.bool t231, .int .u64 t232, .int .u64 t233]] rfl (by (try simp only [List.map_toArray, List.map_cons, List.map_nil]); first | done | rfl | (simp only [List.length_drop, List.length_take]; rfl)) ?_; (with_reducible refine (gangerref01_Product.calls kj3 t228 t229 t230 t231 t232 t233 t234 t235 t236 _ A10.out).mono ?_); rintro e w13 ⟨rfl, hb⟩; refine ⟨_, rfl, ?_⟩; have n0_ := Aside0.mk (below_step (by repeat (first | (with_reducible first | exact HB.out | apply below_alloc | apply pw_below_drewN | apply below_drew1) | exact HB.out)) hb); clear HB; have HB := n0_; clear n0_; (try clear hb); (try clear hb2); (try clear hk); (try clear hi)) | ((with_reducible refine gate_dst (N := 8) rfl ?_); refine box_event ?hg (N := 8) ?hd (cs := #[.bool false, .int .u64 0, .int .u64 0]) (t := 28) ?hr ?_; (case hd => rfl); (case hg => rfl); (case hr => first | (go_simp; done) | (go_simp; rfl)); intro gb237 hg w14 hbox hb; have n0_ := Aside0.mk (below_step (by repeat (first | (with_reducible first | exact HB.out | apply below_alloc | apply pw_below_drewN | apply below_drew1) | exact HB.out)) hb); have n1_ := Aside0.mk (hbox); have n2_ := Aside0.mk ((by rw [hg]; exact (below_size (by repeat (first | (with_reducible first | exact HB.out | apply below_alloc | apply pw_below_drewN | apply below_drew1) | exact HB.out))) : w.heap.size ≤ gb237)); have n3_ := Aside0.mk ((by rw [hg]; exact (below_size (by repeat (first | (with_reducible first | exact HB.out | apply below_alloc | apply pw_below_drewN | apply below_drew1) | exact HB.out))) : w.heap.size ≤ gb237)); clear HB; have HB := n0_; have BK237 := n1_; have GW237 := n2_; have GE237 := n3_; clear n0_ n1_ n2_ n3_; clear hb hbox hg; have hcz15_0 : w14.cell? ⟨gb237, 0, none⟩ = some (.bool false) := (blk_cell BK237.out 0).trans rfl; have hcz15_1 : w14.cell? ⟨gb237, 1, none⟩ = some (.int .u64 0) := (blk_cell BK237.out 1).trans rfl; have hcz15_2 : w14.cell? ⟨gb237, 2, none⟩ = some (.int .u64 0) := (blk_cell BK237.out 2).trans rfl; have hfz15_0 := blk_frozen BK237.out 0; have hfz15_1 := blk_frozen BK237.out 1; have hfz15_2 := blk_frozen BK237.out 2) | ((with_reducible refine gate_dst (N := 9) rfl ?_); refine box_event ?hg (N := 9) ?hd (cs := #[.bool false, .int .u64 0, .int .u64 0]) (t := 28) ?hr ?_; (case hd => rfl); (case hg => rfl); (case hr => first | (go_simp; done) | (go_simp; rfl)); intro gb238 hg w16 hbox hb; have n0_ := Aside0.mk (blk_below (g := gb237) (o := .cells #[.bool t234, .int .u64 t235, .int .u64 t236] 28 (0, 0)) (by (with_reducible repeat (first | refine blk_drewN ?_ _ | refine blk_drew ?_ | refine blk_alloc ?_ _)); refine blk_put (cs := #[.bool t234, .int .u64 t235, .int .u64 0]) ?_ 2 _ rfl; (with_reducible repeat (first | refine blk_drewN ?_ _ | refine blk_drew ?_ | refine blk_alloc ?_ _)); refine blk_put (cs := #[.bool t234, .int .u64 0, .int .u64 0]) ?_ 1 _ rfl; (with_reducible repeat (first | refine blk_drewN ?_ _ | refine blk_drew ?_ | refine blk_alloc ?_ _)); refine blk_put (cs := #[.bool false, .int .u64 0, .int .u64 0]) ?_ 0 _ rfl; (with_reducible repeat (first | refine blk_drewN ?_ _ | refine blk_drew ?_ | refine blk_alloc ?_ _)); exact BK237.out) hb); have n1_ := Aside0.mk (below_step (by repeat (first | (with_reducible first | exact HB.out | apply below_alloc | apply pw_below_drewN | apply below_drew1 | refine below_set ?_ GE237.out) | exact HB.out)) hb); have n2_ := Aside0.mk (hbox); have n3_ := Aside0.mk ((by rw [hg]; exact (below_size (by repeat (first | (with_reducible first | exact HB.out | apply below_alloc | apply pw_below_drewN | apply below_drew1 | refine below_set ?_ GE237.out) | exact HB.out))) : w.heap.size ≤ gb238)); have n4_ := Aside0.mk ((by rw [hg]; exact (below_size (by repeat (first | (with_reducible first | exact HB.out | apply below_alloc | apply pw_below_drewN | apply below_drew1 | refine below_set ?_ GE237.out) | exact HB.out))) : w.heap.size ≤ gb238)); have n5_ := Aside0.mk ((by rw [hg]; exact Nat.ne_of_lt (blk_lt (g := gb237) (o := .cells #[.bool t234, .int .u64 t235, .int .u64 t236] 28 (0, 0)) (by (with_reducible repeat (first | refine blk_drewN ?_ _ | refine blk_drew ?_ | refine blk_alloc ?_ _)); refine blk_put (cs := #[.bool t234, .int .u64 t235, .int .u64 0]) ?_ 2 _ rfl; (with_reducible repeat (first | refine blk_drewN ?_ _ | refine blk_drew ?_ | refine blk_alloc ?_ _)); refine blk_put (cs := #[.bool t234, .int .u64 0, .int .u64 0]) ?_ 1 _ rfl; (with_reducible repeat (first | refine blk_drewN ?_ _ | refine blk_drew ?_ | refine blk_alloc ?_ _)); refine blk_put (cs := #[.bool false, .int .u64 0, .int .u64 0]) ?_ 0 _ rfl; (with_reducible repeat (first | refine blk_drewN ?_ _ | refine blk_drew ?_ | refine blk_alloc ?_ _)); exact BK237.out)) : gb237 ≠ gb238)); have n6_ := Aside0.mk ((by rw [hg]; exact Nat.ne_of_gt (blk_lt (g := gb237) (o := .cells #[.bool t234, .int .u64 t235, .int .u64 t236] 28 (0, 0)) (by (with_reducible repeat (first | refine blk_drewN ?_ _ | refine blk_drew ?_ | refine blk_alloc ?_ _)); refine blk_put (cs := #[.bool t234, .int .u64 t235, .int .u64 0]) ?_ 2 _ rfl; (with_reducible repeat (first | refine blk_drewN ?_ _ | refine blk_drew ?_ | refine blk_alloc ?_ _)); refine blk_put (cs := #[.bool t234, .int .u64 0, .int .u64 0]) ?_ 1 _ rfl; (with_reducible repeat (first | refine blk_drewN ?_ _ | refine blk_drew ?_ | refine blk_alloc ?_ _)); refine blk_put (cs := #[.bool false, .int .u64 0, .int .u64 0]) ?_ 0 _ rfl; (with_reducible repeat (first | refine blk_drewN ?_ _ | refine blk_drew ?_ | refine blk_alloc ?_ _)); exact BK237.out)) : gb238 ≠ gb237)); clear BK237; clear HB; have BK237 := n0_; have HB := n1_; have BK238 := n2_; have GW238 := n3_; have GE238 := n4_; have NB237_238 := n5_; have NB238_237 := n6_; clear n0_ n1_ n2_ n3_ n4_ n5_ n6_; clear hb hbox hg; have hnb17 := NB238_237.out; have hnc17 := NB237_238.out; have hcz18_0 : w16.cell? ⟨gb238, 0, none⟩ = some (.bool false) := (blk_cell BK238.out 0).trans rfl; have hcz18_1 : w16.cell? ⟨gb238, 1, none⟩ = some (.int .u64 0) := (blk_cell BK238.out 1).trans rfl; have hcz18_2 : w16.cell? ⟨gb238, 2, none⟩ = some (.int .u64 0) := (blk_cell BK238.out 2).trans rfl; have hfz18_0 := blk_frozen BK238.out 0; have hfz18_1 := blk_frozen BK238.out 1; have hfz18_2 := blk_frozen BK238.out 2))
        go_loopg [10, 11] kj3 (fun kq v10 v11 w' => ∃ (x10_2 : Int) (x11_2 : Int) (x239000_2 : Bool) (x239001_2 : Int) (x239002_2 : Int), v10 = .int .u64 x10_2 ∧ v11 = .int .i64 x11_2 ∧ Aside0 (gangerref01_MulDiv.l0 kq a2 x10_2 x11_2 t234 t235 t236 x239000_2 x239001_2 x239002_2 = some (r1, r2)) ∧ Aside0 (kq ≤ kj3) ∧ Aside0 (w'.heap[gb237]? = some (.cells #[.bool t234, .int .u64 t235, .int .u64 t236] 28 (0, 0))) ∧ Aside0 (w'.heap[gb238]? = some (.cells #[.bool x239000_2, .int .u64 x239001_2, .int .u64 x239002_2] 28 (0, 0))) ∧ Aside0 (Below w.heap.size w w'))
        case atStart => exact ⟨(0), (127), (false), (0), (0), (by first | rfl | (simp; done) | (simp [*]; done)), (by first | rfl | (simp; done) | (simp [*]; done)), H', ⟨Nat.le_refl _⟩, ⟨by (with_reducible repeat (first | refine blk_drewN ?_ _ | refine blk_drew ?_ | refine blk_alloc ?_ _)); refine blk_far ?_ NB237_238.out _; (with_reducible repeat (first | refine blk_drewN ?_ _ | refine blk_drew ?_ | refine blk_alloc ?_ _)); refine blk_far ?_ NB237_238.out _; (with_reducible repeat (first | refine blk_drewN ?_ _ | refine blk_drew ?_ | refine blk_alloc ?_ _)); refine blk_far ?_ NB237_238.out _; (with_reducible repeat (first | refine blk_drewN ?_ _ | refine blk_drew ?_ | refine blk_alloc ?_ _)); exact BK237.out⟩, ⟨by (with_reducible repeat (first | refine blk_drewN ?_ _ | refine blk_drew ?_ | refine blk_alloc ?_ _)); refine blk_put (cs := #[.bool false, .int .u64 0, .int .u64 0]) ?_ 2 _ rfl; (with_reducible repeat (first | refine blk_drewN ?_ _ | refine blk_drew ?_ | refine blk_alloc ?_ _)); refine blk_put (cs := #[.bool false, .int .u64 0, .int .u64 0]) ?_ 1 _ rfl; (with_reducible repeat (first | refine blk_drewN ?_ _ | refine blk_drew ?_ | refine blk_alloc ?_ _)); refine blk_put (cs := #[.bool false, .int .u64 0, .int .u64 0]) ?_ 0 _ rfl; (with_reducible repeat (first | refine blk_drewN ?_ _ | refine blk_drew ?_ | refine blk_alloc ?_ _)); exact BK238.out⟩, ⟨by repeat (first | (with_reducible first | exact HB.out | apply below_alloc | apply pw_below_drewN | apply below_drew1 | refine below_set ?_ GE237.out | refine below_set ?_ GE238.out) | exact HB.out)⟩⟩
        case round =>
          clear H'
          try clear c1
          try clear c2
          try clear p2
          try clear c5
          try clear c5b0
          try clear c6
          try clear c6b0
          try clear c7
          try clear c14
          try clear c15
          try clear c17
          try clear hcz15_0
          try clear hcz15_1
          try clear hcz15_2
          try clear hcz18_0
          try clear hcz18_1
          try clear hcz18_2
          try clear hfz15_0
          try clear hfz15_1
          try clear hfz15_2
          try clear hfz18_0
          try clear hfz18_1
          try clear hfz18_2
          try clear p2
          obtain ⟨x10_2, x11_2, x239000_2, x239001_2, x239002_2, rfl, rfl, HA, HK2, BK237, BK238, HB⟩ := hrel
          cases gk with
          | zero => exact absurd HA.out (by simp [gangerref01_MulDiv.l0])
          | succ k2 =>
            have H := HA.out
            clear HA
            simp only [gangerref01_MulDiv.l0] at H
            by_cases c19 : x11_2 ≥ 0
            · rw [if_pos c19] at H
              have c19b0 : decide (0 ≤ x11_2) = true := decide_eq_true c19
              clear c19
              obtain ⟨ji20, hji20⟩ : ∃ j_ : Int, (IntKind.u64.wrap (Int.tmod x11_2 64)) = j_ := ⟨_, rfl⟩
              replace H : (if 0 ≤ (ji20) then (if x11_2 ≥ 64 then (if 0 ≤ (IntKind.u64.wrap (wrap64 (x11_2 - 64))) then ((gangerref01_plus.f x239000_2 x239001_2 x239002_2 x239000_2 x239001_2 x239002_2).bind fun bt241 => (if (IntKind.u64.wrap ((IntKind.u64.wrap (x10_2 * 2)) + (Int.tmod (shr .u64 t235 (IntKind.u64.wrap (wrap64 (x11_2 - 64)))) 2))) ≥ (IntKind.u64.wrap (a2)) then (gangerref01_MulDiv.l0 k2 a2 (IntKind.u64.wrap ((IntKind.u64.wrap ((IntKind.u64.wrap (x10_2 * 2)) + (Int.tmod (shr .u64 t235 (IntKind.u64.wrap (wrap64 (x11_2 - 64)))) 2))) - (IntKind.u64.wrap (a2)))) (wrap64 (x11_2 - 1)) t234 t235 t236 bt241.1 bt241.2.1 (IntKind.u64.wrap (bt241.2.2 + 1))) else (gangerref01_MulDiv.l0 k2 a2 (IntKind.u64.wrap ((IntKind.u64.wrap (x10_2 * 2)) + (Int.tmod (shr .u64 t235 (IntKind.u64.wrap (wrap64 (x11_2 - 64)))) 2))) (wrap64 (x11_2 - 1)) t234 t235 t236 bt241.1 bt241.2.1 bt241.2.2))) else (none)) else ((gangerref01_plus.f x239000_2 x239001_2 x239002_2 x239000_2 x239001_2 x239002_2).bind fun bt244 => (if (IntKind.u64.wrap ((IntKind.u64.wrap (x10_2 * 2)) + (Int.tmod (shr .u64 t236 (ji20)) 2))) ≥ (IntKind.u64.wrap (a2)) then (gangerref01_MulDiv.l0 k2 a2 (IntKind.u64.wrap ((IntKind.u64.wrap ((IntKind.u64.wrap (x10_2 * 2)) + (Int.tmod (shr .u64 t236 (ji20)) 2))) - (IntKind.u64.wrap (a2)))) (wrap64 (x11_2 - 1)) t234 t235 t236 bt244.1 bt244.2.1 (IntKind.u64.wrap (bt244.2.2 + 1))) else (gangerref01_MulDiv.l0 k2 a2 (IntKind.u64.wrap ((IntKind.u64.wrap (x10_2 * 2)) + (Int.tmod (shr .u64 t236 (ji20)) 2))) (wrap64 (x11_2 - 1)) t234 t235 t236 bt244.1 bt244.2.1 bt244.2.2)))) else (none)) = some (r1, r2) := by first | (rw [hji20] at H; exact H) | (simp only [hji20] at H ⊢; exact H)
              by_cases c21 : 0 ≤ (ji20)
              · rw [if_pos c21] at H
                have c21b0 := eq_true c21
                have c21b1 : decide (0 ≤ (ji20)) = true := decide_eq_true c21
                clear c21
                obtain ⟨ji22, hji22⟩ : ∃ j_ : Int, (shr .u64 t236 (ji20)) = j_ := ⟨_, rfl⟩
                replace H : (if x11_2 ≥ 64 then (if 0 ≤ (IntKind.u64.wrap (wrap64 (x11_2 - 64))) then ((gangerref01_plus.f x239000_2 x239001_2 x239002_2 x239000_2 x239001_2 x239002_2).bind fun bt241 => (if (IntKind.u64.wrap ((IntKind.u64.wrap (x10_2 * 2)) + (Int.tmod (shr .u64 t235 (IntKind.u64.wrap (wrap64 (x11_2 - 64)))) 2))) ≥ (IntKind.u64.wrap (a2)) then (gangerref01_MulDiv.l0 k2 a2 (IntKind.u64.wrap ((IntKind.u64.wrap ((IntKind.u64.wrap (x10_2 * 2)) + (Int.tmod (shr .u64 t235 (IntKind.u64.wrap (wrap64 (x11_2 - 64)))) 2))) - (IntKind.u64.wrap (a2)))) (wrap64 (x11_2 - 1)) t234 t235 t236 bt241.1 bt241.2.1 (IntKind.u64.wrap (bt241.2.2 + 1))) else (gangerref01_MulDiv.l0 k2 a2 (IntKind.u64.wrap ((IntKind.u64.wrap (x10_2 * 2)) + (Int.tmod (shr .u64 t235 (IntKind.u64.wrap (wrap64 (x11_2 - 64)))) 2))) (wrap64 (x11_2 - 1)) t234 t235 t236 bt241.1 bt241.2.1 bt241.2.2))) else (none)) else ((gangerref01_plus.f x239000_2 x239001_2 x239002_2 x239000_2 x239001_2 x239002_2).bind fun bt244 => (if (IntKind.u64.wrap ((IntKind.u64.wrap (x10_2 * 2)) + (Int.tmod (ji22) 2))) ≥ (IntKind.u64.wrap (a2)) then (gangerref01_MulDiv.l0 k2 a2 (IntKind.u64.wrap ((IntKind.u64.wrap ((IntKind.u64.wrap (x10_2 * 2)) + (Int.tmod (ji22) 2))) - (IntKind.u64.wrap (a2)))) (wrap64 (x11_2 - 1)) t234 t235 t236 bt244.1 bt244.2.1 (IntKind.u64.wrap (bt244.2.2 + 1))) else (gangerref01_MulDiv.l0 k2 a2 (IntKind.u64.wrap ((IntKind.u64.wrap (x10_2 * 2)) + (Int.tmod (ji22) 2))) (wrap64 (x11_2 - 1)) t234 t235 t236 bt244.1 bt244.2.1 bt244.2.2)))) = some (r1, r2) := by first | (rw [hji22] at H; exact H) | (simp only [hji22] at H ⊢; exact H)
                have hji22_ : (t236 / 2 ^ min (ji20).toNat 64) = ji22 := hji22
                have hji22z : (ji20) ≤ 64 → (t236 / 2 ^ (ji20).toNat) = ji22 := shr_small hji22
                by_cases c23 : x11_2 ≥ 64
                · rw [if_pos c23] at H
                  have c23b0 : decide (64 ≤ x11_2) = true := decide_eq_true c23
                  clear c23
                  obtain ⟨ji24, hji24⟩ : ∃ j_ : Int, (IntKind.u64.wrap (wrap64 (x11_2 - 64))) = j_ := ⟨_, rfl⟩
                  replace H : (if 0 ≤ (ji24) then ((gangerref01_plus.f x239000_2 x239001_2 x239002_2 x239000_2 x239001_2 x239002_2).bind fun bt241 => (if (IntKind.u64.wrap ((IntKind.u64.wrap (x10_2 * 2)) + (Int.tmod (shr .u64 t235 (ji24)) 2))) ≥ (IntKind.u64.wrap (a2)) then (gangerref01_MulDiv.l0 k2 a2 (IntKind.u64.wrap ((IntKind.u64.wrap ((IntKind.u64.wrap (x10_2 * 2)) + (Int.tmod (shr .u64 t235 (ji24)) 2))) - (IntKind.u64.wrap (a2)))) (wrap64 (x11_2 - 1)) t234 t235 t236 bt241.1 bt241.2.1 (IntKind.u64.wrap (bt241.2.2 + 1))) else (gangerref01_MulDiv.l0 k2 a2 (IntKind.u64.wrap ((IntKind.u64.wrap (x10_2 * 2)) + (Int.tmod (shr .u64 t235 (ji24)) 2))) (wrap64 (x11_2 - 1)) t234 t235 t236 bt241.1 bt241.2.1 bt241.2.2))) else (none)) = some (r1, r2) := by first | (rw [hji24] at H; exact H) | (simp only [hji24] at H ⊢; exact H)
                  by_cases c25 : 0 ≤ (ji24)
                  · rw [if_pos c25] at H
                    have c25b0 := eq_true c25
                    have c25b1 : decide (0 ≤ (ji24)) = true := decide_eq_true c25
                    clear c25
                    obtain ⟨ji26, hji26⟩ : ∃ j_ : Int, (shr .u64 t235 (ji24)) = j_ := ⟨_, rfl⟩
                    replace H : ((gangerref01_plus.f x239000_2 x239001_2 x239002_2 x239000_2 x239001_2 x239002_2).bind fun bt241 => (if (IntKind.u64.wrap ((IntKind.u64.wrap (x10_2 * 2)) + (Int.tmod (ji26) 2))) ≥ (IntKind.u64.wrap (a2)) then (gangerref01_MulDiv.l0 k2 a2 (IntKind.u64.wrap ((IntKind.u64.wrap ((IntKind.u64.wrap (x10_2 * 2)) + (Int.tmod (ji26) 2))) - (IntKind.u64.wrap (a2)))) (wrap64 (x11_2 - 1)) t234 t235 t236 bt241.1 bt241.2.1 (IntKind.u64.wrap (bt241.2.2 + 1))) else (gangerref01_MulDiv.l0 k2 a2 (IntKind.u64.wrap ((IntKind.u64.wrap (x10_2 * 2)) + (Int.tmod (ji26) 2))) (wrap64 (x11_2 - 1)) t234 t235 t236 bt241.1 bt241.2.1 bt241.2.2))) = some (r1, r2) := by first | (rw [hji26] at H; exact H) | (simp only [hji26] at H ⊢; exact H)
                    have hji26_ : (t235 / 2 ^ min (ji24).toNat 64) = ji26 := hji26
                    have hji26z : (ji24) ≤ 64 → (t235 / 2 ^ (ji24).toNat) = ji26 := shr_small hji26
                    replace H := Option.bind_eq_some_iff.mp H
                    obtain ⟨⟨t241, t242, t243⟩, A270, H⟩ := H
                    replace H : (if (IntKind.u64.wrap ((IntKind.u64.wrap (x10_2 * 2)) + (Int.tmod (ji26) 2))) ≥ (IntKind.u64.wrap (a2)) then (gangerref01_MulDiv.l0 k2 a2 (IntKind.u64.wrap ((IntKind.u64.wrap ((IntKind.u64.wrap (x10_2 * 2)) + (Int.tmod (ji26) 2))) - (IntKind.u64.wrap (a2)))) (wrap64 (x11_2 - 1)) t234 t235 t236 t241 t242 (IntKind.u64.wrap (t243 + 1))) else (gangerref01_MulDiv.l0 k2 a2 (IntKind.u64.wrap ((IntKind.u64.wrap (x10_2 * 2)) + (Int.tmod (ji26) 2))) (wrap64 (x11_2 - 1)) t234 t235 t236 t241 t242 t243)) = some (r1, r2) := H
                    have A27 := Aside0.mk A270
                    clear A270
                    by_cases c28 : (IntKind.u64.wrap ((IntKind.u64.wrap (x10_2 * 2)) + (Int.tmod (ji26) 2))) ≥ (IntKind.u64.wrap (a2))
                    · rw [if_pos c28] at H
                      have c28b0 : decide ((IntKind.u64.wrap (a2)) ≤ (IntKind.u64.wrap ((IntKind.u64.wrap (x10_2 * 2)) + (Int.tmod (ji26) 2)))) = true := decide_eq_true c28
                      clear c28
                      have H' := Aside0.mk H
                      clear H
                      have hnb29 := NB237_238.out
                      have hnc29 := NB238_237.out
                      have hcz30_0 : wr.cell? ⟨gb237, 0, none⟩ = some (.bool t234) := (blk_cell BK237.out 0).trans rfl
                      have hcz30_1 : wr.cell? ⟨gb237, 1, none⟩ = some (.int .u64 t235) := (blk_cell BK237.out 1).trans rfl
                      have hcz30_2 : wr.cell? ⟨gb237, 2, none⟩ = some (.int .u64 t236) := (blk_cell BK237.out 2).trans rfl
                      have hfz30_0 := blk_frozen BK237.out 0
                      have hfz30_1 := blk_frozen BK237.out 1
                      have hfz30_2 := blk_frozen BK237.out 2
                      have hcz31_0 : wr.cell? ⟨gb238, 0, none⟩ = some (.bool x239000_2) := (blk_cell BK238.out 0).trans rfl
                      have hcz31_1 : wr.cell? ⟨gb238, 1, none⟩ = some (.int .u64 x239001_2) := (blk_cell BK238.out 1).trans rfl
                      have hcz31_2 : wr.cell? ⟨gb238, 2, none⟩ = some (.int .u64 x239002_2) := (blk_cell BK238.out 2).trans rfl
                      have hfz31_0 := blk_frozen BK238.out 0
                      have hfz31_1 := blk_frozen BK238.out 1
                      have hfz31_2 := blk_frozen BK238.out 2
                      go_wp2_with (first | ((with_reducible refine gate_callee (f := 35) rfl ?_); refine goesL_ (some 55) rfl rfl Try.func35 (by kernel_rfl) rfl #[.agg #[.bool x239000_2, .int .u64 x239001_2, .int .u64 x239002_2], .agg #[.bool x239000_2, .int .u64 x239001_2, .int .u64 x239002_2]] rfl (by (try simp only [List.map_toArray, List.map_cons, List.map_nil]); first | done | rfl | (simp only [List.length_drop, List.length_take]; rfl)) ?_; (with_reducible refine (gangerref01_plus.calls x239000_2 x239001_2 x239002_2 x239000_2 x239001_2 x239002_2 t241 t242 t243 _ A27.out).mono ?_); rintro e w32 ⟨rfl, hb⟩; refine ⟨_, rfl, ?_⟩; have n0_ := Aside0.mk (blk_below (g := gb237) (o := .cells #[.bool t234, .int .u64 t235, .int .u64 t236] 28 (0, 0)) (by (with_reducible repeat (first | refine blk_drewN ?_ _ | refine blk_drew ?_ | refine blk_alloc ?_ _)); exact BK237.out) hb); have n1_ := Aside0.mk (blk_below (g := gb238) (o := .cells #[.bool x239000_2, .int .u64 x239001_2, .int .u64 x239002_2] 28 (0, 0)) (by (with_reducible repeat (first | refine blk_drewN ?_ _ | refine blk_drew ?_ | refine blk_alloc ?_ _)); exact BK238.out) hb); have n2_ := Aside0.mk (below_step (by repeat (first | (with_reducible first | exact HB.out | apply below_alloc | apply pw_below_drewN | apply below_drew1 | refine below_set ?_ GE237.out | refine below_set ?_ GE238.out) | exact HB.out)) hb); clear BK237; clear BK238; clear HB; have BK237 := n0_; have BK238 := n1_; have HB := n2_; clear n0_ n1_ n2_; (try clear hb); (try clear hb2); (try clear hk); (try clear hi); have hcz33_0 : w32.cell? ⟨gb238, 0, none⟩ = some (.bool x239000_2) := (blk_cell BK238.out 0).trans rfl; have hcz33_1 : w32.cell? ⟨gb238, 1, none⟩ = some (.int .u64 x239001_2) := (blk_cell BK238.out 1).trans rfl; have hcz33_2 : w32.cell? ⟨gb238, 2, none⟩ = some (.int .u64 x239002_2) := (blk_cell BK238.out 2).trans rfl; have hfz33_0 := blk_frozen BK238.out 0; have hfz33_1 := blk_frozen BK238.out 1; have hfz33_2 := blk_frozen BK238.out 2))
                      go_roundg k2
                      case measure => have := HJ3.out; have := HK2.out; omega
                      case rel => exact ⟨(IntKind.u64.wrap ((IntKind.u64.wrap ((IntKind.u64.wrap (x10_2 * 2)) + (Int.tmod (ji26) 2))) - (IntKind.u64.wrap (a2)))), (wrap64 (x11_2 - 1)), (t241), (t242), (IntKind.u64.wrap (t243 + 1)), (by first | rfl | (simp; done) | (simp only [← hji26] <;> (first | rfl | simp)) | (simp [*]; done)), (by first | rfl | (simp; done) | (simp [*]; done)), H', ⟨by have := HJ3.out; have := HK2.out; omega⟩, ⟨by (with_reducible repeat (first | refine blk_drewN ?_ _ | refine blk_drew ?_ | refine blk_alloc ?_ _)); refine blk_far ?_ NB237_238.out _; (with_reducible repeat (first | refine blk_drewN ?_ _ | refine blk_drew ?_ | refine blk_alloc ?_ _)); refine blk_far ?_ NB237_238.out _; (with_reducible repeat (first | refine blk_drewN ?_ _ | refine blk_drew ?_ | refine blk_alloc ?_ _)); refine blk_far ?_ NB237_238.out _; (with_reducible repeat (first | refine blk_drewN ?_ _ | refine blk_drew ?_ | refine blk_alloc ?_ _)); refine blk_far ?_ NB237_238.out _; (with_reducible repeat (first | refine blk_drewN ?_ _ | refine blk_drew ?_ | refine blk_alloc ?_ _)); exact BK237.out⟩, ⟨by (with_reducible repeat (first | refine blk_drewN ?_ _ | refine blk_drew ?_ | refine blk_alloc ?_ _)); refine blk_put (cs := #[.bool t241, .int .u64 t242, .int .u64 t243]) ?_ 2 _ rfl; (with_reducible repeat (first | refine blk_drewN ?_ _ | refine blk_drew ?_ | refine blk_alloc ?_ _)); refine blk_put (cs := #[.bool t241, .int .u64 t242, .int .u64 x239002_2]) ?_ 2 _ rfl; (with_reducible repeat (first | refine blk_drewN ?_ _ | refine blk_drew ?_ | refine blk_alloc ?_ _)); refine blk_put (cs := #[.bool t241, .int .u64 x239001_2, .int .u64 x239002_2]) ?_ 1 _ rfl; (with_reducible repeat (first | refine blk_drewN ?_ _ | refine blk_drew ?_ | refine blk_alloc ?_ _)); refine blk_put (cs := #[.bool x239000_2, .int .u64 x239001_2, .int .u64 x239002_2]) ?_ 0 _ rfl; (with_reducible repeat (first | refine blk_drewN ?_ _ | refine blk_drew ?_ | refine blk_alloc ?_ _)); exact BK238.out⟩, ⟨by repeat (first | (with_reducible first | exact HB.out | apply below_alloc | apply pw_below_drewN | apply below_drew1 | refine below_set ?_ GE237.out | refine below_set ?_ GE238.out) | exact HB.out)⟩⟩
                    · rw [if_neg c28] at H
                      have c28b0 : decide ((IntKind.u64.wrap (a2)) ≤ (IntKind.u64.wrap ((IntKind.u64.wrap (x10_2 * 2)) + (Int.tmod (ji26) 2)))) = false := decide_eq_false c28
                      clear c28
                      have H' := Aside0.mk H
                      clear H
                      have hnb34 := NB237_238.out
                      have hnc34 := NB238_237.out
                      have hcz35_0 : wr.cell? ⟨gb237, 0, none⟩ = some (.bool t234) := (blk_cell BK237.out 0).trans rfl
                      have hcz35_1 : wr.cell? ⟨gb237, 1, none⟩ = some (.int .u64 t235) := (blk_cell BK237.out 1).trans rfl
                      have hcz35_2 : wr.cell? ⟨gb237, 2, none⟩ = some (.int .u64 t236) := (blk_cell BK237.out 2).trans rfl
                      have hfz35_0 := blk_frozen BK237.out 0
                      have hfz35_1 := blk_frozen BK237.out 1
                      have hfz35_2 := blk_frozen BK237.out 2
                      have hcz36_0 : wr.cell? ⟨gb238, 0, none⟩ = some (.bool x239000_2) := (blk_cell BK238.out 0).trans rfl
                      have hcz36_1 : wr.cell? ⟨gb238, 1, none⟩ = some (.int .u64 x239001_2) := (blk_cell BK238.out 1).trans rfl
                      have hcz36_2 : wr.cell? ⟨gb238, 2, none⟩ = some (.int .u64 x239002_2) := (blk_cell BK238.out 2).trans rfl
                      have hfz36_0 := blk_frozen BK238.out 0
                      have hfz36_1 := blk_frozen BK238.out 1
                      have hfz36_2 := blk_frozen BK238.out 2
                      go_wp2_with (first | ((with_reducible refine gate_callee (f := 35) rfl ?_); refine goesL_ (some 55) rfl rfl Try.func35 (by kernel_rfl) rfl #[.agg #[.bool x239000_2, .int .u64 x239001_2, .int .u64 x239002_2], .agg #[.bool x239000_2, .int .u64 x239001_2, .int .u64 x239002_2]] rfl (by (try simp only [List.map_toArray, List.map_cons, List.map_nil]); first | done | rfl | (simp only [List.length_drop, List.length_take]; rfl)) ?_; (with_reducible refine (gangerref01_plus.calls x239000_2 x239001_2 x239002_2 x239000_2 x239001_2 x239002_2 t241 t242 t243 _ A27.out).mono ?_); rintro e w37 ⟨rfl, hb⟩; refine ⟨_, rfl, ?_⟩; have n0_ := Aside0.mk (blk_below (g := gb237) (o := .cells #[.bool t234, .int .u64 t235, .int .u64 t236] 28 (0, 0)) (by (with_reducible repeat (first | refine blk_drewN ?_ _ | refine blk_drew ?_ | refine blk_alloc ?_ _)); exact BK237.out) hb); have n1_ := Aside0.mk (blk_below (g := gb238) (o := .cells #[.bool x239000_2, .int .u64 x239001_2, .int .u64 x239002_2] 28 (0, 0)) (by (with_reducible repeat (first | refine blk_drewN ?_ _ | refine blk_drew ?_ | refine blk_alloc ?_ _)); exact BK238.out) hb); have n2_ := Aside0.mk (below_step (by repeat (first | (with_reducible first | exact HB.out | apply below_alloc | apply pw_below_drewN | apply below_drew1 | refine below_set ?_ GE237.out | refine below_set ?_ GE238.out) | exact HB.out)) hb); clear BK237; clear BK238; clear HB; have BK237 := n0_; have BK238 := n1_; have HB := n2_; clear n0_ n1_ n2_; (try clear hb); (try clear hb2); (try clear hk); (try clear hi); have hcz38_0 : w37.cell? ⟨gb238, 0, none⟩ = some (.bool x239000_2) := (blk_cell BK238.out 0).trans rfl; have hcz38_1 : w37.cell? ⟨gb238, 1, none⟩ = some (.int .u64 x239001_2) := (blk_cell BK238.out 1).trans rfl; have hcz38_2 : w37.cell? ⟨gb238, 2, none⟩ = some (.int .u64 x239002_2) := (blk_cell BK238.out 2).trans rfl; have hfz38_0 := blk_frozen BK238.out 0; have hfz38_1 := blk_frozen BK238.out 1; have hfz38_2 := blk_frozen BK238.out 2))
                      go_roundg k2
                      case measure => have := HJ3.out; have := HK2.out; omega
                      case rel => exact ⟨(IntKind.u64.wrap ((IntKind.u64.wrap (x10_2 * 2)) + (Int.tmod (ji26) 2))), (wrap64 (x11_2 - 1)), (t241), (t242), (t243), (by first | rfl | (simp; done) | (simp only [← hji26] <;> (first | rfl | simp)) | (simp [*]; done)), (by first | rfl | (simp; done) | (simp [*]; done)), H', ⟨by have := HJ3.out; have := HK2.out; omega⟩, ⟨by (with_reducible repeat (first | refine blk_drewN ?_ _ | refine blk_drew ?_ | refine blk_alloc ?_ _)); refine blk_far ?_ NB237_238.out _; (with_reducible repeat (first | refine blk_drewN ?_ _ | refine blk_drew ?_ | refine blk_alloc ?_ _)); refine blk_far ?_ NB237_238.out _; (with_reducible repeat (first | refine blk_drewN ?_ _ | refine blk_drew ?_ | refine blk_alloc ?_ _)); refine blk_far ?_ NB237_238.out _; (with_reducible repeat (first | refine blk_drewN ?_ _ | refine blk_drew ?_ | refine blk_alloc ?_ _)); exact BK237.out⟩, ⟨by (with_reducible repeat (first | refine blk_drewN ?_ _ | refine blk_drew ?_ | refine blk_alloc ?_ _)); refine blk_put (cs := #[.bool t241, .int .u64 t242, .int .u64 x239002_2]) ?_ 2 _ rfl; (with_reducible repeat (first | refine blk_drewN ?_ _ | refine blk_drew ?_ | refine blk_alloc ?_ _)); refine blk_put (cs := #[.bool t241, .int .u64 x239001_2, .int .u64 x239002_2]) ?_ 1 _ rfl; (with_reducible repeat (first | refine blk_drewN ?_ _ | refine blk_drew ?_ | refine blk_alloc ?_ _)); refine blk_put (cs := #[.bool x239000_2, .int .u64 x239001_2, .int .u64 x239002_2]) ?_ 0 _ rfl; (with_reducible repeat (first | refine blk_drewN ?_ _ | refine blk_drew ?_ | refine blk_alloc ?_ _)); exact BK238.out⟩, ⟨by repeat (first | (with_reducible first | exact HB.out | apply below_alloc | apply pw_below_drewN | apply below_drew1 | refine below_set ?_ GE237.out | refine below_set ?_ GE238.out) | exact HB.out)⟩⟩
                  · rw [if_neg c25] at H
                    exact absurd H (by simp)
                · rw [if_neg c23] at H
                  have c23b0 : decide (64 ≤ x11_2) = false := decide_eq_false c23
                  clear c23
                  replace H := Option.bind_eq_some_iff.mp H
                  obtain ⟨⟨t244, t245, t246⟩, A390, H⟩ := H
                  replace H : (if (IntKind.u64.wrap ((IntKind.u64.wrap (x10_2 * 2)) + (Int.tmod (ji22) 2))) ≥ (IntKind.u64.wrap (a2)) then (gangerref01_MulDiv.l0 k2 a2 (IntKind.u64.wrap ((IntKind.u64.wrap ((IntKind.u64.wrap (x10_2 * 2)) + (Int.tmod (ji22) 2))) - (IntKind.u64.wrap (a2)))) (wrap64 (x11_2 - 1)) t234 t235 t236 t244 t245 (IntKind.u64.wrap (t246 + 1))) else (gangerref01_MulDiv.l0 k2 a2 (IntKind.u64.wrap ((IntKind.u64.wrap (x10_2 * 2)) + (Int.tmod (ji22) 2))) (wrap64 (x11_2 - 1)) t234 t235 t236 t244 t245 t246)) = some (r1, r2) := H
                  have A39 := Aside0.mk A390
                  clear A390
                  by_cases c40 : (IntKind.u64.wrap ((IntKind.u64.wrap (x10_2 * 2)) + (Int.tmod (ji22) 2))) ≥ (IntKind.u64.wrap (a2))
                  · rw [if_pos c40] at H
                    have c40b0 : decide ((IntKind.u64.wrap (a2)) ≤ (IntKind.u64.wrap ((IntKind.u64.wrap (x10_2 * 2)) + (Int.tmod (ji22) 2)))) = true := decide_eq_true c40
                    clear c40
                    have H' := Aside0.mk H
                    clear H
                    have hnb41 := NB237_238.out
                    have hnc41 := NB238_237.out
                    have hcz42_0 : wr.cell? ⟨gb237, 0, none⟩ = some (.bool t234) := (blk_cell BK237.out 0).trans rfl
                    have hcz42_1 : wr.cell? ⟨gb237, 1, none⟩ = some (.int .u64 t235) := (blk_cell BK237.out 1).trans rfl
                    have hcz42_2 : wr.cell? ⟨gb237, 2, none⟩ = some (.int .u64 t236) := (blk_cell BK237.out 2).trans rfl
                    have hfz42_0 := blk_frozen BK237.out 0
                    have hfz42_1 := blk_frozen BK237.out 1
                    have hfz42_2 := blk_frozen BK237.out 2
                    have hcz43_0 : wr.cell? ⟨gb238, 0, none⟩ = some (.bool x239000_2) := (blk_cell BK238.out 0).trans rfl
                    have hcz43_1 : wr.cell? ⟨gb238, 1, none⟩ = some (.int .u64 x239001_2) := (blk_cell BK238.out 1).trans rfl
                    have hcz43_2 : wr.cell? ⟨gb238, 2, none⟩ = some (.int .u64 x239002_2) := (blk_cell BK238.out 2).trans rfl
                    have hfz43_0 := blk_frozen BK238.out 0
                    have hfz43_1 := blk_frozen BK238.out 1
                    have hfz43_2 := blk_frozen BK238.out 2
                    go_wp2_with (first | ((with_reducible refine gate_callee (f := 35) rfl ?_); refine goesL_ (some 55) rfl rfl Try.func35 (by kernel_rfl) rfl #[.agg #[.bool x239000_2, .int .u64 x239001_2, .int .u64 x239002_2], .agg #[.bool x239000_2, .int .u64 x239001_2, .int .u64 x239002_2]] rfl (by (try simp only [List.map_toArray, List.map_cons, List.map_nil]); first | done | rfl | (simp only [List.length_drop, List.length_take]; rfl)) ?_; (with_reducible refine (gangerref01_plus.calls x239000_2 x239001_2 x239002_2 x239000_2 x239001_2 x239002_2 t244 t245 t246 _ A39.out).mono ?_); rintro e w44 ⟨rfl, hb⟩; refine ⟨_, rfl, ?_⟩; have n0_ := Aside0.mk (blk_below (g := gb237) (o := .cells #[.bool t234, .int .u64 t235, .int .u64 t236] 28 (0, 0)) (by (with_reducible repeat (first | refine blk_drewN ?_ _ | refine blk_drew ?_ | refine blk_alloc ?_ _)); exact BK237.out) hb); have n1_ := Aside0.mk (blk_below (g := gb238) (o := .cells #[.bool x239000_2, .int .u64 x239001_2, .int .u64 x239002_2] 28 (0, 0)) (by (with_reducible repeat (first | refine blk_drewN ?_ _ | refine blk_drew ?_ | refine blk_alloc ?_ _)); exact BK238.out) hb); have n2_ := Aside0.mk (below_step (by repeat (first | (with_reducible first | exact HB.out | apply below_alloc | apply pw_below_drewN | apply below_drew1 | refine below_set ?_ GE237.out | refine below_set ?_ GE238.out) | exact HB.out)) hb); clear BK237; clear BK238; clear HB; have BK237 := n0_; have BK238 := n1_; have HB := n2_; clear n0_ n1_ n2_; (try clear hb); (try clear hb2); (try clear hk); (try clear hi); have hcz45_0 : w44.cell? ⟨gb238, 0, none⟩ = some (.bool x239000_2) := (blk_cell BK238.out 0).trans rfl; have hcz45_1 : w44.cell? ⟨gb238, 1, none⟩ = some (.int .u64 x239001_2) := (blk_cell BK238.out 1).trans rfl; have hcz45_2 : w44.cell? ⟨gb238, 2, none⟩ = some (.int .u64 x239002_2) := (blk_cell BK238.out 2).trans rfl; have hfz45_0 := blk_frozen BK238.out 0; have hfz45_1 := blk_frozen BK238.out 1; have hfz45_2 := blk_frozen BK238.out 2))
                    go_roundg k2
                    case measure => have := HJ3.out; have := HK2.out; omega
                    case rel => exact ⟨(IntKind.u64.wrap ((IntKind.u64.wrap ((IntKind.u64.wrap (x10_2 * 2)) + (Int.tmod (ji22) 2))) - (IntKind.u64.wrap (a2)))), (wrap64 (x11_2 - 1)), (t244), (t245), (IntKind.u64.wrap (t246 + 1)), (by first | rfl | (simp; done) | (simp only [← hji22] <;> (first | rfl | simp)) | (simp [*]; done)), (by first | rfl | (simp; done) | (simp [*]; done)), H', ⟨by have := HJ3.out; have := HK2.out; omega⟩, ⟨by (with_reducible repeat (first | refine blk_drewN ?_ _ | refine blk_drew ?_ | refine blk_alloc ?_ _)); refine blk_far ?_ NB237_238.out _; (with_reducible repeat (first | refine blk_drewN ?_ _ | refine blk_drew ?_ | refine blk_alloc ?_ _)); refine blk_far ?_ NB237_238.out _; (with_reducible repeat (first | refine blk_drewN ?_ _ | refine blk_drew ?_ | refine blk_alloc ?_ _)); refine blk_far ?_ NB237_238.out _; (with_reducible repeat (first | refine blk_drewN ?_ _ | refine blk_drew ?_ | refine blk_alloc ?_ _)); refine blk_far ?_ NB237_238.out _; (with_reducible repeat (first | refine blk_drewN ?_ _ | refine blk_drew ?_ | refine blk_alloc ?_ _)); exact BK237.out⟩, ⟨by (with_reducible repeat (first | refine blk_drewN ?_ _ | refine blk_drew ?_ | refine blk_alloc ?_ _)); refine blk_put (cs := #[.bool t244, .int .u64 t245, .int .u64 t246]) ?_ 2 _ rfl; (with_reducible repeat (first | refine blk_drewN ?_ _ | refine blk_drew ?_ | refine blk_alloc ?_ _)); refine blk_put (cs := #[.bool t244, .int .u64 t245, .int .u64 x239002_2]) ?_ 2 _ rfl; (with_reducible repeat (first | refine blk_drewN ?_ _ | refine blk_drew ?_ | refine blk_alloc ?_ _)); refine blk_put (cs := #[.bool t244, .int .u64 x239001_2, .int .u64 x239002_2]) ?_ 1 _ rfl; (with_reducible repeat (first | refine blk_drewN ?_ _ | refine blk_drew ?_ | refine blk_alloc ?_ _)); refine blk_put (cs := #[.bool x239000_2, .int .u64 x239001_2, .int .u64 x239002_2]) ?_ 0 _ rfl; (with_reducible repeat (first | refine blk_drewN ?_ _ | refine blk_drew ?_ | refine blk_alloc ?_ _)); exact BK238.out⟩, ⟨by repeat (first | (with_reducible first | exact HB.out | apply below_alloc | apply pw_below_drewN | apply below_drew1 | refine below_set ?_ GE237.out | refine below_set ?_ GE238.out) | exact HB.out)⟩⟩
                  · rw [if_neg c40] at H
                    have c40b0 : decide ((IntKind.u64.wrap (a2)) ≤ (IntKind.u64.wrap ((IntKind.u64.wrap (x10_2 * 2)) + (Int.tmod (ji22) 2)))) = false := decide_eq_false c40
                    clear c40
                    have H' := Aside0.mk H
                    clear H
                    have hnb46 := NB237_238.out
                    have hnc46 := NB238_237.out
                    have hcz47_0 : wr.cell? ⟨gb237, 0, none⟩ = some (.bool t234) := (blk_cell BK237.out 0).trans rfl
                    have hcz47_1 : wr.cell? ⟨gb237, 1, none⟩ = some (.int .u64 t235) := (blk_cell BK237.out 1).trans rfl
                    have hcz47_2 : wr.cell? ⟨gb237, 2, none⟩ = some (.int .u64 t236) := (blk_cell BK237.out 2).trans rfl
                    have hfz47_0 := blk_frozen BK237.out 0
                    have hfz47_1 := blk_frozen BK237.out 1
                    have hfz47_2 := blk_frozen BK237.out 2
                    have hcz48_0 : wr.cell? ⟨gb238, 0, none⟩ = some (.bool x239000_2) := (blk_cell BK238.out 0).trans rfl
                    have hcz48_1 : wr.cell? ⟨gb238, 1, none⟩ = some (.int .u64 x239001_2) := (blk_cell BK238.out 1).trans rfl
                    have hcz48_2 : wr.cell? ⟨gb238, 2, none⟩ = some (.int .u64 x239002_2) := (blk_cell BK238.out 2).trans rfl
                    have hfz48_0 := blk_frozen BK238.out 0
                    have hfz48_1 := blk_frozen BK238.out 1
                    have hfz48_2 := blk_frozen BK238.out 2
                    go_wp2_with (first | ((with_reducible refine gate_callee (f := 35) rfl ?_); refine goesL_ (some 55) rfl rfl Try.func35 (by kernel_rfl) rfl #[.agg #[.bool x239000_2, .int .u64 x239001_2, .int .u64 x239002_2], .agg #[.bool x239000_2, .int .u64 x239001_2, .int .u64 x239002_2]] rfl (by (try simp only [List.map_toArray, List.map_cons, List.map_nil]); first | done | rfl | (simp only [List.length_drop, List.length_take]; rfl)) ?_; (with_reducible refine (gangerref01_plus.calls x239000_2 x239001_2 x239002_2 x239000_2 x239001_2 x239002_2 t244 t245 t246 _ A39.out).mono ?_); rintro e w49 ⟨rfl, hb⟩; refine ⟨_, rfl, ?_⟩; have n0_ := Aside0.mk (blk_below (g := gb237) (o := .cells #[.bool t234, .int .u64 t235, .int .u64 t236] 28 (0, 0)) (by (with_reducible repeat (first | refine blk_drewN ?_ _ | refine blk_drew ?_ | refine blk_alloc ?_ _)); exact BK237.out) hb); have n1_ := Aside0.mk (blk_below (g := gb238) (o := .cells #[.bool x239000_2, .int .u64 x239001_2, .int .u64 x239002_2] 28 (0, 0)) (by (with_reducible repeat (first | refine blk_drewN ?_ _ | refine blk_drew ?_ | refine blk_alloc ?_ _)); exact BK238.out) hb); have n2_ := Aside0.mk (below_step (by repeat (first | (with_reducible first | exact HB.out | apply below_alloc | apply pw_below_drewN | apply below_drew1 | refine below_set ?_ GE237.out | refine below_set ?_ GE238.out) | exact HB.out)) hb); clear BK237; clear BK238; clear HB; have BK237 := n0_; have BK238 := n1_; have HB := n2_; clear n0_ n1_ n2_; (try clear hb); (try clear hb2); (try clear hk); (try clear hi); have hcz50_0 : w49.cell? ⟨gb238, 0, none⟩ = some (.bool x239000_2) := (blk_cell BK238.out 0).trans rfl; have hcz50_1 : w49.cell? ⟨gb238, 1, none⟩ = some (.int .u64 x239001_2) := (blk_cell BK238.out 1).trans rfl; have hcz50_2 : w49.cell? ⟨gb238, 2, none⟩ = some (.int .u64 x239002_2) := (blk_cell BK238.out 2).trans rfl; have hfz50_0 := blk_frozen BK238.out 0; have hfz50_1 := blk_frozen BK238.out 1; have hfz50_2 := blk_frozen BK238.out 2))
                    go_roundg k2
                    case measure => have := HJ3.out; have := HK2.out; omega
                    case rel => exact ⟨(IntKind.u64.wrap ((IntKind.u64.wrap (x10_2 * 2)) + (Int.tmod (ji22) 2))), (wrap64 (x11_2 - 1)), (t244), (t245), (t246), (by first | rfl | (simp; done) | (simp only [← hji22] <;> (first | rfl | simp)) | (simp [*]; done)), (by first | rfl | (simp; done) | (simp [*]; done)), H', ⟨by have := HJ3.out; have := HK2.out; omega⟩, ⟨by (with_reducible repeat (first | refine blk_drewN ?_ _ | refine blk_drew ?_ | refine blk_alloc ?_ _)); refine blk_far ?_ NB237_238.out _; (with_reducible repeat (first | refine blk_drewN ?_ _ | refine blk_drew ?_ | refine blk_alloc ?_ _)); refine blk_far ?_ NB237_238.out _; (with_reducible repeat (first | refine blk_drewN ?_ _ | refine blk_drew ?_ | refine blk_alloc ?_ _)); refine blk_far ?_ NB237_238.out _; (with_reducible repeat (first | refine blk_drewN ?_ _ | refine blk_drew ?_ | refine blk_alloc ?_ _)); exact BK237.out⟩, ⟨by (with_reducible repeat (first | refine blk_drewN ?_ _ | refine blk_drew ?_ | refine blk_alloc ?_ _)); refine blk_put (cs := #[.bool t244, .int .u64 t245, .int .u64 x239002_2]) ?_ 2 _ rfl; (with_reducible repeat (first | refine blk_drewN ?_ _ | refine blk_drew ?_ | refine blk_alloc ?_ _)); refine blk_put (cs := #[.bool t244, .int .u64 x239001_2, .int .u64 x239002_2]) ?_ 1 _ rfl; (with_reducible repeat (first | refine blk_drewN ?_ _ | refine blk_drew ?_ | refine blk_alloc ?_ _)); refine blk_put (cs := #[.bool x239000_2, .int .u64 x239001_2, .int .u64 x239002_2]) ?_ 0 _ rfl; (with_reducible repeat (first | refine blk_drewN ?_ _ | refine blk_drew ?_ | refine blk_alloc ?_ _)); exact BK238.out⟩, ⟨by repeat (first | (with_reducible first | exact HB.out | apply below_alloc | apply pw_below_drewN | apply below_drew1 | refine below_set ?_ GE237.out | refine below_set ?_ GE238.out) | exact HB.out)⟩⟩
              · rw [if_neg c21] at H
                exact absurd H (by simp)
            · rw [if_neg c19] at H
              have c19b0 : decide (0 ≤ x11_2) = false := decide_eq_false c19
              clear c19
              replace H := Option.bind_eq_some_iff.mp H
              obtain ⟨⟨t239, t240⟩, A510, H⟩ := H
              replace H : (some (t239, t240)) = some (r1, r2) := H
              have A51 := Aside0.mk A510
              clear A510
              simp only [Option.some.injEq, Prod.mk.injEq] at H
              obtain ⟨rfl, rfl⟩ := H
              have hnb52 := NB238_237.out
              have hnc52 := NB237_238.out
              have hcz53_0 : wr.cell? ⟨gb238, 0, none⟩ = some (.bool x239000_2) := (blk_cell BK238.out 0).trans rfl
              have hcz53_1 : wr.cell? ⟨gb238, 1, none⟩ = some (.int .u64 x239001_2) := (blk_cell BK238.out 1).trans rfl
              have hcz53_2 : wr.cell? ⟨gb238, 2, none⟩ = some (.int .u64 x239002_2) := (blk_cell BK238.out 2).trans rfl
              have hfz53_0 := blk_frozen BK238.out 0
              have hfz53_1 := blk_frozen BK238.out 1
              have hfz53_2 := blk_frozen BK238.out 2
              go_wp2_with (first | ((with_reducible refine gate_callee (f := 41) rfl ?_); refine goesL_ (some 69) rfl rfl Try.func41 (by kernel_rfl) rfl #[.agg #[.bool x239000_2, .int .u64 x239001_2, .int .u64 x239002_2]] rfl (by (try simp only [List.map_toArray, List.map_cons, List.map_nil]); first | done | rfl | (simp only [List.length_drop, List.length_take]; rfl)) ?_; (with_reducible refine (gangerref01_told.calls k2 x239000_2 x239001_2 x239002_2 t239 t240 _ A51.out).mono ?_); rintro e w54 ⟨rfl, hb⟩; refine ⟨_, rfl, ?_⟩; have n0_ := Aside0.mk (blk_below (g := gb237) (o := .cells #[.bool t234, .int .u64 t235, .int .u64 t236] 28 (0, 0)) (by (with_reducible repeat (first | refine blk_drewN ?_ _ | refine blk_drew ?_ | refine blk_alloc ?_ _)); exact BK237.out) hb); have n1_ := Aside0.mk (blk_below (g := gb238) (o := .cells #[.bool x239000_2, .int .u64 x239001_2, .int .u64 x239002_2] 28 (0, 0)) (by (with_reducible repeat (first | refine blk_drewN ?_ _ | refine blk_drew ?_ | refine blk_alloc ?_ _)); exact BK238.out) hb); have n2_ := Aside0.mk (below_step (by repeat (first | (with_reducible first | exact HB.out | apply below_alloc | apply pw_below_drewN | apply below_drew1 | refine below_set ?_ GE237.out | refine below_set ?_ GE238.out) | exact HB.out)) hb); clear BK237; clear BK238; clear HB; have BK237 := n0_; have BK238 := n1_; have HB := n2_; clear n0_ n1_ n2_; (try clear hb); (try clear hb2); (try clear hk); (try clear hi)))
              go_ret2
              exact ⟨by first | rfl | (simp [errW_none, errW_some] <;> rfl) | (simp [*, errW_none, errW_some] <;> rfl), by repeat (first | (with_reducible first | exact HB.out | apply below_alloc | apply pw_below_drewN | apply below_drew1 | refine below_set ?_ GE237.out | refine below_set ?_ GE238.out) | exact HB.out)⟩

/-! ### gangerlaw01_NumMulDivs: function 5 -/
def gangerlaw01_NumMulDivs.f (k : Nat) (a0 : Int) (a1 : Int) (a2 : Int) : Option (Bool) := (num_MulDiv.f k a0 a1 a2).bind fun bt247 => ((gangerref01_MulDiv.f k a0 a1 a2).bind fun bt249 => (if bt247.1 = bt249.1 then (if bt247.2 = bt249.2 then ((gangerlaw01_known.f k).bind fun t251 => (some t251)) else (none)) else (none)))
theorem gangerlaw01_NumMulDivs.mono : ∀ a0 a1 a2 k, LeO (gangerlaw01_NumMulDivs.f k a0 a1 a2) (gangerlaw01_NumMulDivs.f (k + 1) a0 a1 a2) := by
  intro a0 a1 a2 k
  unfold gangerlaw01_NumMulDivs.f
  repeat' first
      | (with_reducible exact gangerlaw01_known.mono _)
      | (with_reducible exact gangerref01_MulDiv.mono _ _ _ _)
      | (with_reducible exact num_MulDiv.mono _ _ _ _)
      | (with_reducible exact LeO.refl _)
      | (with_reducible exact LeO.none _)
      | (with_reducible refine LeO.ite ?_ ?_)
      | (with_reducible refine LeO.bind ?_ (fun _ => ?_))
      | exact gangerlaw01_known.mono _
      | exact gangerref01_MulDiv.mono _ _ _ _
      | exact num_MulDiv.mono _ _ _ _
      | exact LeO.none _
      | refine LeO.ite ?_ ?_
      | refine LeO.bind ?_ (fun _ => ?_)
set_option maxHeartbeats 8000000 in
set_option maxRecDepth 100000 in
theorem gangerlaw01_NumMulDivs.calls (k : Nat) (a0 : Int) (a1 : Int) (a2 : Int) (r : Bool) (w : World) (h : gangerlaw01_NumMulDivs.f k a0 a1 a2 = some r) :
    Calls Try.prog 5 #[.int .i64 a0, .int .i64 a1, .int .i64 a2] w fun e w' => e = .returned (.bool r) ∧ Below w.heap.size w w' := by
  have HB := Aside0.mk (Below.refl w.heap.size w)
  have H : ((num_MulDiv.f k a0 a1 a2).bind fun bt247 => ((gangerref01_MulDiv.f k a0 a1 a2).bind fun bt249 => (if bt247.1 = bt249.1 then (if bt247.2 = bt249.2 then ((gangerlaw01_known.f k).bind fun t251 => (some t251)) else (none)) else (none)))) = some r := h
  clear h
  replace H := Option.bind_eq_some_iff.mp H
  obtain ⟨⟨t247, t248⟩, A40, H⟩ := H
  replace H : ((gangerref01_MulDiv.f k a0 a1 a2).bind fun bt249 => (if t247 = bt249.1 then (if t248 = bt249.2 then ((gangerlaw01_known.f k).bind fun t251 => (some t251)) else (none)) else (none))) = some r := H
  have A4 := Aside0.mk A40
  clear A40
  replace H := Option.bind_eq_some_iff.mp H
  obtain ⟨⟨t249, t250⟩, A50, H⟩ := H
  replace H : (if t247 = t249 then (if t248 = t250 then ((gangerlaw01_known.f k).bind fun t251 => (some t251)) else (none)) else (none)) = some r := H
  have A5 := Aside0.mk A50
  clear A50
  by_cases c6 : t247 = t249
  · rw [if_pos c6] at H
    have c6b0 : (t247 == t249) = true := beq_iff_eq.mpr c6
    have c6b1 : (t247 != t249) = false := bne_eq_false_iff_eq.mpr c6
    clear c6
    by_cases c7 : t248 = t250
    · rw [if_pos c7] at H
      have c7b0 : (t248 == t250) = true := beq_iff_eq.mpr c7
      have c7b1 : (t248 != t250) = false := bne_eq_false_iff_eq.mpr c7
      clear c7
      replace H := Option.bind_eq_some_iff.mp H
      obtain ⟨t251, A80, H⟩ := H
      replace H : (some t251) = some r := H
      have A8 := Aside0.mk A80
      clear A80
      obtain rfl := Option.some.inj H
      go_enter Try.func5, Try.ntmps5
      go_wp2_with (first | ((with_reducible refine gate_callee (f := 19) rfl ?_); refine goesL_ (some 15) rfl rfl Try.func19 (by kernel_rfl) rfl #[.int .i64 a0, .int .i64 a1, .int .i64 a2] rfl (by (try simp only [List.map_toArray, List.map_cons, List.map_nil]); first | done | rfl | (simp only [List.length_drop, List.length_take]; rfl)) ?_; (with_reducible refine (num_MulDiv.calls k a0 a1 a2 t247 t248 _ A4.out).mono ?_); rintro e w' ⟨rfl, ⟨nd, rfl⟩⟩; refine ⟨_, rfl, ?_⟩) | ((with_reducible refine gate_callee (f := 20) rfl ?_); refine goesL_ (some 22) rfl rfl Try.func20 (by kernel_rfl) rfl #[.int .i64 a0, .int .i64 a1, .int .i64 a2] rfl (by (try simp only [List.map_toArray, List.map_cons, List.map_nil]); first | done | rfl | (simp only [List.length_drop, List.length_take]; rfl)) ?_; (with_reducible refine (gangerref01_MulDiv.calls k a0 a1 a2 t249 t250 _ A5.out).mono ?_); rintro e w9 ⟨rfl, hb⟩; refine ⟨_, rfl, ?_⟩; have n0_ := Aside0.mk (below_step (by repeat (first | (with_reducible first | exact HB.out | apply below_alloc | apply pw_below_drewN | apply below_drew1) | exact HB.out)) hb); clear HB; have HB := n0_; clear n0_; (try clear hb); (try clear hb2); (try clear hk); (try clear hi)) | (go_at_call 12; (with_reducible refine (gangerlaw01_known.calls k  t251 _ A8.out).mono ?_); rintro e w10 ⟨rfl, hb⟩; have n0_ := Aside0.mk (below_step (by repeat (first | (with_reducible first | exact HB.out | apply below_alloc | apply pw_below_drewN | apply below_drew1) | exact HB.out)) hb); clear HB; have HB := n0_; clear n0_; (try clear hb); (try clear hb2); (try clear hk); (try clear hi)))
      go_ret
      exact ⟨by first | rfl | (simp [errW_none, errW_some] <;> rfl) | (simp [*, errW_none, errW_some] <;> rfl), by repeat (first | (with_reducible first | exact HB.out | apply below_alloc | apply pw_below_drewN | apply below_drew1) | exact HB.out)⟩
    · rw [if_neg c7] at H
      exact absurd H (by simp)
  · rw [if_neg c6] at H
    exact absurd H (by simp)

/-- THE ONE PURE STATEMENT of gangerlaw01_NumMulDivs: yours. -/
def gangerlaw01_NumMulDivs.Pure : Prop := ∀ (a0 : Int) (a1 : Int) (a2 : Int), (Lit.int .i64 a0).wf = true → (Lit.int .i64 a1).wf = true → (Lit.int .i64 a2).wf = true → ∃ k, gangerlaw01_NumMulDivs.f k a0 a1 a2 = some true
theorem gangerlaw01_NumMulDivs.walk (P : gangerlaw01_NumMulDivs.Pure) (a0 : Int) (a1 : Int) (a2 : Int) (w : World) (w0 : (Lit.int .i64 a0).wf = true) (w1 : (Lit.int .i64 a1).wf = true) (w2 : (Lit.int .i64 a2).wf = true) :
    Calls Try.prog 5 #[.int .i64 a0, .int .i64 a1, .int .i64 a2] w fun e w' => e = .returned (.bool true) ∧ Below w.heap.size w w' := by
  obtain ⟨k, h⟩ := P a0 a1 a2 w0 w1 w2
  refine (gangerlaw01_NumMulDivs.calls k a0 a1 a2 true w h).mono ?_
  rintro e w' ⟨rfl, hd⟩
  exact ⟨rfl, hd⟩

/-! ### gangerlaw01_NumShares: function 6 -/
mutual
def gangerlaw01_NumShares.j0 : Nat → Int → List Int → Bool → Option (Bool)
  | 0, _, _, _ => none
  | k + 1, x0, x1, x23 => if x23 = true then ((gangerlaw01_known.f k).bind fun t252 => (some t252)) else (gangerlaw01_NumShares.l0 k x0 x1 0 0)
def gangerlaw01_NumShares.l0 : Nat → Int → List Int → Int → Int → Option (Bool)
  | 0, _, _, _, _ => none
  | k + 1, x0, x1, x5, x6 => if x6 < (x1.length : Int) then (if 0 ≤ x6 then (gangerlaw01_NumShares.l0 k x0 x1 (wrap64 (x5 + (wrap64 (rd x1 x6)))) (wrap64 (x6 + 1))) else (none)) else (if x5 = 0 then ((num_MulDiv.f k x0 1 x5).bind fun bt254 => (if bt254.2 = 2 then ((gangerlaw01_known.f k).bind fun t256 => (some t256)) else (none))) else (gangerlaw01_NumShares.l1 k x0 x1 x5 x0 0))
def gangerlaw01_NumShares.l1 : Nat → Int → List Int → Int → Int → Int → Option (Bool)
  | 0, _, _, _, _, _ => none
  | k + 1, x0, x1, x5, x9, x10 => if x10 < (x1.length : Int) then (if 0 ≤ x10 then ((num_MulDiv.f k x0 (wrap64 (rd x1 x10)) x5).bind fun bt261 => ((num_MulDiv.f k x0 (wrap64 (rd x1 x10)) (wrap64 (x5 + 1))).bind fun bt264 => (if bt261.2 = 0 then (if bt264.2 = 0 then (if bt261.1 < 0 then (none) else (if bt261.1 > x9 then (none) else (if bt264.1 > bt261.1 then (none) else (gangerlaw01_NumShares.l1 k x0 x1 x5 (wrap64 (x9 - bt261.1)) (wrap64 (x10 + 1)))))) else (none)) else (none)))) else (none)) else ((num_MulDiv.f k x0 x5 x5).bind fun bt257 => (if x9 ≥ 0 then (if x9 < (mx (x1.length : Int) 1) then (if bt257.1 = x0 then (if bt257.2 = 0 then ((gangerlaw01_known.f k).bind fun t259 => (some t259)) else (none)) else (none)) else (none)) else (none)))
end
def gangerlaw01_NumShares.f (k : Nat) (a0 : Int) (l1 : List Int) : Option (Bool) := if a0 < 0 then (gangerlaw01_NumShares.j0 k a0 l1 true) else (gangerlaw01_NumShares.j0 k a0 l1 (decide ((l1.length : Int) > 50)))
theorem gangerlaw01_NumShares.mono_l : ∀ k, (∀ y0 y1 y2, LeO (gangerlaw01_NumShares.j0 k y0 y1 y2) (gangerlaw01_NumShares.j0 (k + 1) y0 y1 y2)) ∧ (∀ y0 y1 y2 y3, LeO (gangerlaw01_NumShares.l0 k y0 y1 y2 y3) (gangerlaw01_NumShares.l0 (k + 1) y0 y1 y2 y3)) ∧ (∀ y0 y1 y2 y3 y4, LeO (gangerlaw01_NumShares.l1 k y0 y1 y2 y3 y4) (gangerlaw01_NumShares.l1 (k + 1) y0 y1 y2 y3 y4))
  | 0 => ⟨fun _ _ _ r h => by simp [gangerlaw01_NumShares.j0] at h, fun _ _ _ _ r h => by simp [gangerlaw01_NumShares.l0] at h, fun _ _ _ _ _ r h => by simp [gangerlaw01_NumShares.l1] at h⟩
  | k + 1 => by
    obtain ⟨ih0, ih1, ih2⟩ := gangerlaw01_NumShares.mono_l k
    refine ⟨?_, ?_, ?_⟩
    · intro y0 y1 y2
      unfold gangerlaw01_NumShares.j0
      repeat' first
      | (with_reducible exact ih0 _ _ _)
      | (with_reducible exact ih1 _ _ _ _)
      | (with_reducible exact ih2 _ _ _ _ _)
      | (with_reducible exact gangerlaw01_known.mono _)
      | (with_reducible exact num_MulDiv.mono _ _ _ _)
      | (with_reducible exact LeO.refl _)
      | (with_reducible exact LeO.none _)
      | (with_reducible refine LeO.ite ?_ ?_)
      | (with_reducible refine LeO.bind ?_ (fun _ => ?_))
      | exact ih0 _ _ _
      | exact ih1 _ _ _ _
      | exact ih2 _ _ _ _ _
      | exact gangerlaw01_known.mono _
      | exact num_MulDiv.mono _ _ _ _
      | exact LeO.none _
      | refine LeO.ite ?_ ?_
      | refine LeO.bind ?_ (fun _ => ?_)
    · intro y0 y1 y2 y3
      unfold gangerlaw01_NumShares.l0
      repeat' first
      | (with_reducible exact ih0 _ _ _)
      | (with_reducible exact ih1 _ _ _ _)
      | (with_reducible exact ih2 _ _ _ _ _)
      | (with_reducible exact gangerlaw01_known.mono _)
      | (with_reducible exact num_MulDiv.mono _ _ _ _)
      | (with_reducible exact LeO.refl _)
      | (with_reducible exact LeO.none _)
      | (with_reducible refine LeO.ite ?_ ?_)
      | (with_reducible refine LeO.bind ?_ (fun _ => ?_))
      | exact ih0 _ _ _
      | exact ih1 _ _ _ _
      | exact ih2 _ _ _ _ _
      | exact gangerlaw01_known.mono _
      | exact num_MulDiv.mono _ _ _ _
      | exact LeO.none _
      | refine LeO.ite ?_ ?_
      | refine LeO.bind ?_ (fun _ => ?_)
    · intro y0 y1 y2 y3 y4
      unfold gangerlaw01_NumShares.l1
      repeat' first
      | (with_reducible exact ih0 _ _ _)
      | (with_reducible exact ih1 _ _ _ _)
      | (with_reducible exact ih2 _ _ _ _ _)
      | (with_reducible exact gangerlaw01_known.mono _)
      | (with_reducible exact num_MulDiv.mono _ _ _ _)
      | (with_reducible exact LeO.refl _)
      | (with_reducible exact LeO.none _)
      | (with_reducible refine LeO.ite ?_ ?_)
      | (with_reducible refine LeO.bind ?_ (fun _ => ?_))
      | exact ih0 _ _ _
      | exact ih1 _ _ _ _
      | exact ih2 _ _ _ _ _
      | exact gangerlaw01_known.mono _
      | exact num_MulDiv.mono _ _ _ _
      | exact LeO.none _
      | refine LeO.ite ?_ ?_
      | refine LeO.bind ?_ (fun _ => ?_)
theorem gangerlaw01_NumShares.mono : ∀ a0 a1 k, LeO (gangerlaw01_NumShares.f k a0 a1) (gangerlaw01_NumShares.f (k + 1) a0 a1) := by
  intro a0 a1 k
  obtain ⟨ih0, ih1, ih2⟩ := gangerlaw01_NumShares.mono_l k
  unfold gangerlaw01_NumShares.f
  repeat' first
      | (with_reducible exact ih0 _ _ _)
      | (with_reducible exact ih1 _ _ _ _)
      | (with_reducible exact ih2 _ _ _ _ _)
      | (with_reducible exact gangerlaw01_known.mono _)
      | (with_reducible exact num_MulDiv.mono _ _ _ _)
      | (with_reducible exact LeO.refl _)
      | (with_reducible exact LeO.none _)
      | (with_reducible refine LeO.ite ?_ ?_)
      | (with_reducible refine LeO.bind ?_ (fun _ => ?_))
      | exact ih0 _ _ _
      | exact ih1 _ _ _ _
      | exact ih2 _ _ _ _ _
      | exact gangerlaw01_known.mono _
      | exact num_MulDiv.mono _ _ _ _
      | exact LeO.none _
      | refine LeO.ite ?_ ?_
      | refine LeO.bind ?_ (fun _ => ?_)
set_option maxHeartbeats 8000000 in
set_option maxRecDepth 100000 in
theorem gangerlaw01_NumShares.calls (k : Nat) (a0 : Int) (A1 : Option Addr) (c1 : Nat) (l1 : List Int) (r : Bool) (w : World) (hr1 : Kd.C (Kd.int .u16) w A1 l1.length l1) (hc1 : l1.length ≤ c1) (h : gangerlaw01_NumShares.f k a0 l1 = some r) :
    Calls Try.prog 6 #[.int .i64 a0, .slice A1 l1.length c1] w fun e w' => e = .returned (.bool r) ∧ Below w.heap.size w w' := by
  have HR1 := Aside0.mk hr1
  have HC1 := Aside0.mk hc1
  clear hr1 hc1
  have HB := Aside0.mk (Below.refl w.heap.size w)
  have H : (if a0 < 0 then (gangerlaw01_NumShares.j0 k a0 l1 true) else (gangerlaw01_NumShares.j0 k a0 l1 (decide ((l1.length : Int) > 50)))) = some r := h
  clear h
  have HC3 := Aside0.mk H
  clear H
  go_enter Try.func6, Try.ntmps6
  go_upto_region 1 with (fail)
  go_cut [23] (fun v23 wc => ∃ (kq : Nat) (x23_2 : Bool), v23 = .bool x23_2 ∧ Aside0 (gangerlaw01_NumShares.j0 kq a0 l1 x23_2 = some r) ∧ Aside0 (kq ≤ k) ∧ Aside0 (Below w.heap.size w wc))
  case first =>
    have H := HC3.out
    clear HC3
    by_cases c4 : a0 < 0
    · rw [if_pos c4] at H
      have c4b0 : decide (a0 < 0) = true := decide_eq_true c4
      clear c4
      (first | rw [c4b0] | (simp only [i64_w, i32_w]; rw [c4b0]) | skip)
      have H' := Aside0.mk H
      clear H
      go_wp2
      go_meet
      case rel => exact ⟨_, (true), (by first | rfl | (simp; done) | (simp [*]; done)), H', ⟨by first | omega | exact Nat.le_refl _⟩, ⟨by repeat (first | (with_reducible first | exact HB.out | apply below_alloc | apply pw_below_drewN | apply below_drew1) | exact HB.out)⟩⟩
    · rw [if_neg c4] at H
      have c4b0 : decide (a0 < 0) = false := decide_eq_false c4
      clear c4
      (first | rw [c4b0] | (simp only [i64_w, i32_w]; rw [c4b0]) | skip)
      have H' := Aside0.mk H
      clear H
      go_wp2
      go_meet
      case rel => exact ⟨_, (decide ((l1.length : Int) > 50)), (by first | rfl | (simp; done) | (simp [*]; done)), H', ⟨by first | omega | exact Nat.le_refl _⟩, ⟨by repeat (first | (with_reducible first | exact HB.out | apply below_alloc | apply pw_below_drewN | apply below_drew1) | exact HB.out)⟩⟩
  case rest =>
    clear HC3
    try clear c1
    try clear p2
    try clear c4
    try clear c4b0
    obtain ⟨kq, x23_2, rfl, HA, HJ2, HB⟩ := hcut
    cases kq with
    | zero => exact absurd HA.out (by simp [gangerlaw01_NumShares.j0])
    | succ kj2 =>
      have H := HA.out
      clear HA
      simp only [gangerlaw01_NumShares.j0] at H
      by_cases c5 : x23_2 = true
      · subst c5
        have H1 : ((gangerlaw01_known.f kj2).bind fun t252 => (some t252)) = some r := by rw [if_pos rfl] at H; exact H
        clear H
        have H := H1
        clear H1
        replace H := Option.bind_eq_some_iff.mp H
        obtain ⟨t252, A60, H⟩ := H
        replace H : (some t252) = some r := H
        have A6 := Aside0.mk A60
        clear A60
        obtain rfl := Option.some.inj H
        go_wp2_with (first | ((with_reducible refine gate_callee (f := 12) rfl ?_); refine goesL_ (some 24) rfl rfl Try.func12 (by kernel_rfl) rfl #[] rfl (by (try simp only [List.map_toArray, List.map_cons, List.map_nil]); first | done | rfl | (simp only [List.length_drop, List.length_take]; rfl)) ?_; (with_reducible refine (gangerlaw01_known.calls kj2  t252 _ A6.out).mono ?_); rintro e w7 ⟨rfl, hb⟩; refine ⟨_, rfl, ?_⟩; have n0_ := Aside0.mk (below_step (by repeat (first | (with_reducible first | exact HB.out | apply below_alloc | apply pw_below_drewN | apply below_drew1) | exact HB.out)) hb); clear HB; have HB := n0_; clear n0_; (try clear hb); (try clear hb2); (try clear hk); (try clear hi)))
        go_ret
        exact ⟨by first | rfl | (simp [errW_none, errW_some] <;> rfl) | (simp [*, errW_none, errW_some] <;> rfl), by repeat (first | (with_reducible first | exact HB.out | apply below_alloc | apply pw_below_drewN | apply below_drew1) | exact HB.out)⟩
      · replace c5 := Bool.eq_false_iff.mpr c5
        subst c5
        have H1 : (gangerlaw01_NumShares.l0 kj2 a0 l1 0 0) = some r := by rw [if_neg (show ¬ (false = true) by decide)] at H; exact H
        clear H
        have H := H1
        clear H1
        have H' := Aside0.mk H
        clear H
        go_wp2
        go_loopg [5, 6] kj2 (fun kq v5 v6 w' => ∃ (x5_2 : Int) (x6_2 : Int), v5 = .int .i64 x5_2 ∧ v6 = .int .i64 x6_2 ∧ Aside0 (gangerlaw01_NumShares.l0 kq a0 l1 x5_2 x6_2 = some r) ∧ Aside0 (kq ≤ kj2) ∧ Aside0 (Below w.heap.size w w'))
        case atStart => exact ⟨(0), (0), (by first | rfl | (simp; done) | (simp [*]; done)), (by first | rfl | (simp; done) | (simp [*]; done)), H', ⟨Nat.le_refl _⟩, ⟨by repeat (first | (with_reducible first | exact HB.out | apply below_alloc | apply pw_below_drewN | apply below_drew1) | exact HB.out)⟩⟩
        case round =>
          clear H'
          try clear c1
          try clear p2
          try clear c4
          try clear c4b0
          try clear c5
          try clear c6
          try clear p2
          obtain ⟨x5_2, x6_2, rfl, rfl, HA, HK2, HB⟩ := hrel
          cases gk with
          | zero => exact absurd HA.out (by simp [gangerlaw01_NumShares.l0])
          | succ k2 =>
            have H := HA.out
            clear HA
            simp only [gangerlaw01_NumShares.l0] at H
            by_cases c8 : x6_2 < (l1.length : Int)
            · rw [if_pos c8] at H
              have c8b0 : decide (x6_2 < (l1.length : Int)) = true := decide_eq_true c8
              clear c8
              by_cases c9 : 0 ≤ x6_2
              · rw [if_pos c9] at H
                have c9b0 : decide (0 ≤ x6_2) = true := decide_eq_true c9
                clear c9
                have H' := Aside0.mk H
                clear H
                have p253 : 0 ≤ (x6_2 : Int) := of_decide_eq_true (by first | (with_reducible assumption) | assumption)
                have q253 : x6_2 < (l1.length : Int) := of_decide_eq_true (by first | (with_reducible assumption) | assumption)
                obtain ⟨ad253, e253, hx253_0⟩ := Kd.at_int HR1.out x6_2 p253 q253
                cases e253
                replace hx253_0 := (HB.out.cell (World.block_lt_of_cell? w _ hx253_0)).trans hx253_0
                replace p253 := eq_true p253
                replace q253 := eq_true q253
                go_wp2
                go_roundg k2
                case measure => have := HJ2.out; have := HK2.out; omega
                case rel => exact ⟨(wrap64 (x5_2 + (wrap64 (rd l1 x6_2)))), (wrap64 (x6_2 + 1)), (by first | rfl | (simp; done) | (simp [*]; done)), (by first | rfl | (simp; done) | (simp [*]; done)), H', ⟨by have := HJ2.out; have := HK2.out; omega⟩, ⟨by repeat (first | (with_reducible first | exact HB.out | apply below_alloc | apply pw_below_drewN | apply below_drew1) | exact HB.out)⟩⟩
              · rw [if_neg c9] at H
                exact absurd H (by simp)
            · rw [if_neg c8] at H
              have c8b0 : decide (x6_2 < (l1.length : Int)) = false := decide_eq_false c8
              clear c8
              by_cases c10 : x5_2 = 0
              · rw [if_pos c10] at H
                have c10b0 : (x5_2 == 0) = true := beq_iff_eq.mpr c10
                have c10b1 : (x5_2 != 0) = false := bne_eq_false_iff_eq.mpr c10
                clear c10
                replace H := Option.bind_eq_some_iff.mp H
                obtain ⟨⟨t254, t255⟩, A110, H⟩ := H
                replace H : (if t255 = 2 then ((gangerlaw01_known.f k2).bind fun t256 => (some t256)) else (none)) = some r := H
                have A11 := Aside0.mk A110
                clear A110
                by_cases c12 : t255 = 2
                · rw [if_pos c12] at H
                  have c12b0 : (t255 == 2) = true := beq_iff_eq.mpr c12
                  have c12b1 : (t255 != 2) = false := bne_eq_false_iff_eq.mpr c12
                  clear c12
                  replace H := Option.bind_eq_some_iff.mp H
                  obtain ⟨t256, A130, H⟩ := H
                  replace H : (some t256) = some r := H
                  have A13 := Aside0.mk A130
                  clear A130
                  obtain rfl := Option.some.inj H
                  go_wp2_with (first | ((with_reducible refine gate_callee (f := 19) rfl ?_); refine goesL_ (some 43) rfl rfl Try.func19 (by kernel_rfl) rfl #[.int .i64 a0, .int .i64 1, .int .i64 x5_2] rfl (by (try simp only [List.map_toArray, List.map_cons, List.map_nil]); first | done | rfl | (simp only [List.length_drop, List.length_take]; rfl)) ?_; (with_reducible refine (num_MulDiv.calls k2 a0 1 x5_2 t254 t255 _ A11.out).mono ?_); rintro e w' ⟨rfl, ⟨nd, rfl⟩⟩; refine ⟨_, rfl, ?_⟩) | (go_at_call 12; (with_reducible refine (gangerlaw01_known.calls k2  t256 _ A13.out).mono ?_); rintro e w14 ⟨rfl, hb⟩; have n0_ := Aside0.mk (below_step (by repeat (first | (with_reducible first | exact HB.out | apply below_alloc | apply pw_below_drewN | apply below_drew1) | exact HB.out)) hb); clear HB; have HB := n0_; clear n0_; (try clear hb); (try clear hb2); (try clear hk); (try clear hi)))
                  go_ret
                  exact ⟨by first | rfl | (simp [errW_none, errW_some] <;> rfl) | (simp [*, errW_none, errW_some] <;> rfl), by repeat (first | (with_reducible first | exact HB.out | apply below_alloc | apply pw_below_drewN | apply below_drew1) | exact HB.out)⟩
                · rw [if_neg c12] at H
                  exact absurd H (by simp)
              · rw [if_neg c10] at H
                have c10b0 : (x5_2 == 0) = false := beq_eq_false_iff_ne.mpr c10
                have c10b1 : (x5_2 != 0) = true := bne_iff_ne.mpr c10
                have H' := Aside0.mk H
                clear H
                go_wp2
                go_loopg [9, 10] k2 (fun kq v9 v10 w' => ∃ (x9_3 : Int) (x10_3 : Int), v9 = .int .i64 x9_3 ∧ v10 = .int .i64 x10_3 ∧ Aside0 (gangerlaw01_NumShares.l1 kq a0 l1 x5_2 x9_3 x10_3 = some r) ∧ Aside0 (kq ≤ k2) ∧ Aside0 (Below w.heap.size w w'))
                case atStart => exact ⟨(a0), (0), (by first | rfl | (simp; done) | (simp [*]; done)), (by first | rfl | (simp; done) | (simp [*]; done)), H', ⟨Nat.le_refl _⟩, ⟨by repeat (first | (with_reducible first | exact HB.out | apply below_alloc | apply pw_below_drewN | apply below_drew1) | exact HB.out)⟩⟩
                case round =>
                  clear H'
                  try clear c1
                  try clear p2
                  try clear q2
                  try clear hx2
                  try clear c4
                  try clear c4b0
                  try clear c5
                  try clear c6
                  try clear p6
                  try clear c8
                  try clear c8b0
                  try clear c9
                  try clear c9b0
                  try clear c10
                  try clear c10b0
                  try clear c10b1
                  try clear c12
                  try clear c12b0
                  try clear c12b1
                  try clear hx253_0
                  try clear p2
                  try clear p253
                  try clear q253
                  obtain ⟨x9_3, x10_3, rfl, rfl, HA, HK3, HB⟩ := hrel
                  cases gk with
                  | zero => exact absurd HA.out (by simp [gangerlaw01_NumShares.l1])
                  | succ k3 =>
                    have H := HA.out
                    clear HA
                    simp only [gangerlaw01_NumShares.l1] at H
                    by_cases c15 : x10_3 < (l1.length : Int)
                    · rw [if_pos c15] at H
                      have c15b0 : decide (x10_3 < (l1.length : Int)) = true := decide_eq_true c15
                      clear c15
                      by_cases c16 : 0 ≤ x10_3
                      · rw [if_pos c16] at H
                        have c16b0 : decide (0 ≤ x10_3) = true := decide_eq_true c16
                        clear c16
                        replace H := Option.bind_eq_some_iff.mp H
                        obtain ⟨⟨t261, t262⟩, A170, H⟩ := H
                        replace H : ((num_MulDiv.f k3 a0 (wrap64 (rd l1 x10_3)) (wrap64 (x5_2 + 1))).bind fun bt264 => (if t262 = 0 then (if bt264.2 = 0 then (if t261 < 0 then (none) else (if t261 > x9_3 then (none) else (if bt264.1 > t261 then (none) else (gangerlaw01_NumShares.l1 k3 a0 l1 x5_2 (wrap64 (x9_3 - t261)) (wrap64 (x10_3 + 1)))))) else (none)) else (none))) = some r := H
                        have A17 := Aside0.mk A170
                        clear A170
                        replace H := Option.bind_eq_some_iff.mp H
                        obtain ⟨⟨t264, t265⟩, A180, H⟩ := H
                        replace H : (if t262 = 0 then (if t265 = 0 then (if t261 < 0 then (none) else (if t261 > x9_3 then (none) else (if t264 > t261 then (none) else (gangerlaw01_NumShares.l1 k3 a0 l1 x5_2 (wrap64 (x9_3 - t261)) (wrap64 (x10_3 + 1)))))) else (none)) else (none)) = some r := H
                        have A18 := Aside0.mk A180
                        clear A180
                        by_cases c19 : t262 = 0
                        · rw [if_pos c19] at H
                          have c19b0 : (t262 == 0) = true := beq_iff_eq.mpr c19
                          have c19b1 : (t262 != 0) = false := bne_eq_false_iff_eq.mpr c19
                          clear c19
                          by_cases c20 : t265 = 0
                          · rw [if_pos c20] at H
                            have c20b0 : (t265 == 0) = true := beq_iff_eq.mpr c20
                            have c20b1 : (t265 != 0) = false := bne_eq_false_iff_eq.mpr c20
                            clear c20
                            by_cases c21 : t261 < 0
                            · rw [if_pos c21] at H
                              exact absurd H (by simp)
                            · rw [if_neg c21] at H
                              have c21b0 : decide (t261 < 0) = false := decide_eq_false c21
                              clear c21
                              by_cases c22 : t261 > x9_3
                              · rw [if_pos c22] at H
                                exact absurd H (by simp)
                              · rw [if_neg c22] at H
                                have c22b0 : decide (x9_3 < t261) = false := decide_eq_false c22
                                clear c22
                                by_cases c23 : t264 > t261
                                · rw [if_pos c23] at H
                                  exact absurd H (by simp)
                                · rw [if_neg c23] at H
                                  have c23b0 : decide (t261 < t264) = false := decide_eq_false c23
                                  clear c23
                                  have H' := Aside0.mk H
                                  clear H
                                  have p260 : 0 ≤ (x10_3 : Int) := of_decide_eq_true (by first | (with_reducible assumption) | assumption)
                                  have q260 : x10_3 < (l1.length : Int) := of_decide_eq_true (by first | (with_reducible assumption) | assumption)
                                  obtain ⟨ad260, e260, hx260_0⟩ := Kd.at_int HR1.out x10_3 p260 q260
                                  cases e260
                                  replace hx260_0 := (HB.out.cell (World.block_lt_of_cell? w _ hx260_0)).trans hx260_0
                                  replace p260 := eq_true p260
                                  replace q260 := eq_true q260
                                  go_wp2_with (first | ((with_reducible refine gate_callee (f := 19) rfl ?_); refine goesL_ (some 66) rfl rfl Try.func19 (by kernel_rfl) rfl #[.int .i64 a0, .int .i64 (wrap64 (rd l1 x10_3)), .int .i64 x5_2] rfl (by (try simp only [List.map_toArray, List.map_cons, List.map_nil]); first | done | rfl | (simp only [List.length_drop, List.length_take]; rfl)) ?_; (with_reducible refine (num_MulDiv.calls k3 a0 (wrap64 (rd l1 x10_3)) x5_2 t261 t262 _ A17.out).mono ?_); rintro e w' ⟨rfl, ⟨nd, rfl⟩⟩; refine ⟨_, rfl, ?_⟩; have p263 : 0 ≤ (x10_3 : Int) := of_decide_eq_true (by first | (with_reducible assumption) | assumption); have q263 : x10_3 < (l1.length : Int) := of_decide_eq_true (by first | (with_reducible assumption) | assumption); obtain ⟨ad263, e263, hx263_0⟩ := Kd.at_int HR1.out x10_3 p263 q263; obtain rfl : ad260 = ad263 := (by injection e263); replace hx263_0 := (HB.out.cell (World.block_lt_of_cell? w _ hx263_0)).trans hx263_0; replace p263 := eq_true p263; replace q263 := eq_true q263) | ((with_reducible refine gate_callee (f := 19) rfl ?_); refine goesL_ (some 78) rfl rfl Try.func19 (by kernel_rfl) rfl #[.int .i64 a0, .int .i64 (wrap64 (rd l1 x10_3)), .int .i64 (wrap64 (x5_2 + 1))] rfl (by (try simp only [List.map_toArray, List.map_cons, List.map_nil]); first | done | rfl | (simp only [List.length_drop, List.length_take]; rfl)) ?_; (with_reducible refine (num_MulDiv.calls k3 a0 (wrap64 (rd l1 x10_3)) (wrap64 (x5_2 + 1)) t264 t265 _ A18.out).mono ?_); rintro e w' ⟨rfl, ⟨nd, rfl⟩⟩; refine ⟨_, rfl, ?_⟩))
                                  go_roundg k3
                                  case measure => have := HJ2.out; have := HK2.out; have := HK3.out; omega
                                  case rel => exact ⟨(wrap64 (x9_3 - t261)), (wrap64 (x10_3 + 1)), (by first | rfl | (simp; done) | (simp [*]; done)), (by first | rfl | (simp; done) | (simp [*]; done)), H', ⟨by have := HJ2.out; have := HK2.out; have := HK3.out; omega⟩, ⟨by repeat (first | (with_reducible first | exact HB.out | apply below_alloc | apply pw_below_drewN | apply below_drew1) | exact HB.out)⟩⟩
                          · rw [if_neg c20] at H
                            exact absurd H (by simp)
                        · rw [if_neg c19] at H
                          exact absurd H (by simp)
                      · rw [if_neg c16] at H
                        exact absurd H (by simp)
                    · rw [if_neg c15] at H
                      have c15b0 : decide (x10_3 < (l1.length : Int)) = false := decide_eq_false c15
                      clear c15
                      replace H := Option.bind_eq_some_iff.mp H
                      obtain ⟨⟨t257, t258⟩, A240, H⟩ := H
                      replace H : (if x9_3 ≥ 0 then (if x9_3 < (mx (l1.length : Int) 1) then (if t257 = a0 then (if t258 = 0 then ((gangerlaw01_known.f k3).bind fun t259 => (some t259)) else (none)) else (none)) else (none)) else (none)) = some r := H
                      have A24 := Aside0.mk A240
                      clear A240
                      by_cases c25 : x9_3 ≥ 0
                      · rw [if_pos c25] at H
                        have c25b0 : decide (0 ≤ x9_3) = true := decide_eq_true c25
                        clear c25
                        obtain ⟨ji26, hji26⟩ : ∃ j_ : Int, (mx (l1.length : Int) 1) = j_ := ⟨_, rfl⟩
                        replace H : (if x9_3 < (ji26) then (if t257 = a0 then (if t258 = 0 then ((gangerlaw01_known.f k3).bind fun t259 => (some t259)) else (none)) else (none)) else (none)) = some r := by first | (rw [hji26] at H; exact H) | (simp only [hji26] at H ⊢; exact H)
                        (try rw [hji26] at A24)
                        have hji26_ : (if (l1.length : Int) < 1 then 1 else (l1.length : Int)) = ji26 := hji26
                        by_cases c27 : x9_3 < (ji26)
                        · rw [if_pos c27] at H
                          have c27b0 : decide (x9_3 < (ji26)) = true := decide_eq_true c27
                          clear c27
                          by_cases c28 : t257 = a0
                          · rw [if_pos c28] at H
                            have c28b0 : (t257 == a0) = true := beq_iff_eq.mpr c28
                            have c28b1 : (t257 != a0) = false := bne_eq_false_iff_eq.mpr c28
                            clear c28
                            by_cases c29 : t258 = 0
                            · rw [if_pos c29] at H
                              have c29b0 : (t258 == 0) = true := beq_iff_eq.mpr c29
                              have c29b1 : (t258 != 0) = false := bne_eq_false_iff_eq.mpr c29
                              clear c29
                              replace H := Option.bind_eq_some_iff.mp H
                              obtain ⟨t259, A300, H⟩ := H
                              replace H : (some t259) = some r := H
                              have A30 := Aside0.mk A300
                              clear A300
                              obtain rfl := Option.some.inj H
                              go_wp2_with (first | ((with_reducible refine gate_callee (f := 19) rfl ?_); refine goesL_ (some 108) rfl rfl Try.func19 (by kernel_rfl) rfl #[.int .i64 a0, .int .i64 x5_2, .int .i64 x5_2] rfl (by (try simp only [List.map_toArray, List.map_cons, List.map_nil]); first | done | rfl | (simp only [List.length_drop, List.length_take]; rfl)) ?_; (with_reducible refine (num_MulDiv.calls k3 a0 x5_2 x5_2 t257 t258 _ A24.out).mono ?_); rintro e w' ⟨rfl, ⟨nd, rfl⟩⟩; refine ⟨_, rfl, ?_⟩) | (go_at_call 12; (with_reducible refine (gangerlaw01_known.calls k3  t259 _ A30.out).mono ?_); rintro e w31 ⟨rfl, hb⟩; have n0_ := Aside0.mk (below_step (by repeat (first | (with_reducible first | exact HB.out | apply below_alloc | apply pw_below_drewN | apply below_drew1) | exact HB.out)) hb); clear HB; have HB := n0_; clear n0_; (try clear hb); (try clear hb2); (try clear hk); (try clear hi)))
                              go_ret
                              exact ⟨by first | rfl | (simp [errW_none, errW_some] <;> rfl) | (simp only [← hji26]; first | rfl | (simp [errW_none, errW_some] <;> rfl)) | (simp [*, errW_none, errW_some] <;> rfl), by repeat (first | (with_reducible first | exact HB.out | apply below_alloc | apply pw_below_drewN | apply below_drew1) | exact HB.out)⟩
                            · rw [if_neg c29] at H
                              exact absurd H (by simp)
                          · rw [if_neg c28] at H
                            exact absurd H (by simp)
                        · rw [if_neg c27] at H
                          exact absurd H (by simp)
                      · rw [if_neg c25] at H
                        exact absurd H (by simp)

/-- THE ONE PURE STATEMENT of gangerlaw01_NumShares: yours. -/
def gangerlaw01_NumShares.Pure : Prop := ∀ (a0 : Int) (l1 : List Int), (Lit.int .i64 a0).wf = true → l1.length ≤ maxLen → l1.length * 2 ≤ 140737488351232 → (∀ x ∈ l1, (Lit.int .u16 x).wf = true) → ∃ k, gangerlaw01_NumShares.f k a0 l1 = some true
theorem gangerlaw01_NumShares.walk (P : gangerlaw01_NumShares.Pure) (a0 : Int) (a1 : Option Addr) (len1 cap1 : Nat) (z1 : List Int) (w : World) (w0 : (Lit.int .i64 a0).wf = true) (w1 : (a1 = none ∧ len1 = 0 ∧ cap1 = 0 ∧ z1 = []) ∨ ∃ x, a1 = some x ∧ len1 ≤ cap1 ∧ cap1 ≤ maxLen ∧ z1.length = cap1 ∧ (∀ i, i < z1.length → w.cell? (x.add i) = some (.int .u16 (z1.getD i 0))) ∧ ∀ n ∈ z1, (Lit.int .u16 n).wf = true) (y1 : len1 * 2 ≤ 140737488351232) :
    Calls Try.prog 6 #[.int .i64 a0, .slice a1 len1 cap1] w fun e w' => e = .returned (.bool true) ∧ Below w.heap.size w w' := by
  obtain ⟨l1, rfl, hr1, hm1, hw1, hc1⟩ := ReadsInt.ofRowC w1
  obtain ⟨k, h⟩ := P a0 l1 w0 hm1 y1 hw1
  refine (gangerlaw01_NumShares.calls k a0 _ _ l1 true w (Kd.C_of_reads (d := (0 : Int)) (h1 := fun _ => rfl) hr1) hc1 h).mono ?_
  rintro e w' ⟨rfl, hd⟩
  exact ⟨rfl, hd⟩

end Go.Proofs.Ytlcdlfnmofopgaa.P
