/- The machine's side of the laws of this seat: each function's plain form and its contract, written by a program of this session out of Lean's print of the loaded functions; no condition beyond what each statement says. -/
import Derived.Test.YtlcdlfnmofopgaaP0
import Derived.Test.YtlcdlfnmofopgaaP1
import Derived.Test.YtlcdlfnmofopgaaP3
namespace Go.Proofs.Ytlcdlfnmofopgaa.P
open Go.RowKit Go.Proofs.YtlcdlfnmofopgaaW.PrintWords Go.Proofs.YtlcdlfnmofopgaaW.PrintLast Go.Proofs.YtlcdlfnmofopgaaW.PrintMore
attribute [local go_sem] max2_int min2_int max_two min_two max_three min_three max_four min_four   -- for this text's walks alone
set_option linter.unusedVariables false
set_option linter.unusedSimpArgs false

attribute [local go_sem] isSome_setCell
/-! ### gangerref01_Wide_Narrow: function 16 -/
mutual
def gangerref01_Wide_Narrow.j0 : Nat → Bool → Bool → Int → Int → Option (Int × Bool)
  | 0, _, _, _, _ => none
  | k + 1, x4, x168000, x168001, x168002 => if x4 = true then (some (0, false)) else (if x168000 = true then (gangerref01_Wide_Narrow.j1 k (x168002 == 9223372036854775808) x168000 x168001 x168002) else (gangerref01_Wide_Narrow.j1 k false x168000 x168001 x168002))
def gangerref01_Wide_Narrow.j1 : Nat → Bool → Bool → Int → Int → Option (Int × Bool)
  | 0, _, _, _, _ => none
  | k + 1, x13, x168000, x168001, x168002 => if x13 = true then (some ((-9223372036854775808), true)) else (if x168002 > 9223372036854775807 then (some (0, false)) else (if x168000 = true then (some (wrap64 (-(wrap64 (x168002))), true)) else (some (wrap64 (x168002), true))))
end
def gangerref01_Wide_Narrow.f (k : Nat) (a0_0 : Bool) (a0_1 : Int) (a0_2 : Int) : Option (Int × Bool) := if a0_1 > 0 then (gangerref01_Wide_Narrow.j0 k true a0_0 a0_1 a0_2) else (gangerref01_Wide_Narrow.j0 k (decide (a0_2 > 9223372036854775808)) a0_0 a0_1 a0_2)
theorem gangerref01_Wide_Narrow.mono_l : ∀ k, (∀ y0 y1 y2 y3, LeO (gangerref01_Wide_Narrow.j0 k y0 y1 y2 y3) (gangerref01_Wide_Narrow.j0 (k + 1) y0 y1 y2 y3)) ∧ (∀ y0 y1 y2 y3, LeO (gangerref01_Wide_Narrow.j1 k y0 y1 y2 y3) (gangerref01_Wide_Narrow.j1 (k + 1) y0 y1 y2 y3))
  | 0 => ⟨fun _ _ _ _ r h => by simp [gangerref01_Wide_Narrow.j0] at h, fun _ _ _ _ r h => by simp [gangerref01_Wide_Narrow.j1] at h⟩
  | k + 1 => by
    obtain ⟨ih0, ih1⟩ := gangerref01_Wide_Narrow.mono_l k
    refine ⟨?_, ?_⟩
    · intro y0 y1 y2 y3
      unfold gangerref01_Wide_Narrow.j0
      repeat' first
      | (with_reducible exact ih0 _ _ _ _)
      | (with_reducible exact ih1 _ _ _ _)
      | (with_reducible exact LeO.refl _)
      | (with_reducible exact LeO.none _)
      | (with_reducible refine LeO.ite ?_ ?_)
      | (with_reducible refine LeO.bind ?_ (fun _ => ?_))
      | exact ih0 _ _ _ _
      | exact ih1 _ _ _ _
      | exact LeO.none _
      | refine LeO.ite ?_ ?_
      | refine LeO.bind ?_ (fun _ => ?_)
    · intro y0 y1 y2 y3
      unfold gangerref01_Wide_Narrow.j1
      repeat' first
      | (with_reducible exact ih0 _ _ _ _)
      | (with_reducible exact ih1 _ _ _ _)
      | (with_reducible exact LeO.refl _)
      | (with_reducible exact LeO.none _)
      | (with_reducible refine LeO.ite ?_ ?_)
      | (with_reducible refine LeO.bind ?_ (fun _ => ?_))
      | exact ih0 _ _ _ _
      | exact ih1 _ _ _ _
      | exact LeO.none _
      | refine LeO.ite ?_ ?_
      | refine LeO.bind ?_ (fun _ => ?_)
theorem gangerref01_Wide_Narrow.mono : ∀ a0 a1 a2 k, LeO (gangerref01_Wide_Narrow.f k a0 a1 a2) (gangerref01_Wide_Narrow.f (k + 1) a0 a1 a2) := by
  intro a0 a1 a2 k
  obtain ⟨ih0, ih1⟩ := gangerref01_Wide_Narrow.mono_l k
  unfold gangerref01_Wide_Narrow.f
  repeat' first
      | (with_reducible exact ih0 _ _ _ _)
      | (with_reducible exact ih1 _ _ _ _)
      | (with_reducible exact LeO.refl _)
      | (with_reducible exact LeO.none _)
      | (with_reducible refine LeO.ite ?_ ?_)
      | (with_reducible refine LeO.bind ?_ (fun _ => ?_))
      | exact ih0 _ _ _ _
      | exact ih1 _ _ _ _
      | exact LeO.none _
      | refine LeO.ite ?_ ?_
      | refine LeO.bind ?_ (fun _ => ?_)
set_option maxHeartbeats 8000000 in
set_option maxRecDepth 100000 in
theorem gangerref01_Wide_Narrow.calls (k : Nat) (a0_0 : Bool) (a0_1 : Int) (a0_2 : Int) (r1 : Int) (r2 : Bool) (w : World) (h : gangerref01_Wide_Narrow.f k a0_0 a0_1 a0_2 = some (r1, r2)) :
    Calls Try.prog 16 #[.agg #[.bool a0_0, .int .u64 a0_1, .int .u64 a0_2]] w fun e w' => e = .returned (.tuple #[.int .i64 r1, .bool r2]) ∧ Below w.heap.size w w' := by
  have hu28 := Try.underlying28
  have HB := Aside0.mk (Below.refl w.heap.size w)
  have H : (if a0_1 > 0 then (gangerref01_Wide_Narrow.j0 k true a0_0 a0_1 a0_2) else (gangerref01_Wide_Narrow.j0 k (decide (a0_2 > 9223372036854775808)) a0_0 a0_1 a0_2)) = some (r1, r2) := h
  clear h
  have HC2 := Aside0.mk H
  clear H
  go_enter Try.func16, Try.ntmps16
  go_upto_region 1 with (first | ((with_reducible refine gate_dst (N := 1) rfl ?_); refine box_event ?hg (N := 1) ?hd (cs := #[.bool a0_0, .int .u64 a0_1, .int .u64 a0_2]) (t := 28) ?hr ?_; (case hd => rfl); (case hg => rfl); (case hr => first | (go_simp; done) | (go_simp; rfl)); intro gb167 hg w3 hbox hb; have n0_ := Aside0.mk (below_step (by repeat (first | (with_reducible first | exact HB.out | apply below_alloc | apply pw_below_drewN | apply below_drew1) | exact HB.out)) hb); have n1_ := Aside0.mk (hbox); have n2_ := Aside0.mk ((by rw [hg]; exact (below_size (by repeat (first | (with_reducible first | exact HB.out | apply below_alloc | apply pw_below_drewN | apply below_drew1) | exact HB.out))) : w.heap.size ≤ gb167)); have n3_ := Aside0.mk ((by rw [hg]; exact (below_size (by repeat (first | (with_reducible first | exact HB.out | apply below_alloc | apply pw_below_drewN | apply below_drew1) | exact HB.out))) : w.heap.size ≤ gb167)); clear HB; have HB := n0_; have BK167 := n1_; have GW167 := n2_; have GE167 := n3_; clear n0_ n1_ n2_ n3_; clear hb hbox hg))
  (try simp only [Act.put, List.setIfInBounds_toArray, List.set_cons_zero, List.set_cons_succ])
  go_cut [4] (fun v4 wc => ∃ (kq : Nat) (x4_1 : Bool), v4 = .bool x4_1 ∧ Aside0 (gangerref01_Wide_Narrow.j0 kq x4_1 a0_0 a0_1 a0_2 = some (r1, r2)) ∧ Aside0 (kq ≤ k) ∧ Aside0 (wc.heap[gb167]? = some (.cells #[.bool a0_0, .int .u64 a0_1, .int .u64 a0_2] 28 (0, 0))) ∧ Aside0 (Below w.heap.size w wc))
  case first =>
    have H := HC2.out
    clear HC2
    by_cases c4 : a0_1 > 0
    · rw [if_pos c4] at H
      have c4b0 : decide (0 < a0_1) = true := decide_eq_true c4
      clear c4
      (first | rw [c4b0] | (simp only [i64_w, i32_w]; rw [c4b0]) | skip)
      have H' := Aside0.mk H
      clear H
      have hcz5_0 : w3.cell? ⟨gb167, 0, none⟩ = some (.bool a0_0) := (blk_cell BK167.out 0).trans rfl
      have hcz5_1 : w3.cell? ⟨gb167, 1, none⟩ = some (.int .u64 a0_1) := (blk_cell BK167.out 1).trans rfl
      have hcz5_2 : w3.cell? ⟨gb167, 2, none⟩ = some (.int .u64 a0_2) := (blk_cell BK167.out 2).trans rfl
      have hfz5_0 := blk_frozen BK167.out 0
      have hfz5_1 := blk_frozen BK167.out 1
      have hfz5_2 := blk_frozen BK167.out 2
      go_wp2
      go_meet
      case rel => exact ⟨_, (true), (by first | rfl | (simp; done) | (simp [*]; done)), H', ⟨by first | omega | exact Nat.le_refl _⟩, ⟨by (with_reducible repeat (first | refine blk_drewN ?_ _ | refine blk_drew ?_ | refine blk_alloc ?_ _)); exact BK167.out⟩, ⟨by repeat (first | (with_reducible first | exact HB.out | apply below_alloc | apply pw_below_drewN | apply below_drew1 | refine below_set ?_ GE167.out) | exact HB.out)⟩⟩
    · rw [if_neg c4] at H
      have c4b0 : decide (0 < a0_1) = false := decide_eq_false c4
      clear c4
      (first | rw [c4b0] | (simp only [i64_w, i32_w]; rw [c4b0]) | skip)
      have H' := Aside0.mk H
      clear H
      have hcz6_0 : w3.cell? ⟨gb167, 0, none⟩ = some (.bool a0_0) := (blk_cell BK167.out 0).trans rfl
      have hcz6_1 : w3.cell? ⟨gb167, 1, none⟩ = some (.int .u64 a0_1) := (blk_cell BK167.out 1).trans rfl
      have hcz6_2 : w3.cell? ⟨gb167, 2, none⟩ = some (.int .u64 a0_2) := (blk_cell BK167.out 2).trans rfl
      have hfz6_0 := blk_frozen BK167.out 0
      have hfz6_1 := blk_frozen BK167.out 1
      have hfz6_2 := blk_frozen BK167.out 2
      go_wp2
      go_meet
      case rel => exact ⟨_, (decide (a0_2 > 9223372036854775808)), (by first | rfl | (simp; done) | (simp [*]; done)), H', ⟨by first | omega | exact Nat.le_refl _⟩, ⟨by (with_reducible repeat (first | refine blk_drewN ?_ _ | refine blk_drew ?_ | refine blk_alloc ?_ _)); exact BK167.out⟩, ⟨by repeat (first | (with_reducible first | exact HB.out | apply below_alloc | apply pw_below_drewN | apply below_drew1 | refine below_set ?_ GE167.out) | exact HB.out)⟩⟩
  case rest =>
    clear HC2
    try clear c1
    try clear p2
    try clear c4
    try clear c4b0
    try clear hcz5_0
    try clear hcz5_1
    try clear hcz5_2
    try clear hcz6_0
    try clear hcz6_1
    try clear hcz6_2
    try clear hfz5_0
    try clear hfz5_1
    try clear hfz5_2
    try clear hfz6_0
    try clear hfz6_1
    try clear hfz6_2
    obtain ⟨kq, x4_1, rfl, HA, HJ1, BK167, HB⟩ := hcut
    cases kq with
    | zero => exact absurd HA.out (by simp [gangerref01_Wide_Narrow.j0])
    | succ kj1 =>
      have H := HA.out
      clear HA
      simp only [gangerref01_Wide_Narrow.j0] at H
      by_cases c7 : x4_1 = true
      · subst c7
        have H1 : (some (0, false)) = some (r1, r2) := by rw [if_pos rfl] at H; exact H
        clear H
        have H := H1
        clear H1
        simp only [Option.some.injEq, Prod.mk.injEq] at H
        obtain ⟨rfl, rfl⟩ := H
        go_wp2
        go_ret2
        exact ⟨by first | rfl | (simp [errW_none, errW_some] <;> rfl) | (simp [*, errW_none, errW_some] <;> rfl), by repeat (first | (with_reducible first | exact HB.out | apply below_alloc | apply pw_below_drewN | apply below_drew1 | refine below_set ?_ GE167.out) | exact HB.out)⟩
      · replace c7 := Bool.eq_false_iff.mpr c7
        subst c7
        have H1 : (if a0_0 = true then (gangerref01_Wide_Narrow.j1 kj1 (a0_2 == 9223372036854775808) a0_0 a0_1 a0_2) else (gangerref01_Wide_Narrow.j1 kj1 false a0_0 a0_1 a0_2)) = some (r1, r2) := by rw [if_neg (show ¬ (false = true) by decide)] at H; exact H
        clear H
        have H := H1
        clear H1
        have HC8 := Aside0.mk H
        clear H
        go_upto_region 3 with (fail)
        go_cut [13] (fun v13 wc => ∃ (kq : Nat) (x13_7 : Bool), v13 = .bool x13_7 ∧ Aside0 (gangerref01_Wide_Narrow.j1 kq x13_7 a0_0 a0_1 a0_2 = some (r1, r2)) ∧ Aside0 (kq ≤ kj1) ∧ Aside0 (wc.heap[gb167]? = some (.cells #[.bool a0_0, .int .u64 a0_1, .int .u64 a0_2] 28 (0, 0))) ∧ Aside0 (Below w.heap.size w wc))
        case first =>
          have H := HC8.out
          clear HC8
          by_cases c9 : a0_0 = true
          · subst c9
            have H1 : (gangerref01_Wide_Narrow.j1 kj1 (a0_2 == 9223372036854775808) true a0_1 a0_2) = some (r1, r2) := by rw [if_pos rfl] at H; exact H
            clear H
            have H := H1
            clear H1
            have H' := Aside0.mk H
            clear H
            have hcz10_0 : wc.cell? ⟨gb167, 0, none⟩ = some (.bool true) := (blk_cell BK167.out 0).trans rfl
            have hcz10_1 : wc.cell? ⟨gb167, 1, none⟩ = some (.int .u64 a0_1) := (blk_cell BK167.out 1).trans rfl
            have hcz10_2 : wc.cell? ⟨gb167, 2, none⟩ = some (.int .u64 a0_2) := (blk_cell BK167.out 2).trans rfl
            have hfz10_0 := blk_frozen BK167.out 0
            have hfz10_1 := blk_frozen BK167.out 1
            have hfz10_2 := blk_frozen BK167.out 2
            go_wp2
            go_meet
            case rel => exact ⟨_, ((a0_2 == 9223372036854775808)), (by first | rfl | (simp; done) | (simp [*]; done)), H', ⟨by have := HJ1.out; first | omega | exact Nat.le_refl _⟩, ⟨by (with_reducible repeat (first | refine blk_drewN ?_ _ | refine blk_drew ?_ | refine blk_alloc ?_ _)); exact BK167.out⟩, ⟨by repeat (first | (with_reducible first | exact HB.out | apply below_alloc | apply pw_below_drewN | apply below_drew1 | refine below_set ?_ GE167.out) | exact HB.out)⟩⟩
          · replace c9 := Bool.eq_false_iff.mpr c9
            subst c9
            have H1 : (gangerref01_Wide_Narrow.j1 kj1 false false a0_1 a0_2) = some (r1, r2) := by rw [if_neg (show ¬ (false = true) by decide)] at H; exact H
            clear H
            have H := H1
            clear H1
            have H' := Aside0.mk H
            clear H
            have hcz11_0 : wc.cell? ⟨gb167, 0, none⟩ = some (.bool false) := (blk_cell BK167.out 0).trans rfl
            have hcz11_1 : wc.cell? ⟨gb167, 1, none⟩ = some (.int .u64 a0_1) := (blk_cell BK167.out 1).trans rfl
            have hcz11_2 : wc.cell? ⟨gb167, 2, none⟩ = some (.int .u64 a0_2) := (blk_cell BK167.out 2).trans rfl
            have hfz11_0 := blk_frozen BK167.out 0
            have hfz11_1 := blk_frozen BK167.out 1
            have hfz11_2 := blk_frozen BK167.out 2
            go_wp2
            go_meet
            case rel => exact ⟨_, (false), (by first | rfl | (simp; done) | (simp [*]; done)), H', ⟨by have := HJ1.out; first | omega | exact Nat.le_refl _⟩, ⟨by (with_reducible repeat (first | refine blk_drewN ?_ _ | refine blk_drew ?_ | refine blk_alloc ?_ _)); exact BK167.out⟩, ⟨by repeat (first | (with_reducible first | exact HB.out | apply below_alloc | apply pw_below_drewN | apply below_drew1 | refine below_set ?_ GE167.out) | exact HB.out)⟩⟩
        case rest =>
          clear HC8
          try clear c1
          try clear p2
          try clear c4
          try clear c4b0
          try clear c7
          try clear c9
          try clear hcz10_0
          try clear hcz10_1
          try clear hcz10_2
          try clear hcz11_0
          try clear hcz11_1
          try clear hcz11_2
          try clear hcz5_0
          try clear hcz5_1
          try clear hcz5_2
          try clear hcz6_0
          try clear hcz6_1
          try clear hcz6_2
          try clear hfz10_0
          try clear hfz10_1
          try clear hfz10_2
          try clear hfz11_0
          try clear hfz11_1
          try clear hfz11_2
          try clear hfz5_0
          try clear hfz5_1
          try clear hfz5_2
          try clear hfz6_0
          try clear hfz6_1
          try clear hfz6_2
          try clear p2
          obtain ⟨kq, x13_7, rfl, HA, HJ7, BK167, HB⟩ := hcut
          cases kq with
          | zero => exact absurd HA.out (by simp [gangerref01_Wide_Narrow.j1])
          | succ kj7 =>
            have H := HA.out
            clear HA
            simp only [gangerref01_Wide_Narrow.j1] at H
            by_cases c12 : x13_7 = true
            · subst c12
              have H1 : (some ((-9223372036854775808), true)) = some (r1, r2) := by rw [if_pos rfl] at H; exact H
              clear H
              have H := H1
              clear H1
              simp only [Option.some.injEq, Prod.mk.injEq] at H
              obtain ⟨rfl, rfl⟩ := H
              go_wp2
              go_ret2
              exact ⟨by first | rfl | (simp [errW_none, errW_some] <;> rfl) | (simp [*, errW_none, errW_some] <;> rfl), by repeat (first | (with_reducible first | exact HB.out | apply below_alloc | apply pw_below_drewN | apply below_drew1 | refine below_set ?_ GE167.out) | exact HB.out)⟩
            · replace c12 := Bool.eq_false_iff.mpr c12
              subst c12
              have H1 : (if a0_2 > 9223372036854775807 then (some (0, false)) else (if a0_0 = true then (some (wrap64 (-(wrap64 (a0_2))), true)) else (some (wrap64 (a0_2), true)))) = some (r1, r2) := by rw [if_neg (show ¬ (false = true) by decide)] at H; exact H
              clear H
              have H := H1
              clear H1
              by_cases c13 : a0_2 > 9223372036854775807
              · rw [if_pos c13] at H
                have c13b0 : decide (9223372036854775807 < a0_2) = true := decide_eq_true c13
                clear c13
                simp only [Option.some.injEq, Prod.mk.injEq] at H
                obtain ⟨rfl, rfl⟩ := H
                have hcz14_0 : wc.cell? ⟨gb167, 0, none⟩ = some (.bool a0_0) := (blk_cell BK167.out 0).trans rfl
                have hcz14_1 : wc.cell? ⟨gb167, 1, none⟩ = some (.int .u64 a0_1) := (blk_cell BK167.out 1).trans rfl
                have hcz14_2 : wc.cell? ⟨gb167, 2, none⟩ = some (.int .u64 a0_2) := (blk_cell BK167.out 2).trans rfl
                have hfz14_0 := blk_frozen BK167.out 0
                have hfz14_1 := blk_frozen BK167.out 1
                have hfz14_2 := blk_frozen BK167.out 2
                go_wp2
                go_ret2
                exact ⟨by first | rfl | (simp [errW_none, errW_some] <;> rfl) | (simp [*, errW_none, errW_some] <;> rfl), by repeat (first | (with_reducible first | exact HB.out | apply below_alloc | apply pw_below_drewN | apply below_drew1 | refine below_set ?_ GE167.out) | exact HB.out)⟩
              · rw [if_neg c13] at H
                have c13b0 : decide (9223372036854775807 < a0_2) = false := decide_eq_false c13
                clear c13
                by_cases c15 : a0_0 = true
                · subst c15
                  have H1 : (some (wrap64 (-(wrap64 (a0_2))), true)) = some (r1, r2) := by rw [if_pos rfl] at H; exact H
                  clear H
                  have H := H1
                  clear H1
                  simp only [Option.some.injEq, Prod.mk.injEq] at H
                  obtain ⟨rfl, rfl⟩ := H
                  have hcz16_0 : wc.cell? ⟨gb167, 0, none⟩ = some (.bool true) := (blk_cell BK167.out 0).trans rfl
                  have hcz16_1 : wc.cell? ⟨gb167, 1, none⟩ = some (.int .u64 a0_1) := (blk_cell BK167.out 1).trans rfl
                  have hcz16_2 : wc.cell? ⟨gb167, 2, none⟩ = some (.int .u64 a0_2) := (blk_cell BK167.out 2).trans rfl
                  have hfz16_0 := blk_frozen BK167.out 0
                  have hfz16_1 := blk_frozen BK167.out 1
                  have hfz16_2 := blk_frozen BK167.out 2
                  go_wp2
                  go_ret2
                  exact ⟨by first | rfl | (simp [errW_none, errW_some] <;> rfl) | (simp [*, errW_none, errW_some] <;> rfl), by repeat (first | (with_reducible first | exact HB.out | apply below_alloc | apply pw_below_drewN | apply below_drew1 | refine below_set ?_ GE167.out) | exact HB.out)⟩
                · replace c15 := Bool.eq_false_iff.mpr c15
                  subst c15
                  have H1 : (some (wrap64 (a0_2), true)) = some (r1, r2) := by rw [if_neg (show ¬ (false = true) by decide)] at H; exact H
                  clear H
                  have H := H1
                  clear H1
                  simp only [Option.some.injEq, Prod.mk.injEq] at H
                  obtain ⟨rfl, rfl⟩ := H
                  have hcz17_0 : wc.cell? ⟨gb167, 0, none⟩ = some (.bool false) := (blk_cell BK167.out 0).trans rfl
                  have hcz17_1 : wc.cell? ⟨gb167, 1, none⟩ = some (.int .u64 a0_1) := (blk_cell BK167.out 1).trans rfl
                  have hcz17_2 : wc.cell? ⟨gb167, 2, none⟩ = some (.int .u64 a0_2) := (blk_cell BK167.out 2).trans rfl
                  have hfz17_0 := blk_frozen BK167.out 0
                  have hfz17_1 := blk_frozen BK167.out 1
                  have hfz17_2 := blk_frozen BK167.out 2
                  go_wp2
                  go_ret2
                  exact ⟨by first | rfl | (simp [errW_none, errW_some] <;> rfl) | (simp [*, errW_none, errW_some] <;> rfl), by repeat (first | (with_reducible first | exact HB.out | apply below_alloc | apply pw_below_drewN | apply below_drew1 | refine below_set ?_ GE167.out) | exact HB.out)⟩

/-! ### gangerlaw01_NumDivs: function 3 -/
def gangerlaw01_NumDivs.j0 : Nat → Int → Int → Int → Int → Int → Bool → Option (Bool)
  | 0, _, _, _, _, _, _ => none
  | k + 1, x0, x1, x5, x6, x7, x39 => if x39 = true then (if x5 = 0 then (if x6 = 0 then (if x7 = 10 then ((gangerlaw01_known.f k).bind fun t172 => (some t172)) else (none)) else (none)) else (none)) else ((gangerref01_Of.f x5).bind fun bt173 => ((gangerref01_Of.f x1).bind fun bt176 => ((gangerref01_Product.f k bt173.1 bt173.2.1 bt173.2.2 bt176.1 bt176.2.1 bt176.2.2).bind fun bt179 => ((gangerref01_Of.f x6).bind fun bt182 => ((gangerref01_Plus.f bt179.1 bt179.2.1 bt179.2.2 bt182.1 bt182.2.1 bt182.2.2).bind fun bt185 => ((gangerref01_Wide_Narrow.f k bt185.1 bt185.2.1 bt185.2.2).bind fun bt189 => (if x6 ≥ 0 then (if x1 > 0 then (if x6 < x1 then (if x7 = 0 then (if bt189.2 = true then (if bt189.1 = x0 then ((gangerlaw01_known.f k).bind fun t191 => (some t191)) else (none)) else (none)) else (none)) else (if x1 < 0 then (if x1 = (-9223372036854775808) then (if x7 = 0 then (if bt189.2 = true then (if bt189.1 = x0 then ((gangerlaw01_known.f k).bind fun t192 => (some t192)) else (none)) else (none)) else (none)) else (if x7 = 0 then (if bt189.2 = true then (if bt189.1 = x0 then (if x6 < (wrap64 (-x1)) then ((gangerlaw01_known.f k).bind fun t193 => (some t193)) else (none)) else (none)) else (none)) else (none))) else (if x7 = 0 then (if bt189.2 = true then (if bt189.1 = x0 then (none) else (none)) else (none)) else (none)))) else (if x1 < 0 then (if x1 = (-9223372036854775808) then (if x7 = 0 then (if bt189.2 = true then (if bt189.1 = x0 then ((gangerlaw01_known.f k).bind fun t194 => (some t194)) else (none)) else (none)) else (none)) else (if x7 = 0 then (if bt189.2 = true then (if bt189.1 = x0 then (if x6 < (wrap64 (-x1)) then ((gangerlaw01_known.f k).bind fun t195 => (some t195)) else (none)) else (none)) else (none)) else (none))) else (if x7 = 0 then (if bt189.2 = true then (if bt189.1 = x0 then (none) else (none)) else (none)) else (none)))) else (if x7 = 0 then (if bt189.2 = true then (if bt189.1 = x0 then (none) else (none)) else (none)) else (none)))))))))
def gangerlaw01_NumDivs.f (k : Nat) (a0 : Int) (a1 : Int) : Option (Bool) := (num_Div.f k a0 a1).bind fun bt168 => (if a1 = 0 then (if bt168.1 = 0 then (if bt168.2.1 = 0 then (if bt168.2.2 = 2 then ((gangerlaw01_known.f k).bind fun t171 => (some t171)) else (none)) else (none)) else (none)) else (if a0 = (-9223372036854775808) then (gangerlaw01_NumDivs.j0 k a0 a1 bt168.1 bt168.2.1 bt168.2.2 (a1 == (-1))) else (gangerlaw01_NumDivs.j0 k a0 a1 bt168.1 bt168.2.1 bt168.2.2 false)))
theorem gangerlaw01_NumDivs.mono_l : ∀ k, (∀ y0 y1 y2 y3 y4 y5, LeO (gangerlaw01_NumDivs.j0 k y0 y1 y2 y3 y4 y5) (gangerlaw01_NumDivs.j0 (k + 1) y0 y1 y2 y3 y4 y5))
  | 0 => fun _ _ _ _ _ _ r h => by simp [gangerlaw01_NumDivs.j0] at h
  | k + 1 => by
    have ih0 := gangerlaw01_NumDivs.mono_l k
    · intro y0 y1 y2 y3 y4 y5
      unfold gangerlaw01_NumDivs.j0
      repeat' first
      | (with_reducible exact ih0 _ _ _ _ _ _)
      | (with_reducible exact gangerlaw01_known.mono _)
      | (with_reducible exact gangerref01_Product.mono _ _ _ _ _ _ _)
      | (with_reducible exact gangerref01_Wide_Narrow.mono _ _ _ _)
      | (with_reducible exact num_Div.mono _ _ _)
      | (with_reducible exact LeO.refl _)
      | (with_reducible exact LeO.none _)
      | (with_reducible refine LeO.ite ?_ ?_)
      | (with_reducible refine LeO.bind ?_ (fun _ => ?_))
      | exact ih0 _ _ _ _ _ _
      | exact gangerlaw01_known.mono _
      | exact gangerref01_Product.mono _ _ _ _ _ _ _
      | exact gangerref01_Wide_Narrow.mono _ _ _ _
      | exact num_Div.mono _ _ _
      | exact LeO.none _
      | refine LeO.ite ?_ ?_
      | refine LeO.bind ?_ (fun _ => ?_)
theorem gangerlaw01_NumDivs.mono : ∀ a0 a1 k, LeO (gangerlaw01_NumDivs.f k a0 a1) (gangerlaw01_NumDivs.f (k + 1) a0 a1) := by
  intro a0 a1 k
  have ih0 := gangerlaw01_NumDivs.mono_l k
  unfold gangerlaw01_NumDivs.f
  repeat' first
      | (with_reducible exact ih0 _ _ _ _ _ _)
      | (with_reducible exact gangerlaw01_known.mono _)
      | (with_reducible exact gangerref01_Product.mono _ _ _ _ _ _ _)
      | (with_reducible exact gangerref01_Wide_Narrow.mono _ _ _ _)
      | (with_reducible exact num_Div.mono _ _ _)
      | (with_reducible exact LeO.refl _)
      | (with_reducible exact LeO.none _)
      | (with_reducible refine LeO.ite ?_ ?_)
      | (with_reducible refine LeO.bind ?_ (fun _ => ?_))
      | exact ih0 _ _ _ _ _ _
      | exact gangerlaw01_known.mono _
      | exact gangerref01_Product.mono _ _ _ _ _ _ _
      | exact gangerref01_Wide_Narrow.mono _ _ _ _
      | exact num_Div.mono _ _ _
      | exact LeO.none _
      | refine LeO.ite ?_ ?_
      | refine LeO.bind ?_ (fun _ => ?_)
set_option maxHeartbeats 8000000 in
set_option maxRecDepth 100000 in
theorem gangerlaw01_NumDivs.calls (k : Nat) (a0 : Int) (a1 : Int) (r : Bool) (w : World) (h : gangerlaw01_NumDivs.f k a0 a1 = some r) :
    Calls Try.prog 3 #[.int .i64 a0, .int .i64 a1] w fun e w' => e = .returned (.bool r) ∧ Below w.heap.size w w' := by
  have hu28 := Try.underlying28
  have HB := Aside0.mk (Below.refl w.heap.size w)
  have H : ((num_Div.f k a0 a1).bind fun bt168 => (if a1 = 0 then (if bt168.1 = 0 then (if bt168.2.1 = 0 then (if bt168.2.2 = 2 then ((gangerlaw01_known.f k).bind fun t171 => (some t171)) else (none)) else (none)) else (none)) else (if a0 = (-9223372036854775808) then (gangerlaw01_NumDivs.j0 k a0 a1 bt168.1 bt168.2.1 bt168.2.2 (a1 == (-1))) else (gangerlaw01_NumDivs.j0 k a0 a1 bt168.1 bt168.2.1 bt168.2.2 false)))) = some r := h
  clear h
  replace H := Option.bind_eq_some_iff.mp H
  obtain ⟨⟨t168, t169, t170⟩, A30, H⟩ := H
  replace H : (if a1 = 0 then (if t168 = 0 then (if t169 = 0 then (if t170 = 2 then ((gangerlaw01_known.f k).bind fun t171 => (some t171)) else (none)) else (none)) else (none)) else (if a0 = (-9223372036854775808) then (gangerlaw01_NumDivs.j0 k a0 a1 t168 t169 t170 (a1 == (-1))) else (gangerlaw01_NumDivs.j0 k a0 a1 t168 t169 t170 false))) = some r := H
  have A3 := Aside0.mk A30
  clear A30
  by_cases c4 : a1 = 0
  · rw [if_pos c4] at H
    have c4b0 : (a1 == 0) = true := beq_iff_eq.mpr c4
    have c4b1 : (a1 != 0) = false := bne_eq_false_iff_eq.mpr c4
    clear c4
    by_cases c5 : t168 = 0
    · rw [if_pos c5] at H
      have c5b0 : (t168 == 0) = true := beq_iff_eq.mpr c5
      have c5b1 : (t168 != 0) = false := bne_eq_false_iff_eq.mpr c5
      clear c5
      by_cases c6 : t169 = 0
      · rw [if_pos c6] at H
        have c6b0 : (t169 == 0) = true := beq_iff_eq.mpr c6
        have c6b1 : (t169 != 0) = false := bne_eq_false_iff_eq.mpr c6
        clear c6
        by_cases c7 : t170 = 2
        · rw [if_pos c7] at H
          have c7b0 : (t170 == 2) = true := beq_iff_eq.mpr c7
          have c7b1 : (t170 != 2) = false := bne_eq_false_iff_eq.mpr c7
          clear c7
          replace H := Option.bind_eq_some_iff.mp H
          obtain ⟨t171, A80, H⟩ := H
          replace H : (some t171) = some r := H
          have A8 := Aside0.mk A80
          clear A80
          obtain rfl := Option.some.inj H
          go_enter Try.func3, Try.ntmps3
          go_wp2_with (first | ((with_reducible refine gate_callee (f := 11) rfl ?_); refine goesL_ (some 15) rfl rfl Try.func11 (by kernel_rfl) rfl #[.int .i64 a0, .int .i64 a1] rfl (by (try simp only [List.map_toArray, List.map_cons, List.map_nil]); first | done | rfl | (simp only [List.length_drop, List.length_take]; rfl)) ?_; (with_reducible refine (num_Div.calls k a0 a1 t168 t169 t170 _ A3.out).mono ?_); rintro e w' ⟨rfl, ⟨nd, rfl⟩⟩; refine ⟨_, rfl, ?_⟩) | (go_at_call 12; (with_reducible refine (gangerlaw01_known.calls k  t171 _ A8.out).mono ?_); rintro e w9 ⟨rfl, hb⟩; have n0_ := Aside0.mk (below_step (by repeat (first | (with_reducible first | exact HB.out | apply below_alloc | apply pw_below_drewN | apply below_drew1) | exact HB.out)) hb); clear HB; have HB := n0_; clear n0_; (try clear hb); (try clear hb2); (try clear hk); (try clear hi)))
          go_ret
          exact ⟨by first | rfl | (simp [errW_none, errW_some] <;> rfl) | (simp [*, errW_none, errW_some] <;> rfl), by repeat (first | (with_reducible first | exact HB.out | apply below_alloc | apply pw_below_drewN | apply below_drew1) | exact HB.out)⟩
        · rw [if_neg c7] at H
          exact absurd H (by simp)
      · rw [if_neg c6] at H
        exact absurd H (by simp)
    · rw [if_neg c5] at H
      exact absurd H (by simp)
  · rw [if_neg c4] at H
    have c4b0 : (a1 == 0) = false := beq_eq_false_iff_ne.mpr c4
    have c4b1 : (a1 != 0) = true := bne_iff_ne.mpr c4
    have HC10 := Aside0.mk H
    clear H
    go_enter Try.func3, Try.ntmps3
    go_upto_region 4 with (first | ((with_reducible refine gate_callee (f := 11) rfl ?_); refine goesL_ (some 15) rfl rfl Try.func11 (by kernel_rfl) rfl #[.int .i64 a0, .int .i64 a1] rfl (by (try simp only [List.map_toArray, List.map_cons, List.map_nil]); first | done | rfl | (simp only [List.length_drop, List.length_take]; rfl)) ?_; (with_reducible refine (num_Div.calls k a0 a1 t168 t169 t170 _ A3.out).mono ?_); rintro e w' ⟨rfl, ⟨nd, rfl⟩⟩; refine ⟨_, rfl, ?_⟩))
    (try simp only [Act.put, List.setIfInBounds_toArray, List.set_cons_zero, List.set_cons_succ])
    go_cut [39] (fun v39 wc => ∃ (kq : Nat) (x39_9 : Bool), v39 = .bool x39_9 ∧ Aside0 (gangerlaw01_NumDivs.j0 kq a0 a1 t168 t169 t170 x39_9 = some r) ∧ Aside0 (kq ≤ k) ∧ Aside0 (Below w.heap.size w wc))
    case first =>
      have H := HC10.out
      clear HC10
      by_cases c11 : a0 = (-9223372036854775808)
      · rw [if_pos c11] at H
        have c11b0 : (a0 == (-9223372036854775808)) = true := beq_iff_eq.mpr c11
        have c11b1 : (a0 != (-9223372036854775808)) = false := bne_eq_false_iff_eq.mpr c11
        clear c11
        (first | rw [c11b0] | (simp only [i64_w, i32_w]; rw [c11b0]) | skip)
        have H' := Aside0.mk H
        clear H
        go_wp2
        go_meet
        case rel => exact ⟨_, ((a1 == (-1))), (by first | rfl | (simp; done) | (simp [*]; done)), H', ⟨by first | omega | exact Nat.le_refl _⟩, ⟨by repeat (first | (with_reducible first | exact HB.out | apply below_alloc | apply pw_below_drewN | apply below_drew1) | exact HB.out)⟩⟩
      · rw [if_neg c11] at H
        have c11b0 : (a0 == (-9223372036854775808)) = false := beq_eq_false_iff_ne.mpr c11
        have c11b1 : (a0 != (-9223372036854775808)) = true := bne_iff_ne.mpr c11
        (first | rw [c11b0] | (simp only [i64_w, i32_w]; rw [c11b0]) | skip)
        have H' := Aside0.mk H
        clear H
        go_wp2
        go_meet
        case rel => exact ⟨_, (false), (by first | rfl | (simp; done) | (simp [*]; done)), H', ⟨by first | omega | exact Nat.le_refl _⟩, ⟨by repeat (first | (with_reducible first | exact HB.out | apply below_alloc | apply pw_below_drewN | apply below_drew1) | exact HB.out)⟩⟩
    case rest =>
      clear HC10
      try clear c1
      try clear p2
      try clear c3
      try clear c4
      try clear c4b0
      try clear c4b1
      try clear c5
      try clear c5b0
      try clear c5b1
      try clear c6
      try clear c6b0
      try clear c6b1
      try clear c7
      try clear c7b0
      try clear c7b1
      try clear c11
      try clear c11b0
      try clear c11b1
      obtain ⟨kq, x39_9, rfl, HA, HJ9, HB⟩ := hcut
      cases kq with
      | zero => exact absurd HA.out (by simp [gangerlaw01_NumDivs.j0])
      | succ kj9 =>
        have H := HA.out
        clear HA
        simp only [gangerlaw01_NumDivs.j0] at H
        by_cases c12 : x39_9 = true
        · subst c12
          have H1 : (if t168 = 0 then (if t169 = 0 then (if t170 = 10 then ((gangerlaw01_known.f kj9).bind fun t172 => (some t172)) else (none)) else (none)) else (none)) = some r := by rw [if_pos rfl] at H; exact H
          clear H
          have H := H1
          clear H1
          by_cases c13 : t168 = 0
          · rw [if_pos c13] at H
            have c13b0 : (t168 == 0) = true := beq_iff_eq.mpr c13
            have c13b1 : (t168 != 0) = false := bne_eq_false_iff_eq.mpr c13
            clear c13
            by_cases c14 : t169 = 0
            · rw [if_pos c14] at H
              have c14b0 : (t169 == 0) = true := beq_iff_eq.mpr c14
              have c14b1 : (t169 != 0) = false := bne_eq_false_iff_eq.mpr c14
              clear c14
              by_cases c15 : t170 = 10
              · rw [if_pos c15] at H
                have c15b0 : (t170 == 10) = true := beq_iff_eq.mpr c15
                have c15b1 : (t170 != 10) = false := bne_eq_false_iff_eq.mpr c15
                clear c15
                replace H := Option.bind_eq_some_iff.mp H
                obtain ⟨t172, A160, H⟩ := H
                replace H : (some t172) = some r := H
                have A16 := Aside0.mk A160
                clear A160
                obtain rfl := Option.some.inj H
                go_wp2_with (first | (go_at_call 12; (with_reducible refine (gangerlaw01_known.calls kj9  t172 _ A16.out).mono ?_); rintro e w17 ⟨rfl, hb⟩; have n0_ := Aside0.mk (below_step (by repeat (first | (with_reducible first | exact HB.out | apply below_alloc | apply pw_below_drewN | apply below_drew1) | exact HB.out)) hb); clear HB; have HB := n0_; clear n0_; (try clear hb); (try clear hb2); (try clear hk); (try clear hi)))
                go_ret
                exact ⟨by first | rfl | (simp [errW_none, errW_some] <;> rfl) | (simp [*, errW_none, errW_some] <;> rfl), by repeat (first | (with_reducible first | exact HB.out | apply below_alloc | apply pw_below_drewN | apply below_drew1) | exact HB.out)⟩
              · rw [if_neg c15] at H
                exact absurd H (by simp)
            · rw [if_neg c14] at H
              exact absurd H (by simp)
          · rw [if_neg c13] at H
            exact absurd H (by simp)
        · replace c12 := Bool.eq_false_iff.mpr c12
          subst c12
          have H1 : ((gangerref01_Of.f t168).bind fun bt173 => ((gangerref01_Of.f a1).bind fun bt176 => ((gangerref01_Product.f kj9 bt173.1 bt173.2.1 bt173.2.2 bt176.1 bt176.2.1 bt176.2.2).bind fun bt179 => ((gangerref01_Of.f t169).bind fun bt182 => ((gangerref01_Plus.f bt179.1 bt179.2.1 bt179.2.2 bt182.1 bt182.2.1 bt182.2.2).bind fun bt185 => ((gangerref01_Wide_Narrow.f kj9 bt185.1 bt185.2.1 bt185.2.2).bind fun bt189 => (if t169 ≥ 0 then (if a1 > 0 then (if t169 < a1 then (if t170 = 0 then (if bt189.2 = true then (if bt189.1 = a0 then ((gangerlaw01_known.f kj9).bind fun t191 => (some t191)) else (none)) else (none)) else (none)) else (if a1 < 0 then (if a1 = (-9223372036854775808) then (if t170 = 0 then (if bt189.2 = true then (if bt189.1 = a0 then ((gangerlaw01_known.f kj9).bind fun t192 => (some t192)) else (none)) else (none)) else (none)) else (if t170 = 0 then (if bt189.2 = true then (if bt189.1 = a0 then (if t169 < (wrap64 (-a1)) then ((gangerlaw01_known.f kj9).bind fun t193 => (some t193)) else (none)) else (none)) else (none)) else (none))) else (if t170 = 0 then (if bt189.2 = true then (if bt189.1 = a0 then (none) else (none)) else (none)) else (none)))) else (if a1 < 0 then (if a1 = (-9223372036854775808) then (if t170 = 0 then (if bt189.2 = true then (if bt189.1 = a0 then ((gangerlaw01_known.f kj9).bind fun t194 => (some t194)) else (none)) else (none)) else (none)) else (if t170 = 0 then (if bt189.2 = true then (if bt189.1 = a0 then (if t169 < (wrap64 (-a1)) then ((gangerlaw01_known.f kj9).bind fun t195 => (some t195)) else (none)) else (none)) else (none)) else (none))) else (if t170 = 0 then (if bt189.2 = true then (if bt189.1 = a0 then (none) else (none)) else (none)) else (none)))) else (if t170 = 0 then (if bt189.2 = true then (if bt189.1 = a0 then (none) else (none)) else (none)) else (none))))))))) = some r := by rw [if_neg (show ¬ (false = true) by decide)] at H; exact H
          clear H
          have H := H1
          clear H1
          replace H := Option.bind_eq_some_iff.mp H
          obtain ⟨⟨t173, t174, t175⟩, A180, H⟩ := H
          replace H : ((gangerref01_Of.f a1).bind fun bt176 => ((gangerref01_Product.f kj9 t173 t174 t175 bt176.1 bt176.2.1 bt176.2.2).bind fun bt179 => ((gangerref01_Of.f t169).bind fun bt182 => ((gangerref01_Plus.f bt179.1 bt179.2.1 bt179.2.2 bt182.1 bt182.2.1 bt182.2.2).bind fun bt185 => ((gangerref01_Wide_Narrow.f kj9 bt185.1 bt185.2.1 bt185.2.2).bind fun bt189 => (if t169 ≥ 0 then (if a1 > 0 then (if t169 < a1 then (if t170 = 0 then (if bt189.2 = true then (if bt189.1 = a0 then ((gangerlaw01_known.f kj9).bind fun t191 => (some t191)) else (none)) else (none)) else (none)) else (if a1 < 0 then (if a1 = (-9223372036854775808) then (if t170 = 0 then (if bt189.2 = true then (if bt189.1 = a0 then ((gangerlaw01_known.f kj9).bind fun t192 => (some t192)) else (none)) else (none)) else (none)) else (if t170 = 0 then (if bt189.2 = true then (if bt189.1 = a0 then (if t169 < (wrap64 (-a1)) then ((gangerlaw01_known.f kj9).bind fun t193 => (some t193)) else (none)) else (none)) else (none)) else (none))) else (if t170 = 0 then (if bt189.2 = true then (if bt189.1 = a0 then (none) else (none)) else (none)) else (none)))) else (if a1 < 0 then (if a1 = (-9223372036854775808) then (if t170 = 0 then (if bt189.2 = true then (if bt189.1 = a0 then ((gangerlaw01_known.f kj9).bind fun t194 => (some t194)) else (none)) else (none)) else (none)) else (if t170 = 0 then (if bt189.2 = true then (if bt189.1 = a0 then (if t169 < (wrap64 (-a1)) then ((gangerlaw01_known.f kj9).bind fun t195 => (some t195)) else (none)) else (none)) else (none)) else (none))) else (if t170 = 0 then (if bt189.2 = true then (if bt189.1 = a0 then (none) else (none)) else (none)) else (none)))) else (if t170 = 0 then (if bt189.2 = true then (if bt189.1 = a0 then (none) else (none)) else (none)) else (none)))))))) = some r := H
          have A18 := Aside0.mk A180
          clear A180
          replace H := Option.bind_eq_some_iff.mp H
          obtain ⟨⟨t176, t177, t178⟩, A190, H⟩ := H
          replace H : ((gangerref01_Product.f kj9 t173 t174 t175 t176 t177 t178).bind fun bt179 => ((gangerref01_Of.f t169).bind fun bt182 => ((gangerref01_Plus.f bt179.1 bt179.2.1 bt179.2.2 bt182.1 bt182.2.1 bt182.2.2).bind fun bt185 => ((gangerref01_Wide_Narrow.f kj9 bt185.1 bt185.2.1 bt185.2.2).bind fun bt189 => (if t169 ≥ 0 then (if a1 > 0 then (if t169 < a1 then (if t170 = 0 then (if bt189.2 = true then (if bt189.1 = a0 then ((gangerlaw01_known.f kj9).bind fun t191 => (some t191)) else (none)) else (none)) else (none)) else (if a1 < 0 then (if a1 = (-9223372036854775808) then (if t170 = 0 then (if bt189.2 = true then (if bt189.1 = a0 then ((gangerlaw01_known.f kj9).bind fun t192 => (some t192)) else (none)) else (none)) else (none)) else (if t170 = 0 then (if bt189.2 = true then (if bt189.1 = a0 then (if t169 < (wrap64 (-a1)) then ((gangerlaw01_known.f kj9).bind fun t193 => (some t193)) else (none)) else (none)) else (none)) else (none))) else (if t170 = 0 then (if bt189.2 = true then (if bt189.1 = a0 then (none) else (none)) else (none)) else (none)))) else (if a1 < 0 then (if a1 = (-9223372036854775808) then (if t170 = 0 then (if bt189.2 = true then (if bt189.1 = a0 then ((gangerlaw01_known.f kj9).bind fun t194 => (some t194)) else (none)) else (none)) else (none)) else (if t170 = 0 then (if bt189.2 = true then (if bt189.1 = a0 then (if t169 < (wrap64 (-a1)) then ((gangerlaw01_known.f kj9).bind fun t195 => (some t195)) else (none)) else (none)) else (none)) else (none))) else (if t170 = 0 then (if bt189.2 = true then (if bt189.1 = a0 then (none) else (none)) else (none)) else (none)))) else (if t170 = 0 then (if bt189.2 = true then (if bt189.1 = a0 then (none) else (none)) else (none)) else (none))))))) = some r := H
          have A19 := Aside0.mk A190
          clear A190
          replace H := Option.bind_eq_some_iff.mp H
          obtain ⟨⟨t179, t180, t181⟩, A200, H⟩ := H
          replace H : ((gangerref01_Of.f t169).bind fun bt182 => ((gangerref01_Plus.f t179 t180 t181 bt182.1 bt182.2.1 bt182.2.2).bind fun bt185 => ((gangerref01_Wide_Narrow.f kj9 bt185.1 bt185.2.1 bt185.2.2).bind fun bt189 => (if t169 ≥ 0 then (if a1 > 0 then (if t169 < a1 then (if t170 = 0 then (if bt189.2 = true then (if bt189.1 = a0 then ((gangerlaw01_known.f kj9).bind fun t191 => (some t191)) else (none)) else (none)) else (none)) else (if a1 < 0 then (if a1 = (-9223372036854775808) then (if t170 = 0 then (if bt189.2 = true then (if bt189.1 = a0 then ((gangerlaw01_known.f kj9).bind fun t192 => (some t192)) else (none)) else (none)) else (none)) else (if t170 = 0 then (if bt189.2 = true then (if bt189.1 = a0 then (if t169 < (wrap64 (-a1)) then ((gangerlaw01_known.f kj9).bind fun t193 => (some t193)) else (none)) else (none)) else (none)) else (none))) else (if t170 = 0 then (if bt189.2 = true then (if bt189.1 = a0 then (none) else (none)) else (none)) else (none)))) else (if a1 < 0 then (if a1 = (-9223372036854775808) then (if t170 = 0 then (if bt189.2 = true then (if bt189.1 = a0 then ((gangerlaw01_known.f kj9).bind fun t194 => (some t194)) else (none)) else (none)) else (none)) else (if t170 = 0 then (if bt189.2 = true then (if bt189.1 = a0 then (if t169 < (wrap64 (-a1)) then ((gangerlaw01_known.f kj9).bind fun t195 => (some t195)) else (none)) else (none)) else (none)) else (none))) else (if t170 = 0 then (if bt189.2 = true then (if bt189.1 = a0 then (none) else (none)) else (none)) else (none)))) else (if t170 = 0 then (if bt189.2 = true then (if bt189.1 = a0 then (none) else (none)) else (none)) else (none)))))) = some r := H
          have A20 := Aside0.mk A200
          clear A200
          replace H := Option.bind_eq_some_iff.mp H
          obtain ⟨⟨t182, t183, t184⟩, A210, H⟩ := H
          replace H : ((gangerref01_Plus.f t179 t180 t181 t182 t183 t184).bind fun bt185 => ((gangerref01_Wide_Narrow.f kj9 bt185.1 bt185.2.1 bt185.2.2).bind fun bt189 => (if t169 ≥ 0 then (if a1 > 0 then (if t169 < a1 then (if t170 = 0 then (if bt189.2 = true then (if bt189.1 = a0 then ((gangerlaw01_known.f kj9).bind fun t191 => (some t191)) else (none)) else (none)) else (none)) else (if a1 < 0 then (if a1 = (-9223372036854775808) then (if t170 = 0 then (if bt189.2 = true then (if bt189.1 = a0 then ((gangerlaw01_known.f kj9).bind fun t192 => (some t192)) else (none)) else (none)) else (none)) else (if t170 = 0 then (if bt189.2 = true then (if bt189.1 = a0 then (if t169 < (wrap64 (-a1)) then ((gangerlaw01_known.f kj9).bind fun t193 => (some t193)) else (none)) else (none)) else (none)) else (none))) else (if t170 = 0 then (if bt189.2 = true then (if bt189.1 = a0 then (none) else (none)) else (none)) else (none)))) else (if a1 < 0 then (if a1 = (-9223372036854775808) then (if t170 = 0 then (if bt189.2 = true then (if bt189.1 = a0 then ((gangerlaw01_known.f kj9).bind fun t194 => (some t194)) else (none)) else (none)) else (none)) else (if t170 = 0 then (if bt189.2 = true then (if bt189.1 = a0 then (if t169 < (wrap64 (-a1)) then ((gangerlaw01_known.f kj9).bind fun t195 => (some t195)) else (none)) else (none)) else (none)) else (none))) else (if t170 = 0 then (if bt189.2 = true then (if bt189.1 = a0 then (none) else (none)) else (none)) else (none)))) else (if t170 = 0 then (if bt189.2 = true then (if bt189.1 = a0 then (none) else (none)) else (none)) else (none))))) = some r := H
          have A21 := Aside0.mk A210
          clear A210
          replace H := Option.bind_eq_some_iff.mp H
          obtain ⟨⟨t185, t186, t187⟩, A220, H⟩ := H
          replace H : ((gangerref01_Wide_Narrow.f kj9 t185 t186 t187).bind fun bt189 => (if t169 ≥ 0 then (if a1 > 0 then (if t169 < a1 then (if t170 = 0 then (if bt189.2 = true then (if bt189.1 = a0 then ((gangerlaw01_known.f kj9).bind fun t191 => (some t191)) else (none)) else (none)) else (none)) else (if a1 < 0 then (if a1 = (-9223372036854775808) then (if t170 = 0 then (if bt189.2 = true then (if bt189.1 = a0 then ((gangerlaw01_known.f kj9).bind fun t192 => (some t192)) else (none)) else (none)) else (none)) else (if t170 = 0 then (if bt189.2 = true then (if bt189.1 = a0 then (if t169 < (wrap64 (-a1)) then ((gangerlaw01_known.f kj9).bind fun t193 => (some t193)) else (none)) else (none)) else (none)) else (none))) else (if t170 = 0 then (if bt189.2 = true then (if bt189.1 = a0 then (none) else (none)) else (none)) else (none)))) else (if a1 < 0 then (if a1 = (-9223372036854775808) then (if t170 = 0 then (if bt189.2 = true then (if bt189.1 = a0 then ((gangerlaw01_known.f kj9).bind fun t194 => (some t194)) else (none)) else (none)) else (none)) else (if t170 = 0 then (if bt189.2 = true then (if bt189.1 = a0 then (if t169 < (wrap64 (-a1)) then ((gangerlaw01_known.f kj9).bind fun t195 => (some t195)) else (none)) else (none)) else (none)) else (none))) else (if t170 = 0 then (if bt189.2 = true then (if bt189.1 = a0 then (none) else (none)) else (none)) else (none)))) else (if t170 = 0 then (if bt189.2 = true then (if bt189.1 = a0 then (none) else (none)) else (none)) else (none)))) = some r := H
          have A22 := Aside0.mk A220
          clear A220
          replace H := Option.bind_eq_some_iff.mp H
          obtain ⟨⟨t189, t190⟩, A230, H⟩ := H
          replace H : (if t169 ≥ 0 then (if a1 > 0 then (if t169 < a1 then (if t170 = 0 then (if t190 = true then (if t189 = a0 then ((gangerlaw01_known.f kj9).bind fun t191 => (some t191)) else (none)) else (none)) else (none)) else (if a1 < 0 then (if a1 = (-9223372036854775808) then (if t170 = 0 then (if t190 = true then (if t189 = a0 then ((gangerlaw01_known.f kj9).bind fun t192 => (some t192)) else (none)) else (none)) else (none)) else (if t170 = 0 then (if t190 = true then (if t189 = a0 then (if t169 < (wrap64 (-a1)) then ((gangerlaw01_known.f kj9).bind fun t193 => (some t193)) else (none)) else (none)) else (none)) else (none))) else (if t170 = 0 then (if t190 = true then (if t189 = a0 then (none) else (none)) else (none)) else (none)))) else (if a1 < 0 then (if a1 = (-9223372036854775808) then (if t170 = 0 then (if t190 = true then (if t189 = a0 then ((gangerlaw01_known.f kj9).bind fun t194 => (some t194)) else (none)) else (none)) else (none)) else (if t170 = 0 then (if t190 = true then (if t189 = a0 then (if t169 < (wrap64 (-a1)) then ((gangerlaw01_known.f kj9).bind fun t195 => (some t195)) else (none)) else (none)) else (none)) else (none))) else (if t170 = 0 then (if t190 = true then (if t189 = a0 then (none) else (none)) else (none)) else (none)))) else (if t170 = 0 then (if t190 = true then (if t189 = a0 then (none) else (none)) else (none)) else (none))) = some r := H
          have A23 := Aside0.mk A230
          clear A230
          by_cases c24 : t169 ≥ 0
          · rw [if_pos c24] at H
            have c24b0 : decide (0 ≤ t169) = true := decide_eq_true c24
            clear c24
            by_cases c25 : a1 > 0
            · rw [if_pos c25] at H
              have c25b0 : decide (0 < a1) = true := decide_eq_true c25
              clear c25
              by_cases c26 : t169 < a1
              · rw [if_pos c26] at H
                have c26b0 : decide (t169 < a1) = true := decide_eq_true c26
                clear c26
                by_cases c27 : t170 = 0
                · rw [if_pos c27] at H
                  have c27b0 : (t170 == 0) = true := beq_iff_eq.mpr c27
                  have c27b1 : (t170 != 0) = false := bne_eq_false_iff_eq.mpr c27
                  clear c27
                  by_cases c28 : t190 = true
                  · subst c28
                    have H1 : (if t189 = a0 then ((gangerlaw01_known.f kj9).bind fun t191 => (some t191)) else (none)) = some r := by rw [if_pos rfl] at H; exact H
                    clear H
                    have H := H1
                    clear H1
                    by_cases c29 : t189 = a0
                    · rw [if_pos c29] at H
                      have c29b0 : (t189 == a0) = true := beq_iff_eq.mpr c29
                      have c29b1 : (t189 != a0) = false := bne_eq_false_iff_eq.mpr c29
                      clear c29
                      replace H := Option.bind_eq_some_iff.mp H
                      obtain ⟨t191, A300, H⟩ := H
                      replace H : (some t191) = some r := H
                      have A30 := Aside0.mk A300
                      clear A300
                      obtain rfl := Option.some.inj H
                      go_wp2_with (first | ((with_reducible refine gate_callee (f := 15) rfl ?_); refine goesL_ (some 54) rfl rfl Try.func15 (by kernel_rfl) rfl #[.int .i64 t168] rfl (by (try simp only [List.map_toArray, List.map_cons, List.map_nil]); first | done | rfl | (simp only [List.length_drop, List.length_take]; rfl)) ?_; (with_reducible refine (gangerref01_Of.calls t168 t173 t174 t175 _ A18.out).mono ?_); rintro e w31 ⟨rfl, hb⟩; refine ⟨_, rfl, ?_⟩; have n0_ := Aside0.mk (below_step (by repeat (first | (with_reducible first | exact HB.out | apply below_alloc | apply pw_below_drewN | apply below_drew1) | exact HB.out)) hb); clear HB; have HB := n0_; clear n0_; (try clear hb); (try clear hb2); (try clear hk); (try clear hi)) | ((with_reducible refine gate_callee (f := 15) rfl ?_); refine goesL_ (some 56) rfl rfl Try.func15 (by kernel_rfl) rfl #[.int .i64 a1] rfl (by (try simp only [List.map_toArray, List.map_cons, List.map_nil]); first | done | rfl | (simp only [List.length_drop, List.length_take]; rfl)) ?_; (with_reducible refine (gangerref01_Of.calls a1 t176 t177 t178 _ A19.out).mono ?_); rintro e w32 ⟨rfl, hb⟩; refine ⟨_, rfl, ?_⟩; have n0_ := Aside0.mk (below_step (by repeat (first | (with_reducible first | exact HB.out | apply below_alloc | apply pw_below_drewN | apply below_drew1) | exact HB.out)) hb); clear HB; have HB := n0_; clear n0_; (try clear hb); (try clear hb2); (try clear hk); (try clear hi)) | ((with_reducible refine gate_callee (f := 14) rfl ?_); refine goesL_ (some 57) rfl rfl Try.func14 (by kernel_rfl) rfl #[.agg #[.bool t173, .int .u64 t174, .int .u64 t175], .agg #[.bool t176, .int .u64 t177, .int .u64 t178]] rfl (by (try simp only [List.map_toArray, List.map_cons, List.map_nil]); first | done | rfl | (simp only [List.length_drop, List.length_take]; rfl)) ?_; (with_reducible refine (gangerref01_Product.calls kj9 t173 t174 t175 t176 t177 t178 t179 t180 t181 _ A20.out).mono ?_); rintro e w33 ⟨rfl, hb⟩; refine ⟨_, rfl, ?_⟩; have n0_ := Aside0.mk (below_step (by repeat (first | (with_reducible first | exact HB.out | apply below_alloc | apply pw_below_drewN | apply below_drew1) | exact HB.out)) hb); clear HB; have HB := n0_; clear n0_; (try clear hb); (try clear hb2); (try clear hk); (try clear hi)) | ((with_reducible refine gate_callee (f := 15) rfl ?_); refine goesL_ (some 59) rfl rfl Try.func15 (by kernel_rfl) rfl #[.int .i64 t169] rfl (by (try simp only [List.map_toArray, List.map_cons, List.map_nil]); first | done | rfl | (simp only [List.length_drop, List.length_take]; rfl)) ?_; (with_reducible refine (gangerref01_Of.calls t169 t182 t183 t184 _ A21.out).mono ?_); rintro e w34 ⟨rfl, hb⟩; refine ⟨_, rfl, ?_⟩; have n0_ := Aside0.mk (below_step (by repeat (first | (with_reducible first | exact HB.out | apply below_alloc | apply pw_below_drewN | apply below_drew1) | exact HB.out)) hb); clear HB; have HB := n0_; clear n0_; (try clear hb); (try clear hb2); (try clear hk); (try clear hi)) | ((with_reducible refine gate_callee (f := 13) rfl ?_); refine goesL_ (some 60) rfl rfl Try.func13 (by kernel_rfl) rfl #[.agg #[.bool t179, .int .u64 t180, .int .u64 t181], .agg #[.bool t182, .int .u64 t183, .int .u64 t184]] rfl (by (try simp only [List.map_toArray, List.map_cons, List.map_nil]); first | done | rfl | (simp only [List.length_drop, List.length_take]; rfl)) ?_; (with_reducible refine (gangerref01_Plus.calls t179 t180 t181 t182 t183 t184 t185 t186 t187 _ A22.out).mono ?_); rintro e w35 ⟨rfl, hb⟩; refine ⟨_, rfl, ?_⟩; have n0_ := Aside0.mk (below_step (by repeat (first | (with_reducible first | exact HB.out | apply below_alloc | apply pw_below_drewN | apply below_drew1) | exact HB.out)) hb); clear HB; have HB := n0_; clear n0_; (try clear hb); (try clear hb2); (try clear hk); (try clear hi)) | ((with_reducible refine gate_dst (N := 8) rfl ?_); refine box_event ?hg (N := 8) ?hd (cs := #[.bool false, .int .u64 0, .int .u64 0]) (t := 28) ?hr ?_; (case hd => rfl); (case hg => rfl); (case hr => first | (go_simp; done) | (go_simp; rfl)); intro gb188 hg w36 hbox hb; have n0_ := Aside0.mk (below_step (by repeat (first | (with_reducible first | exact HB.out | apply below_alloc | apply pw_below_drewN | apply below_drew1) | exact HB.out)) hb); have n1_ := Aside0.mk (hbox); have n2_ := Aside0.mk ((by rw [hg]; exact (below_size (by repeat (first | (with_reducible first | exact HB.out | apply below_alloc | apply pw_below_drewN | apply below_drew1) | exact HB.out))) : w.heap.size ≤ gb188)); have n3_ := Aside0.mk ((by rw [hg]; exact (below_size (by repeat (first | (with_reducible first | exact HB.out | apply below_alloc | apply pw_below_drewN | apply below_drew1) | exact HB.out))) : w.heap.size ≤ gb188)); clear HB; have HB := n0_; have BK188 := n1_; have GW188 := n2_; have GE188 := n3_; clear n0_ n1_ n2_ n3_; clear hb hbox hg; have hcz37_0 : w36.cell? ⟨gb188, 0, none⟩ = some (.bool false) := (blk_cell BK188.out 0).trans rfl; have hcz37_1 : w36.cell? ⟨gb188, 1, none⟩ = some (.int .u64 0) := (blk_cell BK188.out 1).trans rfl; have hcz37_2 : w36.cell? ⟨gb188, 2, none⟩ = some (.int .u64 0) := (blk_cell BK188.out 2).trans rfl; have hfz37_0 := blk_frozen BK188.out 0; have hfz37_1 := blk_frozen BK188.out 1; have hfz37_2 := blk_frozen BK188.out 2) | ((with_reducible refine gate_callee (f := 16) rfl ?_); refine goesL_ (some 63) rfl rfl Try.func16 (by kernel_rfl) rfl #[.agg #[.bool t185, .int .u64 t186, .int .u64 t187]] rfl (by (try simp only [List.map_toArray, List.map_cons, List.map_nil]); first | done | rfl | (simp only [List.length_drop, List.length_take]; rfl)) ?_; (with_reducible refine (gangerref01_Wide_Narrow.calls kj9 t185 t186 t187 t189 true _ A23.out).mono ?_); rintro e w38 ⟨rfl, hb⟩; refine ⟨_, rfl, ?_⟩; have n0_ := Aside0.mk (blk_below (g := gb188) (o := .cells #[.bool t185, .int .u64 t186, .int .u64 t187] 28 (0, 0)) (by (with_reducible repeat (first | refine blk_drewN ?_ _ | refine blk_drew ?_ | refine blk_alloc ?_ _)); refine blk_put (cs := #[.bool t185, .int .u64 t186, .int .u64 0]) ?_ 2 _ rfl; (with_reducible repeat (first | refine blk_drewN ?_ _ | refine blk_drew ?_ | refine blk_alloc ?_ _)); refine blk_put (cs := #[.bool t185, .int .u64 0, .int .u64 0]) ?_ 1 _ rfl; (with_reducible repeat (first | refine blk_drewN ?_ _ | refine blk_drew ?_ | refine blk_alloc ?_ _)); refine blk_put (cs := #[.bool false, .int .u64 0, .int .u64 0]) ?_ 0 _ rfl; (with_reducible repeat (first | refine blk_drewN ?_ _ | refine blk_drew ?_ | refine blk_alloc ?_ _)); exact BK188.out) hb); have n1_ := Aside0.mk (below_step (by repeat (first | (with_reducible first | exact HB.out | apply below_alloc | apply pw_below_drewN | apply below_drew1 | refine below_set ?_ GE188.out) | exact HB.out)) hb); clear BK188; clear HB; have BK188 := n0_; have HB := n1_; clear n0_ n1_; (try clear hb); (try clear hb2); (try clear hk); (try clear hi)) | (go_at_call 12; (with_reducible refine (gangerlaw01_known.calls kj9  t191 _ A30.out).mono ?_); rintro e w39 ⟨rfl, hb⟩; have n0_ := Aside0.mk (blk_below (g := gb188) (o := .cells #[.bool t185, .int .u64 t186, .int .u64 t187] 28 (0, 0)) (by (with_reducible repeat (first | refine blk_drewN ?_ _ | refine blk_drew ?_ | refine blk_alloc ?_ _)); exact BK188.out) hb); have n1_ := Aside0.mk (below_step (by repeat (first | (with_reducible first | exact HB.out | apply below_alloc | apply pw_below_drewN | apply below_drew1 | refine below_set ?_ GE188.out) | exact HB.out)) hb); clear BK188; clear HB; have BK188 := n0_; have HB := n1_; clear n0_ n1_; (try clear hb); (try clear hb2); (try clear hk); (try clear hi)))
                      go_ret
                      exact ⟨by first | rfl | (simp [errW_none, errW_some] <;> rfl) | (simp [*, errW_none, errW_some] <;> rfl), by repeat (first | (with_reducible first | exact HB.out | apply below_alloc | apply pw_below_drewN | apply below_drew1 | refine below_set ?_ GE188.out) | exact HB.out)⟩
                    · rw [if_neg c29] at H
                      exact absurd H (by simp)
                  · replace c28 := Bool.eq_false_iff.mpr c28
                    subst c28
                    have H1 : (none) = some r := by rw [if_neg (show ¬ (false = true) by decide)] at H; exact H
                    clear H
                    have H := H1
                    clear H1
                    exact absurd H (by simp)
                · rw [if_neg c27] at H
                  exact absurd H (by simp)
              · rw [if_neg c26] at H
                have c26b0 : decide (t169 < a1) = false := decide_eq_false c26
                clear c26
                by_cases c40 : a1 < 0
                · rw [if_pos c40] at H
                  have c40b0 : decide (a1 < 0) = true := decide_eq_true c40
                  clear c40
                  by_cases c41 : a1 = (-9223372036854775808)
                  · rw [if_pos c41] at H
                    have c41b0 : (a1 == (-9223372036854775808)) = true := beq_iff_eq.mpr c41
                    have c41b1 : (a1 != (-9223372036854775808)) = false := bne_eq_false_iff_eq.mpr c41
                    clear c41
                    by_cases c42 : t170 = 0
                    · rw [if_pos c42] at H
                      have c42b0 : (t170 == 0) = true := beq_iff_eq.mpr c42
                      have c42b1 : (t170 != 0) = false := bne_eq_false_iff_eq.mpr c42
                      clear c42
                      by_cases c43 : t190 = true
                      · subst c43
                        have H1 : (if t189 = a0 then ((gangerlaw01_known.f kj9).bind fun t192 => (some t192)) else (none)) = some r := by rw [if_pos rfl] at H; exact H
                        clear H
                        have H := H1
                        clear H1
                        by_cases c44 : t189 = a0
                        · rw [if_pos c44] at H
                          have c44b0 : (t189 == a0) = true := beq_iff_eq.mpr c44
                          have c44b1 : (t189 != a0) = false := bne_eq_false_iff_eq.mpr c44
                          clear c44
                          replace H := Option.bind_eq_some_iff.mp H
                          obtain ⟨t192, A450, H⟩ := H
                          replace H : (some t192) = some r := H
                          have A45 := Aside0.mk A450
                          clear A450
                          obtain rfl := Option.some.inj H
                          go_wp2_with (first | ((with_reducible refine gate_callee (f := 15) rfl ?_); refine goesL_ (some 54) rfl rfl Try.func15 (by kernel_rfl) rfl #[.int .i64 t168] rfl (by (try simp only [List.map_toArray, List.map_cons, List.map_nil]); first | done | rfl | (simp only [List.length_drop, List.length_take]; rfl)) ?_; (with_reducible refine (gangerref01_Of.calls t168 t173 t174 t175 _ A18.out).mono ?_); rintro e w46 ⟨rfl, hb⟩; refine ⟨_, rfl, ?_⟩; have n0_ := Aside0.mk (below_step (by repeat (first | (with_reducible first | exact HB.out | apply below_alloc | apply pw_below_drewN | apply below_drew1) | exact HB.out)) hb); clear HB; have HB := n0_; clear n0_; (try clear hb); (try clear hb2); (try clear hk); (try clear hi)) | ((with_reducible refine gate_callee (f := 15) rfl ?_); refine goesL_ (some 56) rfl rfl Try.func15 (by kernel_rfl) rfl #[.int .i64 a1] rfl (by (try simp only [List.map_toArray, List.map_cons, List.map_nil]); first | done | rfl | (simp only [List.length_drop, List.length_take]; rfl)) ?_; (with_reducible refine (gangerref01_Of.calls a1 t176 t177 t178 _ A19.out).mono ?_); rintro e w47 ⟨rfl, hb⟩; refine ⟨_, rfl, ?_⟩; have n0_ := Aside0.mk (below_step (by repeat (first | (with_reducible first | exact HB.out | apply below_alloc | apply pw_below_drewN | apply below_drew1) | exact HB.out)) hb); clear HB; have HB := n0_; clear n0_; (try clear hb); (try clear hb2); (try clear hk); (try clear hi)) | ((with_reducible refine gate_callee (f := 14) rfl ?_); refine goesL_ (some 57) rfl rfl Try.func14 (by kernel_rfl) rfl #[.agg #[.bool t173, .int .u64 t174, .int .u64 t175], .agg #[.bool t176, .int .u64 t177, .int .u64 t178]] rfl (by (try simp only [List.map_toArray, List.map_cons, List.map_nil]); first | done | rfl | (simp only [List.length_drop, List.length_take]; rfl)) ?_; (with_reducible refine (gangerref01_Product.calls kj9 t173 t174 t175 t176 t177 t178 t179 t180 t181 _ A20.out).mono ?_); rintro e w48 ⟨rfl, hb⟩; refine ⟨_, rfl, ?_⟩; have n0_ := Aside0.mk (below_step (by repeat (first | (with_reducible first | exact HB.out | apply below_alloc | apply pw_below_drewN | apply below_drew1) | exact HB.out)) hb); clear HB; have HB := n0_; clear n0_; (try clear hb); (try clear hb2); (try clear hk); (try clear hi)) | ((with_reducible refine gate_callee (f := 15) rfl ?_); refine goesL_ (some 59) rfl rfl Try.func15 (by kernel_rfl) rfl #[.int .i64 t169] rfl (by (try simp only [List.map_toArray, List.map_cons, List.map_nil]); first | done | rfl | (simp only [List.length_drop, List.length_take]; rfl)) ?_; (with_reducible refine (gangerref01_Of.calls t169 t182 t183 t184 _ A21.out).mono ?_); rintro e w49 ⟨rfl, hb⟩; refine ⟨_, rfl, ?_⟩; have n0_ := Aside0.mk (below_step (by repeat (first | (with_reducible first | exact HB.out | apply below_alloc | apply pw_below_drewN | apply below_drew1) | exact HB.out)) hb); clear HB; have HB := n0_; clear n0_; (try clear hb); (try clear hb2); (try clear hk); (try clear hi)) | ((with_reducible refine gate_callee (f := 13) rfl ?_); refine goesL_ (some 60) rfl rfl Try.func13 (by kernel_rfl) rfl #[.agg #[.bool t179, .int .u64 t180, .int .u64 t181], .agg #[.bool t182, .int .u64 t183, .int .u64 t184]] rfl (by (try simp only [List.map_toArray, List.map_cons, List.map_nil]); first | done | rfl | (simp only [List.length_drop, List.length_take]; rfl)) ?_; (with_reducible refine (gangerref01_Plus.calls t179 t180 t181 t182 t183 t184 t185 t186 t187 _ A22.out).mono ?_); rintro e w50 ⟨rfl, hb⟩; refine ⟨_, rfl, ?_⟩; have n0_ := Aside0.mk (below_step (by repeat (first | (with_reducible first | exact HB.out | apply below_alloc | apply pw_below_drewN | apply below_drew1) | exact HB.out)) hb); clear HB; have HB := n0_; clear n0_; (try clear hb); (try clear hb2); (try clear hk); (try clear hi)) | ((with_reducible refine gate_dst (N := 8) rfl ?_); refine box_event ?hg (N := 8) ?hd (cs := #[.bool false, .int .u64 0, .int .u64 0]) (t := 28) ?hr ?_; (case hd => rfl); (case hg => rfl); (case hr => first | (go_simp; done) | (go_simp; rfl)); intro gb188 hg w51 hbox hb; have n0_ := Aside0.mk (below_step (by repeat (first | (with_reducible first | exact HB.out | apply below_alloc | apply pw_below_drewN | apply below_drew1) | exact HB.out)) hb); have n1_ := Aside0.mk (hbox); have n2_ := Aside0.mk ((by rw [hg]; exact (below_size (by repeat (first | (with_reducible first | exact HB.out | apply below_alloc | apply pw_below_drewN | apply below_drew1) | exact HB.out))) : w.heap.size ≤ gb188)); have n3_ := Aside0.mk ((by rw [hg]; exact (below_size (by repeat (first | (with_reducible first | exact HB.out | apply below_alloc | apply pw_below_drewN | apply below_drew1) | exact HB.out))) : w.heap.size ≤ gb188)); clear HB; have HB := n0_; have BK188 := n1_; have GW188 := n2_; have GE188 := n3_; clear n0_ n1_ n2_ n3_; clear hb hbox hg; have hcz52_0 : w51.cell? ⟨gb188, 0, none⟩ = some (.bool false) := (blk_cell BK188.out 0).trans rfl; have hcz52_1 : w51.cell? ⟨gb188, 1, none⟩ = some (.int .u64 0) := (blk_cell BK188.out 1).trans rfl; have hcz52_2 : w51.cell? ⟨gb188, 2, none⟩ = some (.int .u64 0) := (blk_cell BK188.out 2).trans rfl; have hfz52_0 := blk_frozen BK188.out 0; have hfz52_1 := blk_frozen BK188.out 1; have hfz52_2 := blk_frozen BK188.out 2) | ((with_reducible refine gate_callee (f := 16) rfl ?_); refine goesL_ (some 63) rfl rfl Try.func16 (by kernel_rfl) rfl #[.agg #[.bool t185, .int .u64 t186, .int .u64 t187]] rfl (by (try simp only [List.map_toArray, List.map_cons, List.map_nil]); first | done | rfl | (simp only [List.length_drop, List.length_take]; rfl)) ?_; (with_reducible refine (gangerref01_Wide_Narrow.calls kj9 t185 t186 t187 t189 true _ A23.out).mono ?_); rintro e w53 ⟨rfl, hb⟩; refine ⟨_, rfl, ?_⟩; have n0_ := Aside0.mk (blk_below (g := gb188) (o := .cells #[.bool t185, .int .u64 t186, .int .u64 t187] 28 (0, 0)) (by (with_reducible repeat (first | refine blk_drewN ?_ _ | refine blk_drew ?_ | refine blk_alloc ?_ _)); refine blk_put (cs := #[.bool t185, .int .u64 t186, .int .u64 0]) ?_ 2 _ rfl; (with_reducible repeat (first | refine blk_drewN ?_ _ | refine blk_drew ?_ | refine blk_alloc ?_ _)); refine blk_put (cs := #[.bool t185, .int .u64 0, .int .u64 0]) ?_ 1 _ rfl; (with_reducible repeat (first | refine blk_drewN ?_ _ | refine blk_drew ?_ | refine blk_alloc ?_ _)); refine blk_put (cs := #[.bool false, .int .u64 0, .int .u64 0]) ?_ 0 _ rfl; (with_reducible repeat (first | refine blk_drewN ?_ _ | refine blk_drew ?_ | refine blk_alloc ?_ _)); exact BK188.out) hb); have n1_ := Aside0.mk (below_step (by repeat (first | (with_reducible first | exact HB.out | apply below_alloc | apply pw_below_drewN | apply below_drew1 | refine below_set ?_ GE188.out) | exact HB.out)) hb); clear BK188; clear HB; have BK188 := n0_; have HB := n1_; clear n0_ n1_; (try clear hb); (try clear hb2); (try clear hk); (try clear hi)) | (go_at_call 12; (with_reducible refine (gangerlaw01_known.calls kj9  t192 _ A45.out).mono ?_); rintro e w54 ⟨rfl, hb⟩; have n0_ := Aside0.mk (blk_below (g := gb188) (o := .cells #[.bool t185, .int .u64 t186, .int .u64 t187] 28 (0, 0)) (by (with_reducible repeat (first | refine blk_drewN ?_ _ | refine blk_drew ?_ | refine blk_alloc ?_ _)); exact BK188.out) hb); have n1_ := Aside0.mk (below_step (by repeat (first | (with_reducible first | exact HB.out | apply below_alloc | apply pw_below_drewN | apply below_drew1 | refine below_set ?_ GE188.out) | exact HB.out)) hb); clear BK188; clear HB; have BK188 := n0_; have HB := n1_; clear n0_ n1_; (try clear hb); (try clear hb2); (try clear hk); (try clear hi)))
                          go_ret
                          exact ⟨by first | rfl | (simp [errW_none, errW_some] <;> rfl) | (simp [*, errW_none, errW_some] <;> rfl), by repeat (first | (with_reducible first | exact HB.out | apply below_alloc | apply pw_below_drewN | apply below_drew1 | refine below_set ?_ GE188.out) | exact HB.out)⟩
                        · rw [if_neg c44] at H
                          exact absurd H (by simp)
                      · replace c43 := Bool.eq_false_iff.mpr c43
                        subst c43
                        have H1 : (none) = some r := by rw [if_neg (show ¬ (false = true) by decide)] at H; exact H
                        clear H
                        have H := H1
                        clear H1
                        exact absurd H (by simp)
                    · rw [if_neg c42] at H
                      exact absurd H (by simp)
                  · rw [if_neg c41] at H
                    have c41b0 : (a1 == (-9223372036854775808)) = false := beq_eq_false_iff_ne.mpr c41
                    have c41b1 : (a1 != (-9223372036854775808)) = true := bne_iff_ne.mpr c41
                    by_cases c55 : t170 = 0
                    · rw [if_pos c55] at H
                      have c55b0 : (t170 == 0) = true := beq_iff_eq.mpr c55
                      have c55b1 : (t170 != 0) = false := bne_eq_false_iff_eq.mpr c55
                      clear c55
                      by_cases c56 : t190 = true
                      · subst c56
                        have H1 : (if t189 = a0 then (if t169 < (wrap64 (-a1)) then ((gangerlaw01_known.f kj9).bind fun t193 => (some t193)) else (none)) else (none)) = some r := by rw [if_pos rfl] at H; exact H
                        clear H
                        have H := H1
                        clear H1
                        by_cases c57 : t189 = a0
                        · rw [if_pos c57] at H
                          have c57b0 : (t189 == a0) = true := beq_iff_eq.mpr c57
                          have c57b1 : (t189 != a0) = false := bne_eq_false_iff_eq.mpr c57
                          clear c57
                          by_cases c58 : t169 < (wrap64 (-a1))
                          · rw [if_pos c58] at H
                            have c58b0 : decide (t169 < (wrap64 (-a1))) = true := decide_eq_true c58
                            clear c58
                            replace H := Option.bind_eq_some_iff.mp H
                            obtain ⟨t193, A590, H⟩ := H
                            replace H : (some t193) = some r := H
                            have A59 := Aside0.mk A590
                            clear A590
                            obtain rfl := Option.some.inj H
                            go_wp2_with (first | ((with_reducible refine gate_callee (f := 15) rfl ?_); refine goesL_ (some 54) rfl rfl Try.func15 (by kernel_rfl) rfl #[.int .i64 t168] rfl (by (try simp only [List.map_toArray, List.map_cons, List.map_nil]); first | done | rfl | (simp only [List.length_drop, List.length_take]; rfl)) ?_; (with_reducible refine (gangerref01_Of.calls t168 t173 t174 t175 _ A18.out).mono ?_); rintro e w60 ⟨rfl, hb⟩; refine ⟨_, rfl, ?_⟩; have n0_ := Aside0.mk (below_step (by repeat (first | (with_reducible first | exact HB.out | apply below_alloc | apply pw_below_drewN | apply below_drew1) | exact HB.out)) hb); clear HB; have HB := n0_; clear n0_; (try clear hb); (try clear hb2); (try clear hk); (try clear hi)) | ((with_reducible refine gate_callee (f := 15) rfl ?_); refine goesL_ (some 56) rfl rfl Try.func15 (by kernel_rfl) rfl #[.int .i64 a1] rfl (by (try simp only [List.map_toArray, List.map_cons, List.map_nil]); first | done | rfl | (simp only [List.length_drop, List.length_take]; rfl)) ?_; (with_reducible refine (gangerref01_Of.calls a1 t176 t177 t178 _ A19.out).mono ?_); rintro e w61 ⟨rfl, hb⟩; refine ⟨_, rfl, ?_⟩; have n0_ := Aside0.mk (below_step (by repeat (first | (with_reducible first | exact HB.out | apply below_alloc | apply pw_below_drewN | apply below_drew1) | exact HB.out)) hb); clear HB; have HB := n0_; clear n0_; (try clear hb); (try clear hb2); (try clear hk); (try clear hi)) | ((with_reducible refine gate_callee (f := 14) rfl ?_); refine goesL_ (some 57) rfl rfl Try.func14 (by kernel_rfl) rfl #[.agg #[.bool t173, .int .u64 t174, .int .u64 t175], .agg #[.bool t176, .int .u64 t177, .int .u64 t178]] rfl (by (try simp only [List.map_toArray, List.map_cons, List.map_nil]); first | done | rfl | (simp only [List.length_drop, List.length_take]; rfl)) ?_; (with_reducible refine (gangerref01_Product.calls kj9 t173 t174 t175 t176 t177 t178 t179 t180 t181 _ A20.out).mono ?_); rintro e w62 ⟨rfl, hb⟩; refine ⟨_, rfl, ?_⟩; have n0_ := Aside0.mk (below_step (by repeat (first | (with_reducible first | exact HB.out | apply below_alloc | apply pw_below_drewN | apply below_drew1) | exact HB.out)) hb); clear HB; have HB := n0_; clear n0_; (try clear hb); (try clear hb2); (try clear hk); (try clear hi)) | ((with_reducible refine gate_callee (f := 15) rfl ?_); refine goesL_ (some 59) rfl rfl Try.func15 (by kernel_rfl) rfl #[.int .i64 t169] rfl (by (try simp only [List.map_toArray, List.map_cons, List.map_nil]); first | done | rfl | (simp only [List.length_drop, List.length_take]; rfl)) ?_; (with_reducible refine (gangerref01_Of.calls t169 t182 t183 t184 _ A21.out).mono ?_); rintro e w63 ⟨rfl, hb⟩; refine ⟨_, rfl, ?_⟩; have n0_ := Aside0.mk (below_step (by repeat (first | (with_reducible first | exact HB.out | apply below_alloc | apply pw_below_drewN | apply below_drew1) | exact HB.out)) hb); clear HB; have HB := n0_; clear n0_; (try clear hb); (try clear hb2); (try clear hk); (try clear hi)) | ((with_reducible refine gate_callee (f := 13) rfl ?_); refine goesL_ (some 60) rfl rfl Try.func13 (by kernel_rfl) rfl #[.agg #[.bool t179, .int .u64 t180, .int .u64 t181], .agg #[.bool t182, .int .u64 t183, .int .u64 t184]] rfl (by (try simp only [List.map_toArray, List.map_cons, List.map_nil]); first | done | rfl | (simp only [List.length_drop, List.length_take]; rfl)) ?_; (with_reducible refine (gangerref01_Plus.calls t179 t180 t181 t182 t183 t184 t185 t186 t187 _ A22.out).mono ?_); rintro e w64 ⟨rfl, hb⟩; refine ⟨_, rfl, ?_⟩; have n0_ := Aside0.mk (below_step (by repeat (first | (with_reducible first | exact HB.out | apply below_alloc | apply pw_below_drewN | apply below_drew1) | exact HB.out)) hb); clear HB; have HB := n0_; clear n0_; (try clear hb); (try clear hb2); (try clear hk); (try clear hi)) | ((with_reducible refine gate_dst (N := 8) rfl ?_); refine box_event ?hg (N := 8) ?hd (cs := #[.bool false, .int .u64 0, .int .u64 0]) (t := 28) ?hr ?_; (case hd => rfl); (case hg => rfl); (case hr => first | (go_simp; done) | (go_simp; rfl)); intro gb188 hg w65 hbox hb; have n0_ := Aside0.mk (below_step (by repeat (first | (with_reducible first | exact HB.out | apply below_alloc | apply pw_below_drewN | apply below_drew1) | exact HB.out)) hb); have n1_ := Aside0.mk (hbox); have n2_ := Aside0.mk ((by rw [hg]; exact (below_size (by repeat (first | (with_reducible first | exact HB.out | apply below_alloc | apply pw_below_drewN | apply below_drew1) | exact HB.out))) : w.heap.size ≤ gb188)); have n3_ := Aside0.mk ((by rw [hg]; exact (below_size (by repeat (first | (with_reducible first | exact HB.out | apply below_alloc | apply pw_below_drewN | apply below_drew1) | exact HB.out))) : w.heap.size ≤ gb188)); clear HB; have HB := n0_; have BK188 := n1_; have GW188 := n2_; have GE188 := n3_; clear n0_ n1_ n2_ n3_; clear hb hbox hg; have hcz66_0 : w65.cell? ⟨gb188, 0, none⟩ = some (.bool false) := (blk_cell BK188.out 0).trans rfl; have hcz66_1 : w65.cell? ⟨gb188, 1, none⟩ = some (.int .u64 0) := (blk_cell BK188.out 1).trans rfl; have hcz66_2 : w65.cell? ⟨gb188, 2, none⟩ = some (.int .u64 0) := (blk_cell BK188.out 2).trans rfl; have hfz66_0 := blk_frozen BK188.out 0; have hfz66_1 := blk_frozen BK188.out 1; have hfz66_2 := blk_frozen BK188.out 2) | ((with_reducible refine gate_callee (f := 16) rfl ?_); refine goesL_ (some 63) rfl rfl Try.func16 (by kernel_rfl) rfl #[.agg #[.bool t185, .int .u64 t186, .int .u64 t187]] rfl (by (try simp only [List.map_toArray, List.map_cons, List.map_nil]); first | done | rfl | (simp only [List.length_drop, List.length_take]; rfl)) ?_; (with_reducible refine (gangerref01_Wide_Narrow.calls kj9 t185 t186 t187 t189 true _ A23.out).mono ?_); rintro e w67 ⟨rfl, hb⟩; refine ⟨_, rfl, ?_⟩; have n0_ := Aside0.mk (blk_below (g := gb188) (o := .cells #[.bool t185, .int .u64 t186, .int .u64 t187] 28 (0, 0)) (by (with_reducible repeat (first | refine blk_drewN ?_ _ | refine blk_drew ?_ | refine blk_alloc ?_ _)); refine blk_put (cs := #[.bool t185, .int .u64 t186, .int .u64 0]) ?_ 2 _ rfl; (with_reducible repeat (first | refine blk_drewN ?_ _ | refine blk_drew ?_ | refine blk_alloc ?_ _)); refine blk_put (cs := #[.bool t185, .int .u64 0, .int .u64 0]) ?_ 1 _ rfl; (with_reducible repeat (first | refine blk_drewN ?_ _ | refine blk_drew ?_ | refine blk_alloc ?_ _)); refine blk_put (cs := #[.bool false, .int .u64 0, .int .u64 0]) ?_ 0 _ rfl; (with_reducible repeat (first | refine blk_drewN ?_ _ | refine blk_drew ?_ | refine blk_alloc ?_ _)); exact BK188.out) hb); have n1_ := Aside0.mk (below_step (by repeat (first | (with_reducible first | exact HB.out | apply below_alloc | apply pw_below_drewN | apply below_drew1 | refine below_set ?_ GE188.out) | exact HB.out)) hb); clear BK188; clear HB; have BK188 := n0_; have HB := n1_; clear n0_ n1_; (try clear hb); (try clear hb2); (try clear hk); (try clear hi)) | (go_at_call 12; (with_reducible refine (gangerlaw01_known.calls kj9  t193 _ A59.out).mono ?_); rintro e w68 ⟨rfl, hb⟩; have n0_ := Aside0.mk (blk_below (g := gb188) (o := .cells #[.bool t185, .int .u64 t186, .int .u64 t187] 28 (0, 0)) (by (with_reducible repeat (first | refine blk_drewN ?_ _ | refine blk_drew ?_ | refine blk_alloc ?_ _)); exact BK188.out) hb); have n1_ := Aside0.mk (below_step (by repeat (first | (with_reducible first | exact HB.out | apply below_alloc | apply pw_below_drewN | apply below_drew1 | refine below_set ?_ GE188.out) | exact HB.out)) hb); clear BK188; clear HB; have BK188 := n0_; have HB := n1_; clear n0_ n1_; (try clear hb); (try clear hb2); (try clear hk); (try clear hi)))
                            go_ret
                            exact ⟨by first | rfl | (simp [errW_none, errW_some] <;> rfl) | (simp [*, errW_none, errW_some] <;> rfl), by repeat (first | (with_reducible first | exact HB.out | apply below_alloc | apply pw_below_drewN | apply below_drew1 | refine below_set ?_ GE188.out) | exact HB.out)⟩
                          · rw [if_neg c58] at H
                            exact absurd H (by simp)
                        · rw [if_neg c57] at H
                          exact absurd H (by simp)
                      · replace c56 := Bool.eq_false_iff.mpr c56
                        subst c56
                        have H1 : (none) = some r := by rw [if_neg (show ¬ (false = true) by decide)] at H; exact H
                        clear H
                        have H := H1
                        clear H1
                        exact absurd H (by simp)
                    · rw [if_neg c55] at H
                      exact absurd H (by simp)
                · rw [if_neg c40] at H
                  have c40b0 : decide (a1 < 0) = false := decide_eq_false c40
                  clear c40
                  by_cases c69 : t170 = 0
                  · rw [if_pos c69] at H
                    have c69b0 : (t170 == 0) = true := beq_iff_eq.mpr c69
                    have c69b1 : (t170 != 0) = false := bne_eq_false_iff_eq.mpr c69
                    clear c69
                    by_cases c70 : t190 = true
                    · subst c70
                      have H1 : (if t189 = a0 then (none) else (none)) = some r := by rw [if_pos rfl] at H; exact H
                      clear H
                      have H := H1
                      clear H1
                      by_cases c71 : t189 = a0
                      · rw [if_pos c71] at H
                        exact absurd H (by simp)
                      · rw [if_neg c71] at H
                        exact absurd H (by simp)
                    · replace c70 := Bool.eq_false_iff.mpr c70
                      subst c70
                      have H1 : (none) = some r := by rw [if_neg (show ¬ (false = true) by decide)] at H; exact H
                      clear H
                      have H := H1
                      clear H1
                      exact absurd H (by simp)
                  · rw [if_neg c69] at H
                    exact absurd H (by simp)
            · rw [if_neg c25] at H
              have c25b0 : decide (0 < a1) = false := decide_eq_false c25
              clear c25
              by_cases c72 : a1 < 0
              · rw [if_pos c72] at H
                have c72b0 : decide (a1 < 0) = true := decide_eq_true c72
                clear c72
                by_cases c73 : a1 = (-9223372036854775808)
                · rw [if_pos c73] at H
                  have c73b0 : (a1 == (-9223372036854775808)) = true := beq_iff_eq.mpr c73
                  have c73b1 : (a1 != (-9223372036854775808)) = false := bne_eq_false_iff_eq.mpr c73
                  clear c73
                  by_cases c74 : t170 = 0
                  · rw [if_pos c74] at H
                    have c74b0 : (t170 == 0) = true := beq_iff_eq.mpr c74
                    have c74b1 : (t170 != 0) = false := bne_eq_false_iff_eq.mpr c74
                    clear c74
                    by_cases c75 : t190 = true
                    · subst c75
                      have H1 : (if t189 = a0 then ((gangerlaw01_known.f kj9).bind fun t194 => (some t194)) else (none)) = some r := by rw [if_pos rfl] at H; exact H
                      clear H
                      have H := H1
                      clear H1
                      by_cases c76 : t189 = a0
                      · rw [if_pos c76] at H
                        have c76b0 : (t189 == a0) = true := beq_iff_eq.mpr c76
                        have c76b1 : (t189 != a0) = false := bne_eq_false_iff_eq.mpr c76
                        clear c76
                        replace H := Option.bind_eq_some_iff.mp H
                        obtain ⟨t194, A770, H⟩ := H
                        replace H : (some t194) = some r := H
                        have A77 := Aside0.mk A770
                        clear A770
                        obtain rfl := Option.some.inj H
                        go_wp2_with (first | ((with_reducible refine gate_callee (f := 15) rfl ?_); refine goesL_ (some 54) rfl rfl Try.func15 (by kernel_rfl) rfl #[.int .i64 t168] rfl (by (try simp only [List.map_toArray, List.map_cons, List.map_nil]); first | done | rfl | (simp only [List.length_drop, List.length_take]; rfl)) ?_; (with_reducible refine (gangerref01_Of.calls t168 t173 t174 t175 _ A18.out).mono ?_); rintro e w78 ⟨rfl, hb⟩; refine ⟨_, rfl, ?_⟩; have n0_ := Aside0.mk (below_step (by repeat (first | (with_reducible first | exact HB.out | apply below_alloc | apply pw_below_drewN | apply below_drew1) | exact HB.out)) hb); clear HB; have HB := n0_; clear n0_; (try clear hb); (try clear hb2); (try clear hk); (try clear hi)) | ((with_reducible refine gate_callee (f := 15) rfl ?_); refine goesL_ (some 56) rfl rfl Try.func15 (by kernel_rfl) rfl #[.int .i64 a1] rfl (by (try simp only [List.map_toArray, List.map_cons, List.map_nil]); first | done | rfl | (simp only [List.length_drop, List.length_take]; rfl)) ?_; (with_reducible refine (gangerref01_Of.calls a1 t176 t177 t178 _ A19.out).mono ?_); rintro e w79 ⟨rfl, hb⟩; refine ⟨_, rfl, ?_⟩; have n0_ := Aside0.mk (below_step (by repeat (first | (with_reducible first | exact HB.out | apply below_alloc | apply pw_below_drewN | apply below_drew1) | exact HB.out)) hb); clear HB; have HB := n0_; clear n0_; (try clear hb); (try clear hb2); (try clear hk); (try clear hi)) | ((with_reducible refine gate_callee (f := 14) rfl ?_); refine goesL_ (some 57) rfl rfl Try.func14 (by kernel_rfl) rfl #[.agg #[.bool t173, .int .u64 t174, .int .u64 t175], .agg #[.bool t176, .int .u64 t177, .int .u64 t178]] rfl (by (try simp only [List.map_toArray, List.map_cons, List.map_nil]); first | done | rfl | (simp only [List.length_drop, List.length_take]; rfl)) ?_; (with_reducible refine (gangerref01_Product.calls kj9 t173 t174 t175 t176 t177 t178 t179 t180 t181 _ A20.out).mono ?_); rintro e w80 ⟨rfl, hb⟩; refine ⟨_, rfl, ?_⟩; have n0_ := Aside0.mk (below_step (by repeat (first | (with_reducible first | exact HB.out | apply below_alloc | apply pw_below_drewN | apply below_drew1) | exact HB.out)) hb); clear HB; have HB := n0_; clear n0_; (try clear hb); (try clear hb2); (try clear hk); (try clear hi)) | ((with_reducible refine gate_callee (f := 15) rfl ?_); refine goesL_ (some 59) rfl rfl Try.func15 (by kernel_rfl) rfl #[.int .i64 t169] rfl (by (try simp only [List.map_toArray, List.map_cons, List.map_nil]); first | done | rfl | (simp only [List.length_drop, List.length_take]; rfl)) ?_; (with_reducible refine (gangerref01_Of.calls t169 t182 t183 t184 _ A21.out).mono ?_); rintro e w81 ⟨rfl, hb⟩; refine ⟨_, rfl, ?_⟩; have n0_ := Aside0.mk (below_step (by repeat (first | (with_reducible first | exact HB.out | apply below_alloc | apply pw_below_drewN | apply below_drew1) | exact HB.out)) hb); clear HB; have HB := n0_; clear n0_; (try clear hb); (try clear hb2); (try clear hk); (try clear hi)) | ((with_reducible refine gate_callee (f := 13) rfl ?_); refine goesL_ (some 60) rfl rfl Try.func13 (by kernel_rfl) rfl #[.agg #[.bool t179, .int .u64 t180, .int .u64 t181], .agg #[.bool t182, .int .u64 t183, .int .u64 t184]] rfl (by (try simp only [List.map_toArray, List.map_cons, List.map_nil]); first | done | rfl | (simp only [List.length_drop, List.length_take]; rfl)) ?_; (with_reducible refine (gangerref01_Plus.calls t179 t180 t181 t182 t183 t184 t185 t186 t187 _ A22.out).mono ?_); rintro e w82 ⟨rfl, hb⟩; refine ⟨_, rfl, ?_⟩; have n0_ := Aside0.mk (below_step (by repeat (first | (with_reducible first | exact HB.out | apply below_alloc | apply pw_below_drewN | apply below_drew1) | exact HB.out)) hb); clear HB; have HB := n0_; clear n0_; (try clear hb); (try clear hb2); (try clear hk); (try clear hi)) | ((with_reducible refine gate_dst (N := 8) rfl ?_); refine box_event ?hg (N := 8) ?hd (cs := #[.bool false, .int .u64 0, .int .u64 0]) (t := 28) ?hr ?_; (case hd => rfl); (case hg => rfl); (case hr => first | (go_simp; done) | (go_simp; rfl)); intro gb188 hg w83 hbox hb; have n0_ := Aside0.mk (below_step (by repeat (first | (with_reducible first | exact HB.out | apply below_alloc | apply pw_below_drewN | apply below_drew1) | exact HB.out)) hb); have n1_ := Aside0.mk (hbox); have n2_ := Aside0.mk ((by rw [hg]; exact (below_size (by repeat (first | (with_reducible first | exact HB.out | apply below_alloc | apply pw_below_drewN | apply below_drew1) | exact HB.out))) : w.heap.size ≤ gb188)); have n3_ := Aside0.mk ((by rw [hg]; exact (below_size (by repeat (first | (with_reducible first | exact HB.out | apply below_alloc | apply pw_below_drewN | apply below_drew1) | exact HB.out))) : w.heap.size ≤ gb188)); clear HB; have HB := n0_; have BK188 := n1_; have GW188 := n2_; have GE188 := n3_; clear n0_ n1_ n2_ n3_; clear hb hbox hg; have hcz84_0 : w83.cell? ⟨gb188, 0, none⟩ = some (.bool false) := (blk_cell BK188.out 0).trans rfl; have hcz84_1 : w83.cell? ⟨gb188, 1, none⟩ = some (.int .u64 0) := (blk_cell BK188.out 1).trans rfl; have hcz84_2 : w83.cell? ⟨gb188, 2, none⟩ = some (.int .u64 0) := (blk_cell BK188.out 2).trans rfl; have hfz84_0 := blk_frozen BK188.out 0; have hfz84_1 := blk_frozen BK188.out 1; have hfz84_2 := blk_frozen BK188.out 2) | ((with_reducible refine gate_callee (f := 16) rfl ?_); refine goesL_ (some 63) rfl rfl Try.func16 (by kernel_rfl) rfl #[.agg #[.bool t185, .int .u64 t186, .int .u64 t187]] rfl (by (try simp only [List.map_toArray, List.map_cons, List.map_nil]); first | done | rfl | (simp only [List.length_drop, List.length_take]; rfl)) ?_; (with_reducible refine (gangerref01_Wide_Narrow.calls kj9 t185 t186 t187 t189 true _ A23.out).mono ?_); rintro e w85 ⟨rfl, hb⟩; refine ⟨_, rfl, ?_⟩; have n0_ := Aside0.mk (blk_below (g := gb188) (o := .cells #[.bool t185, .int .u64 t186, .int .u64 t187] 28 (0, 0)) (by (with_reducible repeat (first | refine blk_drewN ?_ _ | refine blk_drew ?_ | refine blk_alloc ?_ _)); refine blk_put (cs := #[.bool t185, .int .u64 t186, .int .u64 0]) ?_ 2 _ rfl; (with_reducible repeat (first | refine blk_drewN ?_ _ | refine blk_drew ?_ | refine blk_alloc ?_ _)); refine blk_put (cs := #[.bool t185, .int .u64 0, .int .u64 0]) ?_ 1 _ rfl; (with_reducible repeat (first | refine blk_drewN ?_ _ | refine blk_drew ?_ | refine blk_alloc ?_ _)); refine blk_put (cs := #[.bool false, .int .u64 0, .int .u64 0]) ?_ 0 _ rfl; (with_reducible repeat (first | refine blk_drewN ?_ _ | refine blk_drew ?_ | refine blk_alloc ?_ _)); exact BK188.out) hb); have n1_ := Aside0.mk (below_step (by repeat (first | (with_reducible first | exact HB.out | apply below_alloc | apply pw_below_drewN | apply below_drew1 | refine below_set ?_ GE188.out) | exact HB.out)) hb); clear BK188; clear HB; have BK188 := n0_; have HB := n1_; clear n0_ n1_; (try clear hb); (try clear hb2); (try clear hk); (try clear hi)) | (go_at_call 12; (with_reducible refine (gangerlaw01_known.calls kj9  t194 _ A77.out).mono ?_); rintro e w86 ⟨rfl, hb⟩; have n0_ := Aside0.mk (blk_below (g := gb188) (o := .cells #[.bool t185, .int .u64 t186, .int .u64 t187] 28 (0, 0)) (by (with_reducible repeat (first | refine blk_drewN ?_ _ | refine blk_drew ?_ | refine blk_alloc ?_ _)); exact BK188.out) hb); have n1_ := Aside0.mk (below_step (by repeat (first | (with_reducible first | exact HB.out | apply below_alloc | apply pw_below_drewN | apply below_drew1 | refine below_set ?_ GE188.out) | exact HB.out)) hb); clear BK188; clear HB; have BK188 := n0_; have HB := n1_; clear n0_ n1_; (try clear hb); (try clear hb2); (try clear hk); (try clear hi)))
                        go_ret
                        exact ⟨by first | rfl | (simp [errW_none, errW_some] <;> rfl) | (simp [*, errW_none, errW_some] <;> rfl), by repeat (first | (with_reducible first | exact HB.out | apply below_alloc | apply pw_below_drewN | apply below_drew1 | refine below_set ?_ GE188.out) | exact HB.out)⟩
                      · rw [if_neg c76] at H
                        exact absurd H (by simp)
                    · replace c75 := Bool.eq_false_iff.mpr c75
                      subst c75
                      have H1 : (none) = some r := by rw [if_neg (show ¬ (false = true) by decide)] at H; exact H
                      clear H
                      have H := H1
                      clear H1
                      exact absurd H (by simp)
                  · rw [if_neg c74] at H
                    exact absurd H (by simp)
                · rw [if_neg c73] at H
                  have c73b0 : (a1 == (-9223372036854775808)) = false := beq_eq_false_iff_ne.mpr c73
                  have c73b1 : (a1 != (-9223372036854775808)) = true := bne_iff_ne.mpr c73
                  by_cases c87 : t170 = 0
                  · rw [if_pos c87] at H
                    have c87b0 : (t170 == 0) = true := beq_iff_eq.mpr c87
                    have c87b1 : (t170 != 0) = false := bne_eq_false_iff_eq.mpr c87
                    clear c87
                    by_cases c88 : t190 = true
                    · subst c88
                      have H1 : (if t189 = a0 then (if t169 < (wrap64 (-a1)) then ((gangerlaw01_known.f kj9).bind fun t195 => (some t195)) else (none)) else (none)) = some r := by rw [if_pos rfl] at H; exact H
                      clear H
                      have H := H1
                      clear H1
                      by_cases c89 : t189 = a0
                      · rw [if_pos c89] at H
                        have c89b0 : (t189 == a0) = true := beq_iff_eq.mpr c89
                        have c89b1 : (t189 != a0) = false := bne_eq_false_iff_eq.mpr c89
                        clear c89
                        by_cases c90 : t169 < (wrap64 (-a1))
                        · rw [if_pos c90] at H
                          have c90b0 : decide (t169 < (wrap64 (-a1))) = true := decide_eq_true c90
                          clear c90
                          replace H := Option.bind_eq_some_iff.mp H
                          obtain ⟨t195, A910, H⟩ := H
                          replace H : (some t195) = some r := H
                          have A91 := Aside0.mk A910
                          clear A910
                          obtain rfl := Option.some.inj H
                          go_wp2_with (first | ((with_reducible refine gate_callee (f := 15) rfl ?_); refine goesL_ (some 54) rfl rfl Try.func15 (by kernel_rfl) rfl #[.int .i64 t168] rfl (by (try simp only [List.map_toArray, List.map_cons, List.map_nil]); first | done | rfl | (simp only [List.length_drop, List.length_take]; rfl)) ?_; (with_reducible refine (gangerref01_Of.calls t168 t173 t174 t175 _ A18.out).mono ?_); rintro e w92 ⟨rfl, hb⟩; refine ⟨_, rfl, ?_⟩; have n0_ := Aside0.mk (below_step (by repeat (first | (with_reducible first | exact HB.out | apply below_alloc | apply pw_below_drewN | apply below_drew1) | exact HB.out)) hb); clear HB; have HB := n0_; clear n0_; (try clear hb); (try clear hb2); (try clear hk); (try clear hi)) | ((with_reducible refine gate_callee (f := 15) rfl ?_); refine goesL_ (some 56) rfl rfl Try.func15 (by kernel_rfl) rfl #[.int .i64 a1] rfl (by (try simp only [List.map_toArray, List.map_cons, List.map_nil]); first | done | rfl | (simp only [List.length_drop, List.length_take]; rfl)) ?_; (with_reducible refine (gangerref01_Of.calls a1 t176 t177 t178 _ A19.out).mono ?_); rintro e w93 ⟨rfl, hb⟩; refine ⟨_, rfl, ?_⟩; have n0_ := Aside0.mk (below_step (by repeat (first | (with_reducible first | exact HB.out | apply below_alloc | apply pw_below_drewN | apply below_drew1) | exact HB.out)) hb); clear HB; have HB := n0_; clear n0_; (try clear hb); (try clear hb2); (try clear hk); (try clear hi)) | ((with_reducible refine gate_callee (f := 14) rfl ?_); refine goesL_ (some 57) rfl rfl Try.func14 (by kernel_rfl) rfl #[.agg #[.bool t173, .int .u64 t174, .int .u64 t175], .agg #[.bool t176, .int .u64 t177, .int .u64 t178]] rfl (by (try simp only [List.map_toArray, List.map_cons, List.map_nil]); first | done | rfl | (simp only [List.length_drop, List.length_take]; rfl)) ?_; (with_reducible refine (gangerref01_Product.calls kj9 t173 t174 t175 t176 t177 t178 t179 t180 t181 _ A20.out).mono ?_); rintro e w94 ⟨rfl, hb⟩; refine ⟨_, rfl, ?_⟩; have n0_ := Aside0.mk (below_step (by repeat (first | (with_reducible first | exact HB.out | apply below_alloc | apply pw_below_drewN | apply below_drew1) | exact HB.out)) hb); clear HB; have HB := n0_; clear n0_; (try clear hb); (try clear hb2); (try clear hk); (try clear hi)) | ((with_reducible refine gate_callee (f := 15) rfl ?_); refine goesL_ (some 59) rfl rfl Try.func15 (by kernel_rfl) rfl #[.int .i64 t169] rfl (by (try simp only [List.map_toArray, List.map_cons, List.map_nil]); first | done | rfl | (simp only [List.length_drop, List.length_take]; rfl)) ?_; (with_reducible refine (gangerref01_Of.calls t169 t182 t183 t184 _ A21.out).mono ?_); rintro e w95 ⟨rfl, hb⟩; refine ⟨_, rfl, ?_⟩; have n0_ := Aside0.mk (below_step (by repeat (first | (with_reducible first | exact HB.out | apply below_alloc | apply pw_below_drewN | apply below_drew1) | exact HB.out)) hb); clear HB; have HB := n0_; clear n0_; (try clear hb); (try clear hb2); (try clear hk); (try clear hi)) | ((with_reducible refine gate_callee (f := 13) rfl ?_); refine goesL_ (some 60) rfl rfl Try.func13 (by kernel_rfl) rfl #[.agg #[.bool t179, .int .u64 t180, .int .u64 t181], .agg #[.bool t182, .int .u64 t183, .int .u64 t184]] rfl (by (try simp only [List.map_toArray, List.map_cons, List.map_nil]); first | done | rfl | (simp only [List.length_drop, List.length_take]; rfl)) ?_; (with_reducible refine (gangerref01_Plus.calls t179 t180 t181 t182 t183 t184 t185 t186 t187 _ A22.out).mono ?_); rintro e w96 ⟨rfl, hb⟩; refine ⟨_, rfl, ?_⟩; have n0_ := Aside0.mk (below_step (by repeat (first | (with_reducible first | exact HB.out | apply below_alloc | apply pw_below_drewN | apply below_drew1) | exact HB.out)) hb); clear HB; have HB := n0_; clear n0_; (try clear hb); (try clear hb2); (try clear hk); (try clear hi)) | ((with_reducible refine gate_dst (N := 8) rfl ?_); refine box_event ?hg (N := 8) ?hd (cs := #[.bool false, .int .u64 0, .int .u64 0]) (t := 28) ?hr ?_; (case hd => rfl); (case hg => rfl); (case hr => first | (go_simp; done) | (go_simp; rfl)); intro gb188 hg w97 hbox hb; have n0_ := Aside0.mk (below_step (by repeat (first | (with_reducible first | exact HB.out | apply below_alloc | apply pw_below_drewN | apply below_drew1) | exact HB.out)) hb); have n1_ := Aside0.mk (hbox); have n2_ := Aside0.mk ((by rw [hg]; exact (below_size (by repeat (first | (with_reducible first | exact HB.out | apply below_alloc | apply pw_below_drewN | apply below_drew1) | exact HB.out))) : w.heap.size ≤ gb188)); have n3_ := Aside0.mk ((by rw [hg]; exact (below_size (by repeat (first | (with_reducible first | exact HB.out | apply below_alloc | apply pw_below_drewN | apply below_drew1) | exact HB.out))) : w.heap.size ≤ gb188)); clear HB; have HB := n0_; have BK188 := n1_; have GW188 := n2_; have GE188 := n3_; clear n0_ n1_ n2_ n3_; clear hb hbox hg; have hcz98_0 : w97.cell? ⟨gb188, 0, none⟩ = some (.bool false) := (blk_cell BK188.out 0).trans rfl; have hcz98_1 : w97.cell? ⟨gb188, 1, none⟩ = some (.int .u64 0) := (blk_cell BK188.out 1).trans rfl; have hcz98_2 : w97.cell? ⟨gb188, 2, none⟩ = some (.int .u64 0) := (blk_cell BK188.out 2).trans rfl; have hfz98_0 := blk_frozen BK188.out 0; have hfz98_1 := blk_frozen BK188.out 1; have hfz98_2 := blk_frozen BK188.out 2) | ((with_reducible refine gate_callee (f := 16) rfl ?_); refine goesL_ (some 63) rfl rfl Try.func16 (by kernel_rfl) rfl #[.agg #[.bool t185, .int .u64 t186, .int .u64 t187]] rfl (by (try simp only [List.map_toArray, List.map_cons, List.map_nil]); first | done | rfl | (simp only [List.length_drop, List.length_take]; rfl)) ?_; (with_reducible refine (gangerref01_Wide_Narrow.calls kj9 t185 t186 t187 t189 true _ A23.out).mono ?_); rintro e w99 ⟨rfl, hb⟩; refine ⟨_, rfl, ?_⟩; have n0_ := Aside0.mk (blk_below (g := gb188) (o := .cells #[.bool t185, .int .u64 t186, .int .u64 t187] 28 (0, 0)) (by (with_reducible repeat (first | refine blk_drewN ?_ _ | refine blk_drew ?_ | refine blk_alloc ?_ _)); refine blk_put (cs := #[.bool t185, .int .u64 t186, .int .u64 0]) ?_ 2 _ rfl; (with_reducible repeat (first | refine blk_drewN ?_ _ | refine blk_drew ?_ | refine blk_alloc ?_ _)); refine blk_put (cs := #[.bool t185, .int .u64 0, .int .u64 0]) ?_ 1 _ rfl; (with_reducible repeat (first | refine blk_drewN ?_ _ | refine blk_drew ?_ | refine blk_alloc ?_ _)); refine blk_put (cs := #[.bool false, .int .u64 0, .int .u64 0]) ?_ 0 _ rfl; (with_reducible repeat (first | refine blk_drewN ?_ _ | refine blk_drew ?_ | refine blk_alloc ?_ _)); exact BK188.out) hb); have n1_ := Aside0.mk (below_step (by repeat (first | (with_reducible first | exact HB.out | apply below_alloc | apply pw_below_drewN | apply below_drew1 | refine below_set ?_ GE188.out) | exact HB.out)) hb); clear BK188; clear HB; have BK188 := n0_; have HB := n1_; clear n0_ n1_; (try clear hb); (try clear hb2); (try clear hk); (try clear hi)) | (go_at_call 12; (with_reducible refine (gangerlaw01_known.calls kj9  t195 _ A91.out).mono ?_); rintro e w100 ⟨rfl, hb⟩; have n0_ := Aside0.mk (blk_below (g := gb188) (o := .cells #[.bool t185, .int .u64 t186, .int .u64 t187] 28 (0, 0)) (by (with_reducible repeat (first | refine blk_drewN ?_ _ | refine blk_drew ?_ | refine blk_alloc ?_ _)); exact BK188.out) hb); have n1_ := Aside0.mk (below_step (by repeat (first | (with_reducible first | exact HB.out | apply below_alloc | apply pw_below_drewN | apply below_drew1 | refine below_set ?_ GE188.out) | exact HB.out)) hb); clear BK188; clear HB; have BK188 := n0_; have HB := n1_; clear n0_ n1_; (try clear hb); (try clear hb2); (try clear hk); (try clear hi)))
                          go_ret
                          exact ⟨by first | rfl | (simp [errW_none, errW_some] <;> rfl) | (simp [*, errW_none, errW_some] <;> rfl), by repeat (first | (with_reducible first | exact HB.out | apply below_alloc | apply pw_below_drewN | apply below_drew1 | refine below_set ?_ GE188.out) | exact HB.out)⟩
                        · rw [if_neg c90] at H
                          exact absurd H (by simp)
                      · rw [if_neg c89] at H
                        exact absurd H (by simp)
                    · replace c88 := Bool.eq_false_iff.mpr c88
                      subst c88
                      have H1 : (none) = some r := by rw [if_neg (show ¬ (false = true) by decide)] at H; exact H
                      clear H
                      have H := H1
                      clear H1
                      exact absurd H (by simp)
                  · rw [if_neg c87] at H
                    exact absurd H (by simp)
              · rw [if_neg c72] at H
                have c72b0 : decide (a1 < 0) = false := decide_eq_false c72
                clear c72
                by_cases c101 : t170 = 0
                · rw [if_pos c101] at H
                  have c101b0 : (t170 == 0) = true := beq_iff_eq.mpr c101
                  have c101b1 : (t170 != 0) = false := bne_eq_false_iff_eq.mpr c101
                  clear c101
                  by_cases c102 : t190 = true
                  · subst c102
                    have H1 : (if t189 = a0 then (none) else (none)) = some r := by rw [if_pos rfl] at H; exact H
                    clear H
                    have H := H1
                    clear H1
                    by_cases c103 : t189 = a0
                    · rw [if_pos c103] at H
                      exact absurd H (by simp)
                    · rw [if_neg c103] at H
                      exact absurd H (by simp)
                  · replace c102 := Bool.eq_false_iff.mpr c102
                    subst c102
                    have H1 : (none) = some r := by rw [if_neg (show ¬ (false = true) by decide)] at H; exact H
                    clear H
                    have H := H1
                    clear H1
                    exact absurd H (by simp)
                · rw [if_neg c101] at H
                  exact absurd H (by simp)
          · rw [if_neg c24] at H
            have c24b0 : decide (0 ≤ t169) = false := decide_eq_false c24
            clear c24
            by_cases c104 : t170 = 0
            · rw [if_pos c104] at H
              have c104b0 : (t170 == 0) = true := beq_iff_eq.mpr c104
              have c104b1 : (t170 != 0) = false := bne_eq_false_iff_eq.mpr c104
              clear c104
              by_cases c105 : t190 = true
              · subst c105
                have H1 : (if t189 = a0 then (none) else (none)) = some r := by rw [if_pos rfl] at H; exact H
                clear H
                have H := H1
                clear H1
                by_cases c106 : t189 = a0
                · rw [if_pos c106] at H
                  exact absurd H (by simp)
                · rw [if_neg c106] at H
                  exact absurd H (by simp)
              · replace c105 := Bool.eq_false_iff.mpr c105
                subst c105
                have H1 : (none) = some r := by rw [if_neg (show ¬ (false = true) by decide)] at H; exact H
                clear H
                have H := H1
                clear H1
                exact absurd H (by simp)
            · rw [if_neg c104] at H
              exact absurd H (by simp)

/-- THE ONE PURE STATEMENT of gangerlaw01_NumDivs: yours. -/
def gangerlaw01_NumDivs.Pure : Prop := ∀ (a0 : Int) (a1 : Int), (Lit.int .i64 a0).wf = true → (Lit.int .i64 a1).wf = true → ∃ k, gangerlaw01_NumDivs.f k a0 a1 = some true
theorem gangerlaw01_NumDivs.walk (P : gangerlaw01_NumDivs.Pure) (a0 : Int) (a1 : Int) (w : World) (w0 : (Lit.int .i64 a0).wf = true) (w1 : (Lit.int .i64 a1).wf = true) :
    Calls Try.prog 3 #[.int .i64 a0, .int .i64 a1] w fun e w' => e = .returned (.bool true) ∧ Below w.heap.size w w' := by
  obtain ⟨k, h⟩ := P a0 a1 w0 w1
  refine (gangerlaw01_NumDivs.calls k a0 a1 true w h).mono ?_
  rintro e w' ⟨rfl, hd⟩
  exact ⟨rfl, hd⟩

end Go.Proofs.Ytlcdlfnmofopgaa.P
