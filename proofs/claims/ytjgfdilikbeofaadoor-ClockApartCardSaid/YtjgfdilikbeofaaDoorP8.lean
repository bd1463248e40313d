/- The machine's side of the laws of this seat: each function's plain form and its contract, written by a program of this session out of Lean's print of the loaded functions; no condition beyond what each statement says. -/
import Derived.Test.YtjgfdilikbeofaaDoorP0
import Derived.Test.YtjgfdilikbeofaaDoorP3
namespace Go.Proofs.YtjgfdilikbeofaaDoor.P
open Go.RowKit Go.Proofs.YtjgfdilikbeofaaDoorW.PrintWords Go.Proofs.YtjgfdilikbeofaaDoorW.PrintLast Go.Proofs.YtjgfdilikbeofaaDoorW.PrintMore
attribute [local go_sem] max2_int min2_int max_two min_two max_three min_three max_four min_four   -- for this text's walks alone
set_option linter.unusedVariables false
set_option linter.unusedSimpArgs false

attribute [local go_sem] isSome_setCell
/-! ### gangerlaw07_ClockMinutes: function 8 -/
def gangerlaw07_ClockMinutes.j0 : Nat → Int → Int → Int → Bool → Option (Bool)
  | 0, _, _, _, _ => none
  | k + 1, x0, x1, x5, x42 => if x42 = true then (none) else (if x0 > x1 then ((gangerlaw07_known.f k).bind fun t243 => (some t243)) else ((clock_Minutes.f x1).bind fun t244 => (if x5 ≤ t244 then ((gangerlaw07_known.f k).bind fun t245 => (some t245)) else (none))))
def gangerlaw07_ClockMinutes.f (k : Nat) (a0 : Int) (a1 : Int) : Option (Bool) := (clock_Minutes.f a0).bind fun t242 => (if a0 ≤ 0 then (if t242 = 0 then (if a0 > 0 then (if t242 < 1 then (gangerlaw07_ClockMinutes.j0 k a0 a1 t242 true) else (if (wrap64 (t242 - 1)) ≥ a0 then (gangerlaw07_ClockMinutes.j0 k a0 a1 t242 true) else (if (wrap64 ((wrap64 (t242 - 1)) * 60)) ≥ a0 then (gangerlaw07_ClockMinutes.j0 k a0 a1 t242 true) else (gangerlaw07_ClockMinutes.j0 k a0 a1 t242 (decide ((wrap64 (a0 - (wrap64 ((wrap64 (t242 - 1)) * 60)))) > 60)))))) else (gangerlaw07_ClockMinutes.j0 k a0 a1 t242 false)) else (gangerlaw07_ClockMinutes.j0 k a0 a1 t242 true)) else (if a0 > 0 then (if t242 < 1 then (gangerlaw07_ClockMinutes.j0 k a0 a1 t242 true) else (if (wrap64 (t242 - 1)) ≥ a0 then (gangerlaw07_ClockMinutes.j0 k a0 a1 t242 true) else (if (wrap64 ((wrap64 (t242 - 1)) * 60)) ≥ a0 then (gangerlaw07_ClockMinutes.j0 k a0 a1 t242 true) else (gangerlaw07_ClockMinutes.j0 k a0 a1 t242 (decide ((wrap64 (a0 - (wrap64 ((wrap64 (t242 - 1)) * 60)))) > 60)))))) else (gangerlaw07_ClockMinutes.j0 k a0 a1 t242 false)))
theorem gangerlaw07_ClockMinutes.mono_l : ∀ k, (∀ y0 y1 y2 y3, LeO (gangerlaw07_ClockMinutes.j0 k y0 y1 y2 y3) (gangerlaw07_ClockMinutes.j0 (k + 1) y0 y1 y2 y3))
  | 0 => fun _ _ _ _ r h => by simp [gangerlaw07_ClockMinutes.j0] at h
  | k + 1 => by
    have ih0 := gangerlaw07_ClockMinutes.mono_l k
    · intro y0 y1 y2 y3
      unfold gangerlaw07_ClockMinutes.j0
      repeat' first
      | (with_reducible exact ih0 _ _ _ _)
      | (with_reducible exact gangerlaw07_known.mono _)
      | (with_reducible exact LeO.refl _)
      | (with_reducible exact LeO.none _)
      | (with_reducible refine LeO.ite ?_ ?_)
      | (with_reducible refine LeO.bind ?_ (fun _ => ?_))
      | exact ih0 _ _ _ _
      | exact gangerlaw07_known.mono _
      | exact LeO.none _
      | refine LeO.ite ?_ ?_
      | refine LeO.bind ?_ (fun _ => ?_)
theorem gangerlaw07_ClockMinutes.mono : ∀ a0 a1 k, LeO (gangerlaw07_ClockMinutes.f k a0 a1) (gangerlaw07_ClockMinutes.f (k + 1) a0 a1) := by
  intro a0 a1 k
  have ih0 := gangerlaw07_ClockMinutes.mono_l k
  unfold gangerlaw07_ClockMinutes.f
  repeat' first
      | (with_reducible exact ih0 _ _ _ _)
      | (with_reducible exact gangerlaw07_known.mono _)
      | (with_reducible exact LeO.refl _)
      | (with_reducible exact LeO.none _)
      | (with_reducible refine LeO.ite ?_ ?_)
      | (with_reducible refine LeO.bind ?_ (fun _ => ?_))
      | exact ih0 _ _ _ _
      | exact gangerlaw07_known.mono _
      | exact LeO.none _
      | refine LeO.ite ?_ ?_
      | refine LeO.bind ?_ (fun _ => ?_)
set_option maxHeartbeats 8000000 in
set_option maxRecDepth 100000 in
theorem gangerlaw07_ClockMinutes.calls (k : Nat) (a0 : Int) (a1 : Int) (r : Bool) (w : World) (hG : Glob w) (h : gangerlaw07_ClockMinutes.f k a0 a1 = some r) :
    Calls Tryd.prog 8 #[.int .i64 a0, .int .i64 a1] w fun e w' => e = .returned (.bool r) ∧ Below w.heap.size w w' := by
  have HG := Aside0.mk hG
  clear hG
  have HB := Aside0.mk (Below.refl w.heap.size w)
  have H : ((clock_Minutes.f a0).bind fun t242 => (if a0 ≤ 0 then (if t242 = 0 then (if a0 > 0 then (if t242 < 1 then (gangerlaw07_ClockMinutes.j0 k a0 a1 t242 true) else (if (wrap64 (t242 - 1)) ≥ a0 then (gangerlaw07_ClockMinutes.j0 k a0 a1 t242 true) else (if (wrap64 ((wrap64 (t242 - 1)) * 60)) ≥ a0 then (gangerlaw07_ClockMinutes.j0 k a0 a1 t242 true) else (gangerlaw07_ClockMinutes.j0 k a0 a1 t242 (decide ((wrap64 (a0 - (wrap64 ((wrap64 (t242 - 1)) * 60)))) > 60)))))) else (gangerlaw07_ClockMinutes.j0 k a0 a1 t242 false)) else (gangerlaw07_ClockMinutes.j0 k a0 a1 t242 true)) else (if a0 > 0 then (if t242 < 1 then (gangerlaw07_ClockMinutes.j0 k a0 a1 t242 true) else (if (wrap64 (t242 - 1)) ≥ a0 then (gangerlaw07_ClockMinutes.j0 k a0 a1 t242 true) else (if (wrap64 ((wrap64 (t242 - 1)) * 60)) ≥ a0 then (gangerlaw07_ClockMinutes.j0 k a0 a1 t242 true) else (gangerlaw07_ClockMinutes.j0 k a0 a1 t242 (decide ((wrap64 (a0 - (wrap64 ((wrap64 (t242 - 1)) * 60)))) > 60)))))) else (gangerlaw07_ClockMinutes.j0 k a0 a1 t242 false)))) = some r := h
  clear h
  replace H := Option.bind_eq_some_iff.mp H
  obtain ⟨t242, A30, H⟩ := H
  replace H : (if a0 ≤ 0 then (if t242 = 0 then (if a0 > 0 then (if t242 < 1 then (gangerlaw07_ClockMinutes.j0 k a0 a1 t242 true) else (if (wrap64 (t242 - 1)) ≥ a0 then (gangerlaw07_ClockMinutes.j0 k a0 a1 t242 true) else (if (wrap64 ((wrap64 (t242 - 1)) * 60)) ≥ a0 then (gangerlaw07_ClockMinutes.j0 k a0 a1 t242 true) else (gangerlaw07_ClockMinutes.j0 k a0 a1 t242 (decide ((wrap64 (a0 - (wrap64 ((wrap64 (t242 - 1)) * 60)))) > 60)))))) else (gangerlaw07_ClockMinutes.j0 k a0 a1 t242 false)) else (gangerlaw07_ClockMinutes.j0 k a0 a1 t242 true)) else (if a0 > 0 then (if t242 < 1 then (gangerlaw07_ClockMinutes.j0 k a0 a1 t242 true) else (if (wrap64 (t242 - 1)) ≥ a0 then (gangerlaw07_ClockMinutes.j0 k a0 a1 t242 true) else (if (wrap64 ((wrap64 (t242 - 1)) * 60)) ≥ a0 then (gangerlaw07_ClockMinutes.j0 k a0 a1 t242 true) else (gangerlaw07_ClockMinutes.j0 k a0 a1 t242 (decide ((wrap64 (a0 - (wrap64 ((wrap64 (t242 - 1)) * 60)))) > 60)))))) else (gangerlaw07_ClockMinutes.j0 k a0 a1 t242 false))) = some r := H
  have A3 := Aside0.mk A30
  clear A30
  have HC4 := Aside0.mk H
  clear H
  go_enter Tryd.func8, Tryd.ntmps8
  go_upto_region 2 with (first | ((with_reducible refine gate_callee (f := 15) rfl ?_); refine goesL_ (some 7) rfl rfl Tryd.func15 (by kernel_rfl) rfl #[.int .i64 a0] rfl (by (try simp only [List.map_toArray, List.map_cons, List.map_nil]); first | done | rfl | (simp only [List.length_drop, List.length_take]; rfl)) ?_; (with_reducible refine (clock_Minutes.calls a0 t242 _ A3.out).mono ?_); rintro e w' ⟨rfl, ⟨nd, rfl⟩⟩; refine ⟨_, rfl, ?_⟩))
  (try simp only [Act.put, List.setIfInBounds_toArray, List.set_cons_zero, List.set_cons_succ])
  go_cut [42] (fun v42 wc => ∃ (kq : Nat) (x42_3 : Bool), v42 = .bool x42_3 ∧ Aside0 (gangerlaw07_ClockMinutes.j0 kq a0 a1 t242 x42_3 = some r) ∧ Aside0 (kq ≤ k) ∧ Aside0 (Below w.heap.size w wc))
  case first =>
    have H := HC4.out
    clear HC4
    by_cases c5 : a0 ≤ 0
    · rw [if_pos c5] at H
      have c5b0 : decide (a0 ≤ 0) = true := decide_eq_true c5
      clear c5
      (first | rw [c5b0] | (simp only [i64_w, i32_w]; rw [c5b0]) | skip)
      by_cases c6 : t242 = 0
      · rw [if_pos c6] at H
        have c6b0 : (t242 == 0) = true := beq_iff_eq.mpr c6
        have c6b1 : (t242 != 0) = false := bne_eq_false_iff_eq.mpr c6
        clear c6
        by_cases c7 : a0 > 0
        · rw [if_pos c7] at H
          have c7b0 : decide (0 < a0) = true := decide_eq_true c7
          clear c7
          by_cases c8 : t242 < 1
          · rw [if_pos c8] at H
            have c8b0 : decide (t242 < 1) = true := decide_eq_true c8
            clear c8
            have H' := Aside0.mk H
            clear H
            go_wp2
            go_meet
            case rel => exact ⟨_, (true), (by first | rfl | (simp; done) | (simp [*]; done)), H', ⟨by first | omega | exact Nat.le_refl _⟩, ⟨by repeat (first | (with_reducible first | exact HB.out | apply below_alloc | apply pw_below_drewN | apply below_drew1) | exact HB.out)⟩⟩
          · rw [if_neg c8] at H
            have c8b0 : decide (t242 < 1) = false := decide_eq_false c8
            clear c8
            by_cases c9 : (wrap64 (t242 - 1)) ≥ a0
            · rw [if_pos c9] at H
              have c9b0 : decide (a0 ≤ (wrap64 (t242 - 1))) = true := decide_eq_true c9
              clear c9
              have H' := Aside0.mk H
              clear H
              go_wp2
              go_meet
              case rel => exact ⟨_, (true), (by first | rfl | (simp; done) | (simp [*]; done)), H', ⟨by first | omega | exact Nat.le_refl _⟩, ⟨by repeat (first | (with_reducible first | exact HB.out | apply below_alloc | apply pw_below_drewN | apply below_drew1) | exact HB.out)⟩⟩
            · rw [if_neg c9] at H
              have c9b0 : decide (a0 ≤ (wrap64 (t242 - 1))) = false := decide_eq_false c9
              clear c9
              by_cases c10 : (wrap64 ((wrap64 (t242 - 1)) * 60)) ≥ a0
              · rw [if_pos c10] at H
                have c10b0 : decide (a0 ≤ (wrap64 ((wrap64 (t242 - 1)) * 60))) = true := decide_eq_true c10
                clear c10
                have H' := Aside0.mk H
                clear H
                go_wp2
                go_meet
                case rel => exact ⟨_, (true), (by first | rfl | (simp; done) | (simp [*]; done)), H', ⟨by first | omega | exact Nat.le_refl _⟩, ⟨by repeat (first | (with_reducible first | exact HB.out | apply below_alloc | apply pw_below_drewN | apply below_drew1) | exact HB.out)⟩⟩
              · rw [if_neg c10] at H
                have c10b0 : decide (a0 ≤ (wrap64 ((wrap64 (t242 - 1)) * 60))) = false := decide_eq_false c10
                clear c10
                have H' := Aside0.mk H
                clear H
                go_wp2
                go_meet
                case rel => exact ⟨_, (decide ((wrap64 (a0 - (wrap64 ((wrap64 (t242 - 1)) * 60)))) > 60)), (by first | rfl | (simp; done) | (simp [*]; done)), H', ⟨by first | omega | exact Nat.le_refl _⟩, ⟨by repeat (first | (with_reducible first | exact HB.out | apply below_alloc | apply pw_below_drewN | apply below_drew1) | exact HB.out)⟩⟩
        · rw [if_neg c7] at H
          have c7b0 : decide (0 < a0) = false := decide_eq_false c7
          clear c7
          have H' := Aside0.mk H
          clear H
          go_wp2
          go_meet
          case rel => exact ⟨_, (false), (by first | rfl | (simp; done) | (simp [*]; done)), H', ⟨by first | omega | exact Nat.le_refl _⟩, ⟨by repeat (first | (with_reducible first | exact HB.out | apply below_alloc | apply pw_below_drewN | apply below_drew1) | exact HB.out)⟩⟩
      · rw [if_neg c6] at H
        have c6b0 : (t242 == 0) = false := beq_eq_false_iff_ne.mpr c6
        have c6b1 : (t242 != 0) = true := bne_iff_ne.mpr c6
        have H' := Aside0.mk H
        clear H
        go_wp2
        go_meet
        case rel => exact ⟨_, (true), (by first | rfl | (simp; done) | (simp [*]; done)), H', ⟨by first | omega | exact Nat.le_refl _⟩, ⟨by repeat (first | (with_reducible first | exact HB.out | apply below_alloc | apply pw_below_drewN | apply below_drew1) | exact HB.out)⟩⟩
    · rw [if_neg c5] at H
      have c5b0 : decide (a0 ≤ 0) = false := decide_eq_false c5
      clear c5
      (first | rw [c5b0] | (simp only [i64_w, i32_w]; rw [c5b0]) | skip)
      by_cases c11 : a0 > 0
      · rw [if_pos c11] at H
        have c11b0 : decide (0 < a0) = true := decide_eq_true c11
        clear c11
        by_cases c12 : t242 < 1
        · rw [if_pos c12] at H
          have c12b0 : decide (t242 < 1) = true := decide_eq_true c12
          clear c12
          have H' := Aside0.mk H
          clear H
          go_wp2
          go_meet
          case rel => exact ⟨_, (true), (by first | rfl | (simp; done) | (simp [*]; done)), H', ⟨by first | omega | exact Nat.le_refl _⟩, ⟨by repeat (first | (with_reducible first | exact HB.out | apply below_alloc | apply pw_below_drewN | apply below_drew1) | exact HB.out)⟩⟩
        · rw [if_neg c12] at H
          have c12b0 : decide (t242 < 1) = false := decide_eq_false c12
          clear c12
          by_cases c13 : (wrap64 (t242 - 1)) ≥ a0
          · rw [if_pos c13] at H
            have c13b0 : decide (a0 ≤ (wrap64 (t242 - 1))) = true := decide_eq_true c13
            clear c13
            have H' := Aside0.mk H
            clear H
            go_wp2
            go_meet
            case rel => exact ⟨_, (true), (by first | rfl | (simp; done) | (simp [*]; done)), H', ⟨by first | omega | exact Nat.le_refl _⟩, ⟨by repeat (first | (with_reducible first | exact HB.out | apply below_alloc | apply pw_below_drewN | apply below_drew1) | exact HB.out)⟩⟩
          · rw [if_neg c13] at H
            have c13b0 : decide (a0 ≤ (wrap64 (t242 - 1))) = false := decide_eq_false c13
            clear c13
            by_cases c14 : (wrap64 ((wrap64 (t242 - 1)) * 60)) ≥ a0
            · rw [if_pos c14] at H
              have c14b0 : decide (a0 ≤ (wrap64 ((wrap64 (t242 - 1)) * 60))) = true := decide_eq_true c14
              clear c14
              have H' := Aside0.mk H
              clear H
              go_wp2
              go_meet
              case rel => exact ⟨_, (true), (by first | rfl | (simp; done) | (simp [*]; done)), H', ⟨by first | omega | exact Nat.le_refl _⟩, ⟨by repeat (first | (with_reducible first | exact HB.out | apply below_alloc | apply pw_below_drewN | apply below_drew1) | exact HB.out)⟩⟩
            · rw [if_neg c14] at H
              have c14b0 : decide (a0 ≤ (wrap64 ((wrap64 (t242 - 1)) * 60))) = false := decide_eq_false c14
              clear c14
              have H' := Aside0.mk H
              clear H
              go_wp2
              go_meet
              case rel => exact ⟨_, (decide ((wrap64 (a0 - (wrap64 ((wrap64 (t242 - 1)) * 60)))) > 60)), (by first | rfl | (simp; done) | (simp [*]; done)), H', ⟨by first | omega | exact Nat.le_refl _⟩, ⟨by repeat (first | (with_reducible first | exact HB.out | apply below_alloc | apply pw_below_drewN | apply below_drew1) | exact HB.out)⟩⟩
      · rw [if_neg c11] at H
        have c11b0 : decide (0 < a0) = false := decide_eq_false c11
        clear c11
        have H' := Aside0.mk H
        clear H
        go_wp2
        go_meet
        case rel => exact ⟨_, (false), (by first | rfl | (simp; done) | (simp [*]; done)), H', ⟨by first | omega | exact Nat.le_refl _⟩, ⟨by repeat (first | (with_reducible first | exact HB.out | apply below_alloc | apply pw_below_drewN | apply below_drew1) | exact HB.out)⟩⟩
  case rest =>
    clear HC4
    try clear c1
    try clear p2
    try clear c5
    try clear c5b0
    try clear c6
    try clear c6b0
    try clear c6b1
    try clear p6
    try clear c7
    try clear c7b0
    try clear c8
    try clear c8b0
    try clear c9
    try clear c9b0
    try clear c10
    try clear c10b0
    try clear c11
    try clear c11b0
    try clear c12
    try clear c12b0
    try clear c13
    try clear c13b0
    try clear c14
    try clear c14b0
    obtain ⟨kq, x42_3, rfl, HA, HJ3, HB⟩ := hcut
    cases kq with
    | zero => exact absurd HA.out (by simp [gangerlaw07_ClockMinutes.j0])
    | succ kj3 =>
      have H := HA.out
      clear HA
      simp only [gangerlaw07_ClockMinutes.j0] at H
      by_cases c15 : x42_3 = true
      · subst c15
        have H1 : (none) = some r := by rw [if_pos rfl] at H; exact H
        clear H
        have H := H1
        clear H1
        exact absurd H (by simp)
      · replace c15 := Bool.eq_false_iff.mpr c15
        subst c15
        have H1 : (if a0 > a1 then ((gangerlaw07_known.f kj3).bind fun t243 => (some t243)) else ((clock_Minutes.f a1).bind fun t244 => (if t242 ≤ t244 then ((gangerlaw07_known.f kj3).bind fun t245 => (some t245)) else (none)))) = some r := by rw [if_neg (show ¬ (false = true) by decide)] at H; exact H
        clear H
        have H := H1
        clear H1
        by_cases c16 : a0 > a1
        · rw [if_pos c16] at H
          have c16b0 : decide (a1 < a0) = true := decide_eq_true c16
          clear c16
          replace H := Option.bind_eq_some_iff.mp H
          obtain ⟨t243, A170, H⟩ := H
          replace H : (some t243) = some r := H
          have A17 := Aside0.mk A170
          clear A170
          obtain rfl := Option.some.inj H
          go_wp2_with (first | (go_at_call 10; (with_reducible refine (gangerlaw07_known.calls kj3  t243 _ ?side1 A17.out).mono ?_); (case side1 => exact Glob.below HG.out (by repeat (first | (with_reducible first | exact HB.out | apply below_alloc | apply pw_below_drewN | apply below_drew1) | exact HB.out))); rintro e w18 ⟨rfl, hb⟩; have n0_ := Aside0.mk (below_step (by repeat (first | (with_reducible first | exact HB.out | apply below_alloc | apply pw_below_drewN | apply below_drew1) | exact HB.out)) hb); clear HB; have HB := n0_; clear n0_; (try clear hb); (try clear hb2); (try clear hk); (try clear hi)))
          go_ret
          exact ⟨by first | rfl | (simp [errW_none, errW_some] <;> rfl) | (simp [*, errW_none, errW_some] <;> rfl), by repeat (first | (with_reducible first | exact HB.out | apply below_alloc | apply pw_below_drewN | apply below_drew1) | exact HB.out)⟩
        · rw [if_neg c16] at H
          have c16b0 : decide (a1 < a0) = false := decide_eq_false c16
          clear c16
          replace H := Option.bind_eq_some_iff.mp H
          obtain ⟨t244, A190, H⟩ := H
          replace H : (if t242 ≤ t244 then ((gangerlaw07_known.f kj3).bind fun t245 => (some t245)) else (none)) = some r := H
          have A19 := Aside0.mk A190
          clear A190
          by_cases c20 : t242 ≤ t244
          · rw [if_pos c20] at H
            have c20b0 : decide (t242 ≤ t244) = true := decide_eq_true c20
            clear c20
            replace H := Option.bind_eq_some_iff.mp H
            obtain ⟨t245, A210, H⟩ := H
            replace H : (some t245) = some r := H
            have A21 := Aside0.mk A210
            clear A210
            obtain rfl := Option.some.inj H
            go_wp2_with (first | (go_at_call 15; (with_reducible refine (clock_Minutes.calls a1 t244 _ A19.out).mono ?_); rintro e w' ⟨rfl, ⟨nd, rfl⟩⟩) | (go_at_call 10; (with_reducible refine (gangerlaw07_known.calls kj3  t245 _ ?side1 A21.out).mono ?_); (case side1 => exact Glob.below HG.out (by repeat (first | (with_reducible first | exact HB.out | apply below_alloc | apply pw_below_drewN | apply below_drew1) | exact HB.out))); rintro e w22 ⟨rfl, hb⟩; have n0_ := Aside0.mk (below_step (by repeat (first | (with_reducible first | exact HB.out | apply below_alloc | apply pw_below_drewN | apply below_drew1) | exact HB.out)) hb); clear HB; have HB := n0_; clear n0_; (try clear hb); (try clear hb2); (try clear hk); (try clear hi)))
            go_ret
            exact ⟨by first | rfl | (simp [errW_none, errW_some] <;> rfl) | (simp [*, errW_none, errW_some] <;> rfl), by repeat (first | (with_reducible first | exact HB.out | apply below_alloc | apply pw_below_drewN | apply below_drew1) | exact HB.out)⟩
          · rw [if_neg c20] at H
            exact absurd H (by simp)

/-- THE ONE PURE STATEMENT of gangerlaw07_ClockMinutes: yours. -/
def gangerlaw07_ClockMinutes.Pure : Prop := ∀ (a0 : Int) (a1 : Int), (Lit.int .i64 a0).wf = true → (Lit.int .i64 a1).wf = true → ∃ k, gangerlaw07_ClockMinutes.f k a0 a1 = some true
theorem gangerlaw07_ClockMinutes.walk (P : gangerlaw07_ClockMinutes.Pure) (a0 : Int) (a1 : Int) (w : World) (hG : Glob w) (w0 : (Lit.int .i64 a0).wf = true) (w1 : (Lit.int .i64 a1).wf = true) :
    Calls Tryd.prog 8 #[.int .i64 a0, .int .i64 a1] w fun e w' => e = .returned (.bool true) ∧ Below w.heap.size w w' := by
  obtain ⟨k, h⟩ := P a0 a1 w0 w1
  refine (gangerlaw07_ClockMinutes.calls k a0 a1 true w hG h).mono ?_
  rintro e w' ⟨rfl, hd⟩
  exact ⟨rfl, hd⟩

/-! ### gangerlaw07_ClockApart: function 9 -/
def gangerlaw07_ClockApart.j0 : Nat → Int → Int → ByteArray → ByteArray → Bool → Option (Bool)
  | 0, _, _, _, _, _ => none
  | k + 1, x0, x1, x5, x7, x24 => if x24 = true then (if x5.toList = ([] : List UInt8) then ((gangerlaw07_known.f k).bind fun t250 => (some t250)) else (if x7.toList = ([] : List UInt8) then ((gangerlaw07_known.f k).bind fun t251 => (some t251)) else (none))) else (if ((x5.toList == x7.toList) != (x0 == x1)) = true then (none) else (if (x5.size : Int) = (x7.size : Int) then (if ((Op.bytesLess x5.toList x7.toList) == (decide (x0 < x1))) = true then ((gangerlaw07_known.f k).bind fun t252 => (some t252)) else (none)) else ((gangerlaw07_known.f k).bind fun t253 => (some t253))))
def gangerlaw07_ClockApart.f (k : Nat) (a0 : Int) (a1 : Int) : Option (Bool) := (clock_Print.f k a0).bind fun bt246 => ((clock_Print.f k a1).bind fun bt248 => (if bt246.2 = 0 then (gangerlaw07_ClockApart.j0 k a0 a1 bt246.1 bt248.1 (bt248.2 != 0)) else (gangerlaw07_ClockApart.j0 k a0 a1 bt246.1 bt248.1 true)))
theorem gangerlaw07_ClockApart.mono_l : ∀ k, (∀ y0 y1 y2 y3 y4, LeO (gangerlaw07_ClockApart.j0 k y0 y1 y2 y3 y4) (gangerlaw07_ClockApart.j0 (k + 1) y0 y1 y2 y3 y4))
  | 0 => fun _ _ _ _ _ r h => by simp [gangerlaw07_ClockApart.j0] at h
  | k + 1 => by
    have ih0 := gangerlaw07_ClockApart.mono_l k
    · intro y0 y1 y2 y3 y4
      unfold gangerlaw07_ClockApart.j0
      repeat' first
      | (with_reducible exact ih0 _ _ _ _ _)
      | (with_reducible exact clock_Print.mono _ _)
      | (with_reducible exact gangerlaw07_known.mono _)
      | (with_reducible exact LeO.refl _)
      | (with_reducible exact LeO.none _)
      | (with_reducible refine LeO.ite ?_ ?_)
      | (with_reducible refine LeO.bind ?_ (fun _ => ?_))
      | exact ih0 _ _ _ _ _
      | exact clock_Print.mono _ _
      | exact gangerlaw07_known.mono _
      | exact LeO.none _
      | refine LeO.ite ?_ ?_
      | refine LeO.bind ?_ (fun _ => ?_)
theorem gangerlaw07_ClockApart.mono : ∀ a0 a1 k, LeO (gangerlaw07_ClockApart.f k a0 a1) (gangerlaw07_ClockApart.f (k + 1) a0 a1) := by
  intro a0 a1 k
  have ih0 := gangerlaw07_ClockApart.mono_l k
  unfold gangerlaw07_ClockApart.f
  repeat' first
      | (with_reducible exact ih0 _ _ _ _ _)
      | (with_reducible exact clock_Print.mono _ _)
      | (with_reducible exact gangerlaw07_known.mono _)
      | (with_reducible exact LeO.refl _)
      | (with_reducible exact LeO.none _)
      | (with_reducible refine LeO.ite ?_ ?_)
      | (with_reducible refine LeO.bind ?_ (fun _ => ?_))
      | exact ih0 _ _ _ _ _
      | exact clock_Print.mono _ _
      | exact gangerlaw07_known.mono _
      | exact LeO.none _
      | refine LeO.ite ?_ ?_
      | refine LeO.bind ?_ (fun _ => ?_)
set_option maxHeartbeats 8000000 in
set_option maxRecDepth 100000 in
theorem gangerlaw07_ClockApart.calls (k : Nat) (a0 : Int) (a1 : Int) (r : Bool) (w : World) (hG : Glob w) (h : gangerlaw07_ClockApart.f k a0 a1 = some r) :
    Calls Tryd.prog 9 #[.int .i64 a0, .int .i64 a1] w fun e w' => e = .returned (.bool r) ∧ Below w.heap.size w w' := by
  have HG := Aside0.mk hG
  clear hG
  have HB := Aside0.mk (Below.refl w.heap.size w)
  have H : ((clock_Print.f k a0).bind fun bt246 => ((clock_Print.f k a1).bind fun bt248 => (if bt246.2 = 0 then (gangerlaw07_ClockApart.j0 k a0 a1 bt246.1 bt248.1 (bt248.2 != 0)) else (gangerlaw07_ClockApart.j0 k a0 a1 bt246.1 bt248.1 true)))) = some r := h
  clear h
  replace H := Option.bind_eq_some_iff.mp H
  obtain ⟨⟨t246, t247⟩, A30, H⟩ := H
  replace H : ((clock_Print.f k a1).bind fun bt248 => (if t247 = 0 then (gangerlaw07_ClockApart.j0 k a0 a1 t246 bt248.1 (bt248.2 != 0)) else (gangerlaw07_ClockApart.j0 k a0 a1 t246 bt248.1 true))) = some r := H
  have A3 := Aside0.mk A30
  clear A30
  replace H := Option.bind_eq_some_iff.mp H
  obtain ⟨⟨t248, t249⟩, A40, H⟩ := H
  replace H : (if t247 = 0 then (gangerlaw07_ClockApart.j0 k a0 a1 t246 t248 (t249 != 0)) else (gangerlaw07_ClockApart.j0 k a0 a1 t246 t248 true)) = some r := H
  have A4 := Aside0.mk A40
  clear A40
  have HC5 := Aside0.mk H
  clear H
  go_enter Tryd.func9, Tryd.ntmps9
  go_upto_region 3 with (first | ((with_reducible refine gate_callee (f := 13) rfl ?_); refine goesL_ (some 11) rfl rfl Tryd.func13 (by kernel_rfl) rfl #[.int .i64 a0] rfl (by (try simp only [List.map_toArray, List.map_cons, List.map_nil]); first | done | rfl | (simp only [List.length_drop, List.length_take]; rfl)) ?_; (with_reducible refine (clock_Print.calls k a0 t246 t247 _ ?side1 A3.out).mono ?_); (case side1 => exact Glob.below HG.out (by repeat (first | (with_reducible first | exact HB.out | apply below_alloc | apply pw_below_drewN | apply below_drew1) | exact HB.out))); rintro e w6 ⟨rfl, hb⟩; refine ⟨_, rfl, ?_⟩; have n0_ := Aside0.mk (below_step (by repeat (first | (with_reducible first | exact HB.out | apply below_alloc | apply pw_below_drewN | apply below_drew1) | exact HB.out)) hb); clear HB; have HB := n0_; clear n0_; (try clear hb); (try clear hb2); (try clear hk); (try clear hi)) | ((with_reducible refine gate_callee (f := 13) rfl ?_); refine goesL_ (some 16) rfl rfl Tryd.func13 (by kernel_rfl) rfl #[.int .i64 a1] rfl (by (try simp only [List.map_toArray, List.map_cons, List.map_nil]); first | done | rfl | (simp only [List.length_drop, List.length_take]; rfl)) ?_; (with_reducible refine (clock_Print.calls k a1 t248 t249 _ ?side1 A4.out).mono ?_); (case side1 => exact Glob.below HG.out (by repeat (first | (with_reducible first | exact HB.out | apply below_alloc | apply pw_below_drewN | apply below_drew1) | exact HB.out))); rintro e w7 ⟨rfl, hb⟩; refine ⟨_, rfl, ?_⟩; have n0_ := Aside0.mk (below_step (by repeat (first | (with_reducible first | exact HB.out | apply below_alloc | apply pw_below_drewN | apply below_drew1) | exact HB.out)) hb); clear HB; have HB := n0_; clear n0_; (try clear hb); (try clear hb2); (try clear hk); (try clear hi)))
  (try simp only [Act.put, List.setIfInBounds_toArray, List.set_cons_zero, List.set_cons_succ])
  go_cut [24] (fun v24 wc => ∃ (kq : Nat) (x24_4 : Bool), v24 = .bool x24_4 ∧ Aside0 (gangerlaw07_ClockApart.j0 kq a0 a1 t246 t248 x24_4 = some r) ∧ Aside0 (kq ≤ k) ∧ Aside0 (Below w.heap.size w wc))
  case first =>
    have H := HC5.out
    clear HC5
    by_cases c8 : t247 = 0
    · rw [if_pos c8] at H
      have c8b0 : (t247 == 0) = true := beq_iff_eq.mpr c8
      have c8b1 : (t247 != 0) = false := bne_eq_false_iff_eq.mpr c8
      clear c8
      (first | rw [c8b0] | (simp only [i64_w, i32_w]; rw [c8b0]) | skip)
      have H' := Aside0.mk H
      clear H
      go_wp2
      go_meet
      case rel => exact ⟨_, ((t249 != 0)), (by first | rfl | (simp; done) | (simp [*]; done)), H', ⟨by first | omega | exact Nat.le_refl _⟩, ⟨by repeat (first | (with_reducible first | exact HB.out | apply below_alloc | apply pw_below_drewN | apply below_drew1) | exact HB.out)⟩⟩
    · rw [if_neg c8] at H
      have c8b0 : (t247 == 0) = false := beq_eq_false_iff_ne.mpr c8
      have c8b1 : (t247 != 0) = true := bne_iff_ne.mpr c8
      (first | rw [c8b0] | (simp only [i64_w, i32_w]; rw [c8b0]) | skip)
      have H' := Aside0.mk H
      clear H
      go_wp2
      go_meet
      case rel => exact ⟨_, (true), (by first | rfl | (simp; done) | (simp [*]; done)), H', ⟨by first | omega | exact Nat.le_refl _⟩, ⟨by repeat (first | (with_reducible first | exact HB.out | apply below_alloc | apply pw_below_drewN | apply below_drew1) | exact HB.out)⟩⟩
  case rest =>
    clear HC5
    try clear c1
    try clear p2
    try clear c8
    try clear c8b0
    try clear c8b1
    obtain ⟨kq, x24_4, rfl, HA, HJ4, HB⟩ := hcut
    cases kq with
    | zero => exact absurd HA.out (by simp [gangerlaw07_ClockApart.j0])
    | succ kj4 =>
      have H := HA.out
      clear HA
      simp only [gangerlaw07_ClockApart.j0] at H
      by_cases c9 : x24_4 = true
      · subst c9
        have H1 : (if t246.toList = ([] : List UInt8) then ((gangerlaw07_known.f kj4).bind fun t250 => (some t250)) else (if t248.toList = ([] : List UInt8) then ((gangerlaw07_known.f kj4).bind fun t251 => (some t251)) else (none))) = some r := by rw [if_pos rfl] at H; exact H
        clear H
        have H := H1
        clear H1
        by_cases c10 : t246.toList = ([] : List UInt8)
        · rw [if_pos c10] at H
          have c10b0 : (t246.toList == ([] : List UInt8)) = true := beq_iff_eq.mpr c10
          have c10b1 : (t246.toList != ([] : List UInt8)) = false := bne_eq_false_iff_eq.mpr c10
          clear c10
          replace H := Option.bind_eq_some_iff.mp H
          obtain ⟨t250, A110, H⟩ := H
          replace H : (some t250) = some r := H
          have A11 := Aside0.mk A110
          clear A110
          obtain rfl := Option.some.inj H
          go_wp2_with (first | (go_at_call 10; (with_reducible refine (gangerlaw07_known.calls kj4  t250 _ ?side1 A11.out).mono ?_); (case side1 => exact Glob.below HG.out (by repeat (first | (with_reducible first | exact HB.out | apply below_alloc | apply pw_below_drewN | apply below_drew1) | exact HB.out))); rintro e w12 ⟨rfl, hb⟩; have n0_ := Aside0.mk (below_step (by repeat (first | (with_reducible first | exact HB.out | apply below_alloc | apply pw_below_drewN | apply below_drew1) | exact HB.out)) hb); clear HB; have HB := n0_; clear n0_; (try clear hb); (try clear hb2); (try clear hk); (try clear hi)))
          go_ret
          exact ⟨by first | rfl | (simp [errW_none, errW_some] <;> rfl) | (simp [*, errW_none, errW_some] <;> rfl), by repeat (first | (with_reducible first | exact HB.out | apply below_alloc | apply pw_below_drewN | apply below_drew1) | exact HB.out)⟩
        · rw [if_neg c10] at H
          have c10b0 : (t246.toList == ([] : List UInt8)) = false := beq_eq_false_iff_ne.mpr c10
          have c10b1 : (t246.toList != ([] : List UInt8)) = true := bne_iff_ne.mpr c10
          by_cases c13 : t248.toList = ([] : List UInt8)
          · rw [if_pos c13] at H
            have c13b0 : (t248.toList == ([] : List UInt8)) = true := beq_iff_eq.mpr c13
            have c13b1 : (t248.toList != ([] : List UInt8)) = false := bne_eq_false_iff_eq.mpr c13
            clear c13
            replace H := Option.bind_eq_some_iff.mp H
            obtain ⟨t251, A140, H⟩ := H
            replace H : (some t251) = some r := H
            have A14 := Aside0.mk A140
            clear A140
            obtain rfl := Option.some.inj H
            go_wp2_with (first | (go_at_call 10; (with_reducible refine (gangerlaw07_known.calls kj4  t251 _ ?side1 A14.out).mono ?_); (case side1 => exact Glob.below HG.out (by repeat (first | (with_reducible first | exact HB.out | apply below_alloc | apply pw_below_drewN | apply below_drew1) | exact HB.out))); rintro e w15 ⟨rfl, hb⟩; have n0_ := Aside0.mk (below_step (by repeat (first | (with_reducible first | exact HB.out | apply below_alloc | apply pw_below_drewN | apply below_drew1) | exact HB.out)) hb); clear HB; have HB := n0_; clear n0_; (try clear hb); (try clear hb2); (try clear hk); (try clear hi)))
            go_ret
            exact ⟨by first | rfl | (simp [errW_none, errW_some] <;> rfl) | (simp [*, errW_none, errW_some] <;> rfl), by repeat (first | (with_reducible first | exact HB.out | apply below_alloc | apply pw_below_drewN | apply below_drew1) | exact HB.out)⟩
          · rw [if_neg c13] at H
            exact absurd H (by simp)
      · replace c9 := Bool.eq_false_iff.mpr c9
        subst c9
        have H1 : (if ((t246.toList == t248.toList) != (a0 == a1)) = true then (none) else (if (t246.size : Int) = (t248.size : Int) then (if ((Op.bytesLess t246.toList t248.toList) == (decide (a0 < a1))) = true then ((gangerlaw07_known.f kj4).bind fun t252 => (some t252)) else (none)) else ((gangerlaw07_known.f kj4).bind fun t253 => (some t253)))) = some r := by rw [if_neg (show ¬ (false = true) by decide)] at H; exact H
        clear H
        have H := H1
        clear H1
        by_cases c16 : ((t246.toList == t248.toList) != (a0 == a1)) = true
        · rw [if_pos c16] at H
          exact absurd H (by simp)
        · rw [if_neg c16] at H
          have c16b0 : ((t246.toList == t248.toList) != (a0 == a1)) = false := by simpa using c16
          (try (have c16b1 : decide ((t246.toList == t248.toList) = (a0 == a1)) = true := by simpa using c16))
          (try (have c16b2 : ((t246.toList == t248.toList) == (a0 == a1)) = true := by simpa using c16))
          clear c16
          by_cases c17 : (t246.size : Int) = (t248.size : Int)
          · rw [if_pos c17] at H
            have c17b0 : ((t246.size : Int) == (t248.size : Int)) = true := beq_iff_eq.mpr c17
            have c17b1 : ((t246.size : Int) != (t248.size : Int)) = false := bne_eq_false_iff_eq.mpr c17
            have c17b2 : (t246.size == t248.size) = true := by first | simpa using c17 | (simp at c17 ⊢; omega)
            clear c17
            by_cases c18 : ((Op.bytesLess t246.toList t248.toList) == (decide (a0 < a1))) = true
            · rw [if_pos c18] at H
              have c18b0 : ((Op.bytesLess t246.toList t248.toList) == (decide (a0 < a1))) = true := c18
              (try (have c18b1 : decide ((Op.bytesLess t246.toList t248.toList) = (decide (a0 < a1))) = true := by simpa using c18))
              (try (have c18b2 : ((Op.bytesLess t246.toList t248.toList) == (decide (a0 < a1))) = true := by simpa using c18))
              clear c18
              replace H := Option.bind_eq_some_iff.mp H
              obtain ⟨t252, A190, H⟩ := H
              replace H : (some t252) = some r := H
              have A19 := Aside0.mk A190
              clear A190
              obtain rfl := Option.some.inj H
              go_wp2_with (first | (go_at_call 10; (with_reducible refine (gangerlaw07_known.calls kj4  t252 _ ?side1 A19.out).mono ?_); (case side1 => exact Glob.below HG.out (by repeat (first | (with_reducible first | exact HB.out | apply below_alloc | apply pw_below_drewN | apply below_drew1) | exact HB.out))); rintro e w20 ⟨rfl, hb⟩; have n0_ := Aside0.mk (below_step (by repeat (first | (with_reducible first | exact HB.out | apply below_alloc | apply pw_below_drewN | apply below_drew1) | exact HB.out)) hb); clear HB; have HB := n0_; clear n0_; (try clear hb); (try clear hb2); (try clear hk); (try clear hi)))
              go_ret
              exact ⟨by first | rfl | (simp [errW_none, errW_some] <;> rfl) | (simp [*, errW_none, errW_some] <;> rfl), by repeat (first | (with_reducible first | exact HB.out | apply below_alloc | apply pw_below_drewN | apply below_drew1) | exact HB.out)⟩
            · rw [if_neg c18] at H
              exact absurd H (by simp)
          · rw [if_neg c17] at H
            have c17b0 : ((t246.size : Int) == (t248.size : Int)) = false := beq_eq_false_iff_ne.mpr c17
            have c17b1 : ((t246.size : Int) != (t248.size : Int)) = true := bne_iff_ne.mpr c17
            have c17b2 : (t246.size == t248.size) = false := by first | simpa using c17 | (simp at c17 ⊢; omega)
            replace H := Option.bind_eq_some_iff.mp H
            obtain ⟨t253, A210, H⟩ := H
            replace H : (some t253) = some r := H
            have A21 := Aside0.mk A210
            clear A210
            obtain rfl := Option.some.inj H
            go_wp2_with (first | (go_at_call 10; (with_reducible refine (gangerlaw07_known.calls kj4  t253 _ ?side1 A21.out).mono ?_); (case side1 => exact Glob.below HG.out (by repeat (first | (with_reducible first | exact HB.out | apply below_alloc | apply pw_below_drewN | apply below_drew1) | exact HB.out))); rintro e w22 ⟨rfl, hb⟩; have n0_ := Aside0.mk (below_step (by repeat (first | (with_reducible first | exact HB.out | apply below_alloc | apply pw_below_drewN | apply below_drew1) | exact HB.out)) hb); clear HB; have HB := n0_; clear n0_; (try clear hb); (try clear hb2); (try clear hk); (try clear hi)))
            go_ret
            exact ⟨by first | rfl | (simp [errW_none, errW_some] <;> rfl) | (simp [*, errW_none, errW_some] <;> rfl), by repeat (first | (with_reducible first | exact HB.out | apply below_alloc | apply pw_below_drewN | apply below_drew1) | exact HB.out)⟩

/-- THE ONE PURE STATEMENT of gangerlaw07_ClockApart: yours. -/
def gangerlaw07_ClockApart.Pure : Prop := ∀ (a0 : Int) (a1 : Int), (Lit.int .i64 a0).wf = true → (Lit.int .i64 a1).wf = true → ∃ k, gangerlaw07_ClockApart.f k a0 a1 = some true
theorem gangerlaw07_ClockApart.walk (P : gangerlaw07_ClockApart.Pure) (a0 : Int) (a1 : Int) (w : World) (hG : Glob w) (w0 : (Lit.int .i64 a0).wf = true) (w1 : (Lit.int .i64 a1).wf = true) :
    Calls Tryd.prog 9 #[.int .i64 a0, .int .i64 a1] w fun e w' => e = .returned (.bool true) ∧ Below w.heap.size w w' := by
  obtain ⟨k, h⟩ := P a0 a1 w0 w1
  refine (gangerlaw07_ClockApart.calls k a0 a1 true w hG h).mono ?_
  rintro e w' ⟨rfl, hd⟩
  exact ⟨rfl, hd⟩

end Go.Proofs.YtjgfdilikbeofaaDoor.P
