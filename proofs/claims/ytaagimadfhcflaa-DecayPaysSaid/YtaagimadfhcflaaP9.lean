/- The machine's side of the laws of this seat: each function's plain form and its contract, written by a program of this session out of Lean's print of the loaded functions; no condition beyond what each statement says. -/
import Derived.Test.YtaagimadfhcflaaP0
import Derived.Test.YtaagimadfhcflaaP1
import Derived.Test.YtaagimadfhcflaaP3
import Derived.Test.YtaagimadfhcflaaP4
namespace Go.Proofs.Ytaagimadfhcflaa.P
open Go.RowKit Go.Proofs.YtaagimadfhcflaaW.PrintWords Go.Proofs.YtaagimadfhcflaaW.PrintLast Go.Proofs.YtaagimadfhcflaaW.PrintMore
attribute [local go_sem] max2_int min2_int max_two min_two max_three min_three max_four min_four   -- for this text's walks alone
set_option linter.unusedVariables false
set_option linter.unusedSimpArgs false

attribute [local go_sem high] eqA37
attribute [local go_sem] isSome_setCell
/-! ### gangerlaw02_DecayEnds: function 8 -/
mutual
def gangerlaw02_DecayEnds.j0 : Nat → Int → Int → Int → Int → Bool → Option (Bool)
  | 0, _, _, _, _, _ => none
  | k + 1, x0, x1, x2, x7, x26 => if x26 = true then ((gangerlaw02_known.f k).bind fun t279 => (some t279)) else ((decay_After.f k x0 x7 x1).bind fun bt280 => (if bt280.2 = 0 then (gangerlaw02_DecayEnds.j1 k x0 x1 x2 x7 (bt280.1 != 0)) else (gangerlaw02_DecayEnds.j1 k x0 x1 x2 x7 true)))
def gangerlaw02_DecayEnds.j1 : Nat → Int → Int → Int → Int → Bool → Option (Bool)
  | 0, _, _, _, _, _ => none
  | k + 1, x0, x1, x2, x7, x40 => if x40 = true then (none) else (if x0 > 0 then ((decay_After.f k x0 (wrap64 (x7 - x1)) x1).bind fun bt282 => (if bt282.2 = 0 then (if bt282.1 = 0 then (none) else (gangerlaw02_DecayEnds.j2 k x0 x1 x2 x7)) else (none))) else (gangerlaw02_DecayEnds.j2 k x0 x1 x2 x7))
def gangerlaw02_DecayEnds.j2 : Nat → Int → Int → Int → Int → Option (Bool)
  | 0, _, _, _, _ => none
  | k + 1, x0, x1, x2, x7 => if x2 < 0 then ((gangerlaw02_known.f k).bind fun t284 => (some t284)) else ((decay_Charge.f k x0 0 x7 x2 x1).bind fun bt285 => (if bt285.2.2 = 0 then (if bt285.1 = x2 then (if bt285.2.1 = x7 then ((gangerlaw02_known.f k).bind fun t289 => (some t289)) else (none)) else (none)) else (none)))
end
def gangerlaw02_DecayEnds.f (k : Nat) (a0 : Int) (a1 : Int) (a2 : Int) : Option (Bool) := (decay_Until.f k a0 a1).bind fun bt277 => (if bt277.2 = 0 then (gangerlaw02_DecayEnds.j0 k a0 a1 a2 bt277.1 (decide (bt277.1 > 1099511627776))) else (gangerlaw02_DecayEnds.j0 k a0 a1 a2 bt277.1 true))
theorem gangerlaw02_DecayEnds.mono_l : ∀ k, (∀ y0 y1 y2 y3 y4, LeO (gangerlaw02_DecayEnds.j0 k y0 y1 y2 y3 y4) (gangerlaw02_DecayEnds.j0 (k + 1) y0 y1 y2 y3 y4)) ∧ (∀ y0 y1 y2 y3 y4, LeO (gangerlaw02_DecayEnds.j1 k y0 y1 y2 y3 y4) (gangerlaw02_DecayEnds.j1 (k + 1) y0 y1 y2 y3 y4)) ∧ (∀ y0 y1 y2 y3, LeO (gangerlaw02_DecayEnds.j2 k y0 y1 y2 y3) (gangerlaw02_DecayEnds.j2 (k + 1) y0 y1 y2 y3))
  | 0 => ⟨fun _ _ _ _ _ r h => by simp [gangerlaw02_DecayEnds.j0] at h, fun _ _ _ _ _ r h => by simp [gangerlaw02_DecayEnds.j1] at h, fun _ _ _ _ r h => by simp [gangerlaw02_DecayEnds.j2] at h⟩
  | k + 1 => by
    obtain ⟨ih0, ih1, ih2⟩ := gangerlaw02_DecayEnds.mono_l k
    refine ⟨?_, ?_, ?_⟩
    · intro y0 y1 y2 y3 y4
      unfold gangerlaw02_DecayEnds.j0
      repeat' first
      | (with_reducible exact ih0 _ _ _ _ _)
      | (with_reducible exact ih1 _ _ _ _ _)
      | (with_reducible exact ih2 _ _ _ _)
      | (with_reducible exact decay_After.mono _ _ _ _)
      | (with_reducible exact decay_Charge.mono _ _ _ _ _ _)
      | (with_reducible exact decay_Until.mono _ _ _)
      | (with_reducible exact gangerlaw02_known.mono _)
      | (with_reducible exact LeO.refl _)
      | (with_reducible exact LeO.none _)
      | (with_reducible refine LeO.ite ?_ ?_)
      | (with_reducible refine LeO.bind ?_ (fun _ => ?_))
      | exact ih0 _ _ _ _ _
      | exact ih1 _ _ _ _ _
      | exact ih2 _ _ _ _
      | exact decay_After.mono _ _ _ _
      | exact decay_Charge.mono _ _ _ _ _ _
      | exact decay_Until.mono _ _ _
      | exact gangerlaw02_known.mono _
      | exact LeO.none _
      | refine LeO.ite ?_ ?_
      | refine LeO.bind ?_ (fun _ => ?_)
    · intro y0 y1 y2 y3 y4
      unfold gangerlaw02_DecayEnds.j1
      repeat' first
      | (with_reducible exact ih0 _ _ _ _ _)
      | (with_reducible exact ih1 _ _ _ _ _)
      | (with_reducible exact ih2 _ _ _ _)
      | (with_reducible exact decay_After.mono _ _ _ _)
      | (with_reducible exact decay_Charge.mono _ _ _ _ _ _)
      | (with_reducible exact decay_Until.mono _ _ _)
      | (with_reducible exact gangerlaw02_known.mono _)
      | (with_reducible exact LeO.refl _)
      | (with_reducible exact LeO.none _)
      | (with_reducible refine LeO.ite ?_ ?_)
      | (with_reducible refine LeO.bind ?_ (fun _ => ?_))
      | exact ih0 _ _ _ _ _
      | exact ih1 _ _ _ _ _
      | exact ih2 _ _ _ _
      | exact decay_After.mono _ _ _ _
      | exact decay_Charge.mono _ _ _ _ _ _
      | exact decay_Until.mono _ _ _
      | exact gangerlaw02_known.mono _
      | exact LeO.none _
      | refine LeO.ite ?_ ?_
      | refine LeO.bind ?_ (fun _ => ?_)
    · intro y0 y1 y2 y3
      unfold gangerlaw02_DecayEnds.j2
      repeat' first
      | (with_reducible exact ih0 _ _ _ _ _)
      | (with_reducible exact ih1 _ _ _ _ _)
      | (with_reducible exact ih2 _ _ _ _)
      | (with_reducible exact decay_After.mono _ _ _ _)
      | (with_reducible exact decay_Charge.mono _ _ _ _ _ _)
      | (with_reducible exact decay_Until.mono _ _ _)
      | (with_reducible exact gangerlaw02_known.mono _)
      | (with_reducible exact LeO.refl _)
      | (with_reducible exact LeO.none _)
      | (with_reducible refine LeO.ite ?_ ?_)
      | (with_reducible refine LeO.bind ?_ (fun _ => ?_))
      | exact ih0 _ _ _ _ _
      | exact ih1 _ _ _ _ _
      | exact ih2 _ _ _ _
      | exact decay_After.mono _ _ _ _
      | exact decay_Charge.mono _ _ _ _ _ _
      | exact decay_Until.mono _ _ _
      | exact gangerlaw02_known.mono _
      | exact LeO.none _
      | refine LeO.ite ?_ ?_
      | refine LeO.bind ?_ (fun _ => ?_)
theorem gangerlaw02_DecayEnds.mono : ∀ a0 a1 a2 k, LeO (gangerlaw02_DecayEnds.f k a0 a1 a2) (gangerlaw02_DecayEnds.f (k + 1) a0 a1 a2) := by
  intro a0 a1 a2 k
  obtain ⟨ih0, ih1, ih2⟩ := gangerlaw02_DecayEnds.mono_l k
  unfold gangerlaw02_DecayEnds.f
  repeat' first
      | (with_reducible exact ih0 _ _ _ _ _)
      | (with_reducible exact ih1 _ _ _ _ _)
      | (with_reducible exact ih2 _ _ _ _)
      | (with_reducible exact decay_After.mono _ _ _ _)
      | (with_reducible exact decay_Charge.mono _ _ _ _ _ _)
      | (with_reducible exact decay_Until.mono _ _ _)
      | (with_reducible exact gangerlaw02_known.mono _)
      | (with_reducible exact LeO.refl _)
      | (with_reducible exact LeO.none _)
      | (with_reducible refine LeO.ite ?_ ?_)
      | (with_reducible refine LeO.bind ?_ (fun _ => ?_))
      | exact ih0 _ _ _ _ _
      | exact ih1 _ _ _ _ _
      | exact ih2 _ _ _ _
      | exact decay_After.mono _ _ _ _
      | exact decay_Charge.mono _ _ _ _ _ _
      | exact decay_Until.mono _ _ _
      | exact gangerlaw02_known.mono _
      | exact LeO.none _
      | refine LeO.ite ?_ ?_
      | refine LeO.bind ?_ (fun _ => ?_)
set_option maxHeartbeats 8000000 in
set_option maxRecDepth 100000 in
theorem gangerlaw02_DecayEnds.calls (k : Nat) (a0 : Int) (a1 : Int) (a2 : Int) (r : Bool) (w : World) (h : gangerlaw02_DecayEnds.f k a0 a1 a2 = some r) :
    Calls Try.prog 8 #[.int .i64 a0, .int .i64 a1, .int .i64 a2] w fun e w' => e = .returned (.bool r) ∧ Below w.heap.size w w' := by
  have hu37 := Try.underlying37
  have HB := Aside0.mk (Below.refl w.heap.size w)
  have H : ((decay_Until.f k a0 a1).bind fun bt277 => (if bt277.2 = 0 then (gangerlaw02_DecayEnds.j0 k a0 a1 a2 bt277.1 (decide (bt277.1 > 1099511627776))) else (gangerlaw02_DecayEnds.j0 k a0 a1 a2 bt277.1 true))) = some r := h
  clear h
  replace H := Option.bind_eq_some_iff.mp H
  obtain ⟨⟨t277, t278⟩, A40, H⟩ := H
  replace H : (if t278 = 0 then (gangerlaw02_DecayEnds.j0 k a0 a1 a2 t277 (decide (t277 > 1099511627776))) else (gangerlaw02_DecayEnds.j0 k a0 a1 a2 t277 true)) = some r := H
  have A4 := Aside0.mk A40
  clear A40
  have HC5 := Aside0.mk H
  clear H
  go_enter Try.func8, Try.ntmps8
  go_upto_region 2 with (first | ((with_reducible refine gate_callee (f := 15) rfl ?_); refine goesL_ (some 18) rfl rfl Try.func15 (by kernel_rfl) rfl #[.int .i64 a0, .int .i64 a1] rfl (by (try simp only [List.map_toArray, List.map_cons, List.map_nil]); first | done | rfl | (simp only [List.length_drop, List.length_take]; rfl)) ?_; (with_reducible refine (decay_Until.calls k a0 a1 t277 t278 _ A4.out).mono ?_); rintro e w' ⟨rfl, ⟨nd, rfl⟩⟩; refine ⟨_, rfl, ?_⟩))
  (try simp only [Act.put, List.setIfInBounds_toArray, List.set_cons_zero, List.set_cons_succ])
  go_cut [26] (fun v26 wc => ∃ (kq : Nat) (x26_4 : Bool), v26 = .bool x26_4 ∧ Aside0 (gangerlaw02_DecayEnds.j0 kq a0 a1 a2 t277 x26_4 = some r) ∧ Aside0 (kq ≤ k) ∧ Aside0 (Below w.heap.size w wc))
  case first =>
    have H := HC5.out
    clear HC5
    by_cases c6 : t278 = 0
    · rw [if_pos c6] at H
      have c6b0 : (t278 == 0) = true := beq_iff_eq.mpr c6
      have c6b1 : (t278 != 0) = false := bne_eq_false_iff_eq.mpr c6
      clear c6
      (first | rw [c6b0] | (simp only [i64_w, i32_w]; rw [c6b0]) | skip)
      have H' := Aside0.mk H
      clear H
      go_wp2
      go_meet
      case rel => exact ⟨_, (decide (t277 > 1099511627776)), (by first | rfl | (simp; done) | (simp [*]; done)), H', ⟨by first | omega | exact Nat.le_refl _⟩, ⟨by repeat (first | (with_reducible first | exact HB.out | apply below_alloc | apply pw_below_drewN | apply below_drew1) | exact HB.out)⟩⟩
    · rw [if_neg c6] at H
      have c6b0 : (t278 == 0) = false := beq_eq_false_iff_ne.mpr c6
      have c6b1 : (t278 != 0) = true := bne_iff_ne.mpr c6
      (first | rw [c6b0] | (simp only [i64_w, i32_w]; rw [c6b0]) | skip)
      have H' := Aside0.mk H
      clear H
      go_wp2
      go_meet
      case rel => exact ⟨_, (true), (by first | rfl | (simp; done) | (simp [*]; done)), H', ⟨by first | omega | exact Nat.le_refl _⟩, ⟨by repeat (first | (with_reducible first | exact HB.out | apply below_alloc | apply pw_below_drewN | apply below_drew1) | exact HB.out)⟩⟩
  case rest =>
    clear HC5
    try clear c1
    try clear p2
    try clear c6
    try clear c6b0
    try clear c6b1
    obtain ⟨kq, x26_4, rfl, HA, HJ4, HB⟩ := hcut
    cases kq with
    | zero => exact absurd HA.out (by simp [gangerlaw02_DecayEnds.j0])
    | succ kj4 =>
      have H := HA.out
      clear HA
      simp only [gangerlaw02_DecayEnds.j0] at H
      by_cases c7 : x26_4 = true
      · subst c7
        have H1 : ((gangerlaw02_known.f kj4).bind fun t279 => (some t279)) = some r := by rw [if_pos rfl] at H; exact H
        clear H
        have H := H1
        clear H1
        replace H := Option.bind_eq_some_iff.mp H
        obtain ⟨t279, A80, H⟩ := H
        replace H : (some t279) = some r := H
        have A8 := Aside0.mk A80
        clear A80
        obtain rfl := Option.some.inj H
        go_wp2_with (first | ((with_reducible refine gate_callee (f := 12) rfl ?_); refine goesL_ (some 27) rfl rfl Try.func12 (by kernel_rfl) rfl #[] rfl (by (try simp only [List.map_toArray, List.map_cons, List.map_nil]); first | done | rfl | (simp only [List.length_drop, List.length_take]; rfl)) ?_; (with_reducible refine (gangerlaw02_known.calls kj4  t279 _ A8.out).mono ?_); rintro e w9 ⟨rfl, hb⟩; refine ⟨_, rfl, ?_⟩; have n0_ := Aside0.mk (below_step (by repeat (first | (with_reducible first | exact HB.out | apply below_alloc | apply pw_below_drewN | apply below_drew1) | exact HB.out)) hb); clear HB; have HB := n0_; clear n0_; (try clear hb); (try clear hb2); (try clear hk); (try clear hi)))
        go_ret
        exact ⟨by first | rfl | (simp [errW_none, errW_some] <;> rfl) | (simp [*, errW_none, errW_some] <;> rfl), by repeat (first | (with_reducible first | exact HB.out | apply below_alloc | apply pw_below_drewN | apply below_drew1) | exact HB.out)⟩
      · replace c7 := Bool.eq_false_iff.mpr c7
        subst c7
        have H1 : ((decay_After.f kj4 a0 t277 a1).bind fun bt280 => (if bt280.2 = 0 then (gangerlaw02_DecayEnds.j1 kj4 a0 a1 a2 t277 (bt280.1 != 0)) else (gangerlaw02_DecayEnds.j1 kj4 a0 a1 a2 t277 true))) = some r := by rw [if_neg (show ¬ (false = true) by decide)] at H; exact H
        clear H
        have H := H1
        clear H1
        replace H := Option.bind_eq_some_iff.mp H
        obtain ⟨⟨t280, t281⟩, A100, H⟩ := H
        replace H : (if t281 = 0 then (gangerlaw02_DecayEnds.j1 kj4 a0 a1 a2 t277 (t280 != 0)) else (gangerlaw02_DecayEnds.j1 kj4 a0 a1 a2 t277 true)) = some r := H
        have A10 := Aside0.mk A100
        clear A100
        have HC11 := Aside0.mk H
        clear H
        go_upto_region 5 with (first | ((with_reducible refine gate_callee (f := 13) rfl ?_); refine goesL_ (some 32) rfl rfl Try.func13 (by kernel_rfl) rfl #[.int .i64 a0, .int .i64 t277, .int .i64 a1] rfl (by (try simp only [List.map_toArray, List.map_cons, List.map_nil]); first | done | rfl | (simp only [List.length_drop, List.length_take]; rfl)) ?_; (with_reducible refine (decay_After.calls kj4 a0 t277 a1 t280 t281 _ A10.out).mono ?_); rintro e w12 ⟨rfl, hb⟩; refine ⟨_, rfl, ?_⟩; have n0_ := Aside0.mk (below_step (by repeat (first | (with_reducible first | exact HB.out | apply below_alloc | apply pw_below_drewN | apply below_drew1) | exact HB.out)) hb); clear HB; have HB := n0_; clear n0_; (try clear hb); (try clear hb2); (try clear hk); (try clear hi)))
        (try simp only [Act.put, List.setIfInBounds_toArray, List.set_cons_zero, List.set_cons_succ])
        go_cut [40] (fun v40 wc => ∃ (kq : Nat) (x40_10 : Bool), v40 = .bool x40_10 ∧ Aside0 (gangerlaw02_DecayEnds.j1 kq a0 a1 a2 t277 x40_10 = some r) ∧ Aside0 (kq ≤ kj4) ∧ Aside0 (Below w.heap.size w wc))
        case first =>
          have H := HC11.out
          clear HC11
          by_cases c13 : t281 = 0
          · rw [if_pos c13] at H
            have c13b0 : (t281 == 0) = true := beq_iff_eq.mpr c13
            have c13b1 : (t281 != 0) = false := bne_eq_false_iff_eq.mpr c13
            clear c13
            (first | rw [c13b0] | (simp only [i64_w, i32_w]; rw [c13b0]) | skip)
            have H' := Aside0.mk H
            clear H
            go_wp2
            go_meet
            case rel => exact ⟨_, ((t280 != 0)), (by first | rfl | (simp; done) | (simp [*]; done)), H', ⟨by have := HJ4.out; first | omega | exact Nat.le_refl _⟩, ⟨by repeat (first | (with_reducible first | exact HB.out | apply below_alloc | apply pw_below_drewN | apply below_drew1) | exact HB.out)⟩⟩
          · rw [if_neg c13] at H
            have c13b0 : (t281 == 0) = false := beq_eq_false_iff_ne.mpr c13
            have c13b1 : (t281 != 0) = true := bne_iff_ne.mpr c13
            (first | rw [c13b0] | (simp only [i64_w, i32_w]; rw [c13b0]) | skip)
            have H' := Aside0.mk H
            clear H
            go_wp2
            go_meet
            case rel => exact ⟨_, (true), (by first | rfl | (simp; done) | (simp [*]; done)), H', ⟨by have := HJ4.out; first | omega | exact Nat.le_refl _⟩, ⟨by repeat (first | (with_reducible first | exact HB.out | apply below_alloc | apply pw_below_drewN | apply below_drew1) | exact HB.out)⟩⟩
        case rest =>
          clear HC11
          try clear c1
          try clear p2
          try clear c6
          try clear c6b0
          try clear c6b1
          try clear c7
          try clear c8
          try clear c12
          try clear c13
          try clear c13b0
          try clear c13b1
          try clear p2
          obtain ⟨kq, x40_10, rfl, HA, HJ10, HB⟩ := hcut
          cases kq with
          | zero => exact absurd HA.out (by simp [gangerlaw02_DecayEnds.j1])
          | succ kj10 =>
            have H := HA.out
            clear HA
            simp only [gangerlaw02_DecayEnds.j1] at H
            by_cases c14 : x40_10 = true
            · subst c14
              have H1 : (none) = some r := by rw [if_pos rfl] at H; exact H
              clear H
              have H := H1
              clear H1
              exact absurd H (by simp)
            · replace c14 := Bool.eq_false_iff.mpr c14
              subst c14
              have H1 : (if a0 > 0 then ((decay_After.f kj10 a0 (wrap64 (t277 - a1)) a1).bind fun bt282 => (if bt282.2 = 0 then (if bt282.1 = 0 then (none) else (gangerlaw02_DecayEnds.j2 kj10 a0 a1 a2 t277)) else (none))) else (gangerlaw02_DecayEnds.j2 kj10 a0 a1 a2 t277)) = some r := by rw [if_neg (show ¬ (false = true) by decide)] at H; exact H
              clear H
              have H := H1
              clear H1
              have HC15 := Aside0.mk H
              clear H
              go_upto_if 42 with (fail)
              go_cut [] (fun wc => ∃ (kq : Nat), Aside0 (gangerlaw02_DecayEnds.j2 kq a0 a1 a2 t277 = some r) ∧ Aside0 (kq ≤ kj10) ∧ Aside0 (Below w.heap.size w wc))
              case first =>
                have H := HC15.out
                clear HC15
                by_cases c16 : a0 > 0
                · rw [if_pos c16] at H
                  have c16b0 : decide (0 < a0) = true := decide_eq_true c16
                  clear c16
                  (first | rw [c16b0] | (simp only [i64_w, i32_w]; rw [c16b0]) | skip)
                  replace H := Option.bind_eq_some_iff.mp H
                  obtain ⟨⟨t282, t283⟩, A170, H⟩ := H
                  replace H : (if t283 = 0 then (if t282 = 0 then (none) else (gangerlaw02_DecayEnds.j2 kj10 a0 a1 a2 t277)) else (none)) = some r := H
                  have A17 := Aside0.mk A170
                  clear A170
                  by_cases c18 : t283 = 0
                  · rw [if_pos c18] at H
                    have c18b0 : (t283 == 0) = true := beq_iff_eq.mpr c18
                    have c18b1 : (t283 != 0) = false := bne_eq_false_iff_eq.mpr c18
                    clear c18
                    by_cases c19 : t282 = 0
                    · rw [if_pos c19] at H
                      exact absurd H (by simp)
                    · rw [if_neg c19] at H
                      have c19b0 : (t282 == 0) = false := beq_eq_false_iff_ne.mpr c19
                      have c19b1 : (t282 != 0) = true := bne_iff_ne.mpr c19
                      have H' := Aside0.mk H
                      clear H
                      go_wp2_with (first | ((with_reducible refine gate_callee (f := 13) rfl ?_); refine goesL_ (some 49) rfl rfl Try.func13 (by kernel_rfl) rfl #[.int .i64 a0, .int .i64 (wrap64 (t277 - a1)), .int .i64 a1] rfl (by (try simp only [List.map_toArray, List.map_cons, List.map_nil]); first | done | rfl | (simp only [List.length_drop, List.length_take]; rfl)) ?_; (with_reducible refine (decay_After.calls kj10 a0 (wrap64 (t277 - a1)) a1 t282 t283 _ A17.out).mono ?_); rintro e w20 ⟨rfl, hb⟩; refine ⟨_, rfl, ?_⟩; have n0_ := Aside0.mk (below_step (by repeat (first | (with_reducible first | exact HB.out | apply below_alloc | apply pw_below_drewN | apply below_drew1) | exact HB.out)) hb); clear HB; have HB := n0_; clear n0_; (try clear hb); (try clear hb2); (try clear hk); (try clear hi)))
                      go_meet
                      case rel => exact ⟨_, H', ⟨by have := HJ4.out; have := HJ10.out; first | omega | exact Nat.le_refl _⟩, ⟨by repeat (first | (with_reducible first | exact HB.out | apply below_alloc | apply pw_below_drewN | apply below_drew1) | exact HB.out)⟩⟩
                  · rw [if_neg c18] at H
                    exact absurd H (by simp)
                · rw [if_neg c16] at H
                  have c16b0 : decide (0 < a0) = false := decide_eq_false c16
                  clear c16
                  (first | rw [c16b0] | (simp only [i64_w, i32_w]; rw [c16b0]) | skip)
                  have H' := Aside0.mk H
                  clear H
                  go_wp2
                  go_meet
                  case rel => exact ⟨_, H', ⟨by have := HJ4.out; have := HJ10.out; first | omega | exact Nat.le_refl _⟩, ⟨by repeat (first | (with_reducible first | exact HB.out | apply below_alloc | apply pw_below_drewN | apply below_drew1) | exact HB.out)⟩⟩
              case rest =>
                clear HC15
                try clear c1
                try clear p2
                try clear c6
                try clear c6b0
                try clear c6b1
                try clear p6
                try clear c7
                try clear c8
                try clear c12
                try clear c13
                try clear c13b0
                try clear c13b1
                try clear c14
                try clear c15
                try clear c16
                try clear c16b0
                try clear c18
                try clear c18b0
                try clear c18b1
                try clear c19
                try clear c19b0
                try clear c19b1
                try clear p2
                obtain ⟨kq, HA, HJ14, HB⟩ := hcut
                cases kq with
                | zero => exact absurd HA.out (by simp [gangerlaw02_DecayEnds.j2])
                | succ kj14 =>
                  have H := HA.out
                  clear HA
                  simp only [gangerlaw02_DecayEnds.j2] at H
                  by_cases c21 : a2 < 0
                  · rw [if_pos c21] at H
                    have c21b0 : decide (a2 < 0) = true := decide_eq_true c21
                    clear c21
                    replace H := Option.bind_eq_some_iff.mp H
                    obtain ⟨t284, A220, H⟩ := H
                    replace H : (some t284) = some r := H
                    have A22 := Aside0.mk A220
                    clear A220
                    obtain rfl := Option.some.inj H
                    go_wp2_with (first | ((with_reducible refine gate_callee (f := 12) rfl ?_); refine goesL_ (some 60) rfl rfl Try.func12 (by kernel_rfl) rfl #[] rfl (by (try simp only [List.map_toArray, List.map_cons, List.map_nil]); first | done | rfl | (simp only [List.length_drop, List.length_take]; rfl)) ?_; (with_reducible refine (gangerlaw02_known.calls kj14  t284 _ A22.out).mono ?_); rintro e w23 ⟨rfl, hb⟩; refine ⟨_, rfl, ?_⟩; have n0_ := Aside0.mk (below_step (by repeat (first | (with_reducible first | exact HB.out | apply below_alloc | apply pw_below_drewN | apply below_drew1) | exact HB.out)) hb); clear HB; have HB := n0_; clear n0_; (try clear hb); (try clear hb2); (try clear hk); (try clear hi)))
                    go_ret
                    exact ⟨by first | rfl | (simp [errW_none, errW_some] <;> rfl) | (simp [*, errW_none, errW_some] <;> rfl), by repeat (first | (with_reducible first | exact HB.out | apply below_alloc | apply pw_below_drewN | apply below_drew1) | exact HB.out)⟩
                  · rw [if_neg c21] at H
                    have c21b0 : decide (a2 < 0) = false := decide_eq_false c21
                    clear c21
                    replace H := Option.bind_eq_some_iff.mp H
                    obtain ⟨⟨t285, t286, t287⟩, A240, H⟩ := H
                    replace H : (if t287 = 0 then (if t285 = a2 then (if t286 = t277 then ((gangerlaw02_known.f kj14).bind fun t289 => (some t289)) else (none)) else (none)) else (none)) = some r := H
                    have A24 := Aside0.mk A240
                    clear A240
                    by_cases c25 : t287 = 0
                    · rw [if_pos c25] at H
                      have c25b0 : (t287 == 0) = true := beq_iff_eq.mpr c25
                      have c25b1 : (t287 != 0) = false := bne_eq_false_iff_eq.mpr c25
                      clear c25
                      by_cases c26 : t285 = a2
                      · rw [if_pos c26] at H
                        have c26b0 : (t285 == a2) = true := beq_iff_eq.mpr c26
                        have c26b1 : (t285 != a2) = false := bne_eq_false_iff_eq.mpr c26
                        clear c26
                        by_cases c27 : t286 = t277
                        · rw [if_pos c27] at H
                          have c27b0 : (t286 == t277) = true := beq_iff_eq.mpr c27
                          have c27b1 : (t286 != t277) = false := bne_eq_false_iff_eq.mpr c27
                          clear c27
                          replace H := Option.bind_eq_some_iff.mp H
                          obtain ⟨t289, A280, H⟩ := H
                          replace H : (some t289) = some r := H
                          have A28 := Aside0.mk A280
                          clear A280
                          obtain rfl := Option.some.inj H
                          go_wp2_with (first | ((with_reducible refine gate_callee (f := 17) rfl ?_); refine goesL_ (some 67) rfl rfl Try.func17 (by kernel_rfl) rfl #[.agg #[.int .i64 a0, .int .i64 0], .int .i64 t277, .int .i64 a2, .int .i64 a1] rfl (by (try simp only [List.map_toArray, List.map_cons, List.map_nil]); first | done | rfl | (simp only [List.length_drop, List.length_take]; rfl)) ?_; (with_reducible refine (decay_Charge.calls kj14 a0 0 t277 a2 a1 t285 t286 t287 _ A24.out).mono ?_); rintro e w29 ⟨rfl, hb⟩; refine ⟨_, rfl, ?_⟩; have n0_ := Aside0.mk (below_step (by repeat (first | (with_reducible first | exact HB.out | apply below_alloc | apply pw_below_drewN | apply below_drew1) | exact HB.out)) hb); clear HB; have HB := n0_; clear n0_; (try clear hb); (try clear hb2); (try clear hk); (try clear hi)) | ((with_reducible refine gate_dst (N := 13) rfl ?_); refine box_event ?hg (N := 13) ?hd (cs := #[.int .i64 0, .int .i64 0]) (t := 37) ?hr ?_; (case hd => rfl); (case hg => rfl); (case hr => first | (go_simp; done) | (go_simp; rfl)); intro gb288 hg w30 hbox hb; have n0_ := Aside0.mk (below_step (by repeat (first | (with_reducible first | exact HB.out | apply below_alloc | apply pw_below_drewN | apply below_drew1) | exact HB.out)) hb); have n1_ := Aside0.mk (hbox); have n2_ := Aside0.mk ((by rw [hg]; exact (below_size (by repeat (first | (with_reducible first | exact HB.out | apply below_alloc | apply pw_below_drewN | apply below_drew1) | exact HB.out))) : w.heap.size ≤ gb288)); have n3_ := Aside0.mk ((by rw [hg]; exact (below_size (by repeat (first | (with_reducible first | exact HB.out | apply below_alloc | apply pw_below_drewN | apply below_drew1) | exact HB.out))) : w.heap.size ≤ gb288)); clear HB; have HB := n0_; have BK288 := n1_; have GW288 := n2_; have GE288 := n3_; clear n0_ n1_ n2_ n3_; clear hb hbox hg; have hcz31_0 : w30.cell? ⟨gb288, 0, none⟩ = some (.int .i64 0) := (blk_cell BK288.out 0).trans rfl; have hcz31_1 : w30.cell? ⟨gb288, 1, none⟩ = some (.int .i64 0) := (blk_cell BK288.out 1).trans rfl; have hfz31_0 := blk_frozen BK288.out 0; have hfz31_1 := blk_frozen BK288.out 1) | (go_at_call 12; (with_reducible refine (gangerlaw02_known.calls kj14  t289 _ A28.out).mono ?_); rintro e w32 ⟨rfl, hb⟩; have n0_ := Aside0.mk (blk_below (g := gb288) (o := .cells #[.int .i64 t285, .int .i64 t286] 37 (0, 0)) (by (with_reducible repeat (first | refine blk_drewN ?_ _ | refine blk_drew ?_ | refine blk_alloc ?_ _)); refine blk_put (cs := #[.int .i64 t285, .int .i64 0]) ?_ 1 _ rfl; (with_reducible repeat (first | refine blk_drewN ?_ _ | refine blk_drew ?_ | refine blk_alloc ?_ _)); refine blk_put (cs := #[.int .i64 0, .int .i64 0]) ?_ 0 _ rfl; (with_reducible repeat (first | refine blk_drewN ?_ _ | refine blk_drew ?_ | refine blk_alloc ?_ _)); exact BK288.out) hb); have n1_ := Aside0.mk (below_step (by repeat (first | (with_reducible first | exact HB.out | apply below_alloc | apply pw_below_drewN | apply below_drew1 | refine below_set ?_ GE288.out) | exact HB.out)) hb); clear BK288; clear HB; have BK288 := n0_; have HB := n1_; clear n0_ n1_; (try clear hb); (try clear hb2); (try clear hk); (try clear hi)))
                          go_ret
                          exact ⟨by first | rfl | (simp [errW_none, errW_some] <;> rfl) | (simp [*, errW_none, errW_some] <;> rfl), by repeat (first | (with_reducible first | exact HB.out | apply below_alloc | apply pw_below_drewN | apply below_drew1 | refine below_set ?_ GE288.out) | exact HB.out)⟩
                        · rw [if_neg c27] at H
                          exact absurd H (by simp)
                      · rw [if_neg c26] at H
                        exact absurd H (by simp)
                    · rw [if_neg c25] at H
                      exact absurd H (by simp)

/-- THE ONE PURE STATEMENT of gangerlaw02_DecayEnds: yours. -/
def gangerlaw02_DecayEnds.Pure : Prop := ∀ (a0 : Int) (a1 : Int) (a2 : Int), (Lit.int .i64 a0).wf = true → (Lit.int .i64 a1).wf = true → (Lit.int .i64 a2).wf = true → ∃ k, gangerlaw02_DecayEnds.f k a0 a1 a2 = some true
theorem gangerlaw02_DecayEnds.walk (P : gangerlaw02_DecayEnds.Pure) (a0 : Int) (a1 : Int) (a2 : Int) (w : World) (w0 : (Lit.int .i64 a0).wf = true) (w1 : (Lit.int .i64 a1).wf = true) (w2 : (Lit.int .i64 a2).wf = true) :
    Calls Try.prog 8 #[.int .i64 a0, .int .i64 a1, .int .i64 a2] w fun e w' => e = .returned (.bool true) ∧ Below w.heap.size w w' := by
  obtain ⟨k, h⟩ := P a0 a1 a2 w0 w1 w2
  refine (gangerlaw02_DecayEnds.calls k a0 a1 a2 true w h).mono ?_
  rintro e w' ⟨rfl, hd⟩
  exact ⟨rfl, hd⟩

/-! ### gangerlaw02_DecayPays: function 9 -/
def gangerlaw02_DecayPays.j0 : Nat → Int → Int → Int → Int → Int → Bool → Option (Bool)
  | 0, _, _, _, _, _, _ => none
  | k + 1, x0, x1, x2, x3, x4, x30 => if x30 = true then ((gangerlaw02_known.f k).bind fun t290 => (some t290)) else ((decay_Charge.f k 0 0 (wrap64 (x1)) (wrap64 (x0)) x4).bind fun bt291 => ((decay_Charge.f k 0 0 (wrap64 ((wrap64 (x1)) + (wrap64 (x2)))) (wrap64 (x0)) x4).bind fun bt295 => ((decay_Charge.f k bt291.1 bt291.2.1 (wrap64 ((wrap64 ((wrap64 (x1)) + (wrap64 (x2)))) + (wrap64 (x3)))) 0 x4).bind fun bt299 => ((decay_Charge.f k bt295.1 bt295.2.1 (wrap64 ((wrap64 ((wrap64 (x1)) + (wrap64 (x2)))) + (wrap64 (x3)))) 0 x4).bind fun bt303 => ((decay_Charge.f k bt291.1 bt291.2.1 (wrap64 (x1)) (wrap64 (x2)) x4).bind fun bt307 => ((decay_Charge.f k 0 0 (wrap64 (x1)) (wrap64 ((wrap64 (x0)) + (wrap64 (x2)))) x4).bind fun bt311 => (if bt291.2.2 = 0 then (if bt295.2.2 = 0 then (if bt299.2.2 = 0 then (if bt303.2.2 = 0 then (if bt307.2.2 = 0 then (if bt311.2.2 = 0 then (if bt299.1 ≤ bt303.1 then (if bt299.2.1 = (wrap64 ((wrap64 ((wrap64 (x1)) + (wrap64 (x2)))) + (wrap64 (x3)))) then (if bt303.2.1 = (wrap64 ((wrap64 ((wrap64 (x1)) + (wrap64 (x2)))) + (wrap64 (x3)))) then (if (bt307.1 == bt311.1 && (bt307.2.1 == bt311.2.1)) = true then ((gangerlaw02_known.f k).bind fun t315 => (some t315)) else (none)) else (none)) else (none)) else (none)) else (none)) else (none)) else (none)) else (none)) else (none)) else (none))))))))
def gangerlaw02_DecayPays.f (k : Nat) (a0 : Int) (a1 : Int) (a2 : Int) (a3 : Int) (a4 : Int) : Option (Bool) := if a4 < 1 then (gangerlaw02_DecayPays.j0 k a0 a1 a2 a3 a4 true) else (gangerlaw02_DecayPays.j0 k a0 a1 a2 a3 a4 (decide (a4 > 1099511627776)))
theorem gangerlaw02_DecayPays.mono_l : ∀ k, (∀ y0 y1 y2 y3 y4 y5, LeO (gangerlaw02_DecayPays.j0 k y0 y1 y2 y3 y4 y5) (gangerlaw02_DecayPays.j0 (k + 1) y0 y1 y2 y3 y4 y5))
  | 0 => fun _ _ _ _ _ _ r h => by simp [gangerlaw02_DecayPays.j0] at h
  | k + 1 => by
    have ih0 := gangerlaw02_DecayPays.mono_l k
    · intro y0 y1 y2 y3 y4 y5
      unfold gangerlaw02_DecayPays.j0
      repeat' first
      | (with_reducible exact ih0 _ _ _ _ _ _)
      | (with_reducible exact decay_Charge.mono _ _ _ _ _ _)
      | (with_reducible exact gangerlaw02_known.mono _)
      | (with_reducible exact LeO.refl _)
      | (with_reducible exact LeO.none _)
      | (with_reducible refine LeO.ite ?_ ?_)
      | (with_reducible refine LeO.bind ?_ (fun _ => ?_))
      | exact ih0 _ _ _ _ _ _
      | exact decay_Charge.mono _ _ _ _ _ _
      | exact gangerlaw02_known.mono _
      | exact LeO.none _
      | refine LeO.ite ?_ ?_
      | refine LeO.bind ?_ (fun _ => ?_)
theorem gangerlaw02_DecayPays.mono : ∀ a0 a1 a2 a3 a4 k, LeO (gangerlaw02_DecayPays.f k a0 a1 a2 a3 a4) (gangerlaw02_DecayPays.f (k + 1) a0 a1 a2 a3 a4) := by
  intro a0 a1 a2 a3 a4 k
  have ih0 := gangerlaw02_DecayPays.mono_l k
  unfold gangerlaw02_DecayPays.f
  repeat' first
      | (with_reducible exact ih0 _ _ _ _ _ _)
      | (with_reducible exact decay_Charge.mono _ _ _ _ _ _)
      | (with_reducible exact gangerlaw02_known.mono _)
      | (with_reducible exact LeO.refl _)
      | (with_reducible exact LeO.none _)
      | (with_reducible refine LeO.ite ?_ ?_)
      | (with_reducible refine LeO.bind ?_ (fun _ => ?_))
      | exact ih0 _ _ _ _ _ _
      | exact decay_Charge.mono _ _ _ _ _ _
      | exact gangerlaw02_known.mono _
      | exact LeO.none _
      | refine LeO.ite ?_ ?_
      | refine LeO.bind ?_ (fun _ => ?_)
set_option maxHeartbeats 8000000 in
set_option maxRecDepth 100000 in
theorem gangerlaw02_DecayPays.calls (k : Nat) (a0 : Int) (a1 : Int) (a2 : Int) (a3 : Int) (a4 : Int) (r : Bool) (w : World) (h : gangerlaw02_DecayPays.f k a0 a1 a2 a3 a4 = some r) :
    Calls Try.prog 9 #[.int .u32 a0, .int .u32 a1, .int .u32 a2, .int .u32 a3, .int .i64 a4] w fun e w' => e = .returned (.bool r) ∧ Below w.heap.size w w' := by
  have hu37 := Try.underlying37
  have HB := Aside0.mk (Below.refl w.heap.size w)
  have H : (if a4 < 1 then (gangerlaw02_DecayPays.j0 k a0 a1 a2 a3 a4 true) else (gangerlaw02_DecayPays.j0 k a0 a1 a2 a3 a4 (decide (a4 > 1099511627776)))) = some r := h
  clear h
  have HC6 := Aside0.mk H
  clear H
  go_enter Try.func9, Try.ntmps9
  go_upto_region 1 with (fail)
  go_cut [30] (fun v30 wc => ∃ (kq : Nat) (x30_5 : Bool), v30 = .bool x30_5 ∧ Aside0 (gangerlaw02_DecayPays.j0 kq a0 a1 a2 a3 a4 x30_5 = some r) ∧ Aside0 (kq ≤ k) ∧ Aside0 (Below w.heap.size w wc))
  case first =>
    have H := HC6.out
    clear HC6
    by_cases c7 : a4 < 1
    · rw [if_pos c7] at H
      have c7b0 : decide (a4 < 1) = true := decide_eq_true c7
      clear c7
      (first | rw [c7b0] | (simp only [i64_w, i32_w]; rw [c7b0]) | skip)
      have H' := Aside0.mk H
      clear H
      go_wp2
      go_meet
      case rel => exact ⟨_, (true), (by first | rfl | (simp; done) | (simp [*]; done)), H', ⟨by first | omega | exact Nat.le_refl _⟩, ⟨by repeat (first | (with_reducible first | exact HB.out | apply below_alloc | apply pw_below_drewN | apply below_drew1) | exact HB.out)⟩⟩
    · rw [if_neg c7] at H
      have c7b0 : decide (a4 < 1) = false := decide_eq_false c7
      clear c7
      (first | rw [c7b0] | (simp only [i64_w, i32_w]; rw [c7b0]) | skip)
      have H' := Aside0.mk H
      clear H
      go_wp2
      go_meet
      case rel => exact ⟨_, (decide (a4 > 1099511627776)), (by first | rfl | (simp; done) | (simp [*]; done)), H', ⟨by first | omega | exact Nat.le_refl _⟩, ⟨by repeat (first | (with_reducible first | exact HB.out | apply below_alloc | apply pw_below_drewN | apply below_drew1) | exact HB.out)⟩⟩
  case rest =>
    clear HC6
    try clear p2
    try clear c7
    try clear c7b0
    obtain ⟨kq, x30_5, rfl, HA, HJ5, HB⟩ := hcut
    cases kq with
    | zero => exact absurd HA.out (by simp [gangerlaw02_DecayPays.j0])
    | succ kj5 =>
      have H := HA.out
      clear HA
      simp only [gangerlaw02_DecayPays.j0] at H
      by_cases c8 : x30_5 = true
      · subst c8
        have H1 : ((gangerlaw02_known.f kj5).bind fun t290 => (some t290)) = some r := by rw [if_pos rfl] at H; exact H
        clear H
        have H := H1
        clear H1
        replace H := Option.bind_eq_some_iff.mp H
        obtain ⟨t290, A90, H⟩ := H
        replace H : (some t290) = some r := H
        have A9 := Aside0.mk A90
        clear A90
        obtain rfl := Option.some.inj H
        go_wp2_with (first | ((with_reducible refine gate_callee (f := 12) rfl ?_); refine goesL_ (some 31) rfl rfl Try.func12 (by kernel_rfl) rfl #[] rfl (by (try simp only [List.map_toArray, List.map_cons, List.map_nil]); first | done | rfl | (simp only [List.length_drop, List.length_take]; rfl)) ?_; (with_reducible refine (gangerlaw02_known.calls kj5  t290 _ A9.out).mono ?_); rintro e w10 ⟨rfl, hb⟩; refine ⟨_, rfl, ?_⟩; have n0_ := Aside0.mk (below_step (by repeat (first | (with_reducible first | exact HB.out | apply below_alloc | apply pw_below_drewN | apply below_drew1) | exact HB.out)) hb); clear HB; have HB := n0_; clear n0_; (try clear hb); (try clear hb2); (try clear hk); (try clear hi)))
        go_ret
        exact ⟨by first | rfl | (simp [errW_none, errW_some] <;> rfl) | (simp [*, errW_none, errW_some] <;> rfl), by repeat (first | (with_reducible first | exact HB.out | apply below_alloc | apply pw_below_drewN | apply below_drew1) | exact HB.out)⟩
      · replace c8 := Bool.eq_false_iff.mpr c8
        subst c8
        have H1 : ((decay_Charge.f kj5 0 0 (wrap64 (a1)) (wrap64 (a0)) a4).bind fun bt291 => ((decay_Charge.f kj5 0 0 (wrap64 ((wrap64 (a1)) + (wrap64 (a2)))) (wrap64 (a0)) a4).bind fun bt295 => ((decay_Charge.f kj5 bt291.1 bt291.2.1 (wrap64 ((wrap64 ((wrap64 (a1)) + (wrap64 (a2)))) + (wrap64 (a3)))) 0 a4).bind fun bt299 => ((decay_Charge.f kj5 bt295.1 bt295.2.1 (wrap64 ((wrap64 ((wrap64 (a1)) + (wrap64 (a2)))) + (wrap64 (a3)))) 0 a4).bind fun bt303 => ((decay_Charge.f kj5 bt291.1 bt291.2.1 (wrap64 (a1)) (wrap64 (a2)) a4).bind fun bt307 => ((decay_Charge.f kj5 0 0 (wrap64 (a1)) (wrap64 ((wrap64 (a0)) + (wrap64 (a2)))) a4).bind fun bt311 => (if bt291.2.2 = 0 then (if bt295.2.2 = 0 then (if bt299.2.2 = 0 then (if bt303.2.2 = 0 then (if bt307.2.2 = 0 then (if bt311.2.2 = 0 then (if bt299.1 ≤ bt303.1 then (if bt299.2.1 = (wrap64 ((wrap64 ((wrap64 (a1)) + (wrap64 (a2)))) + (wrap64 (a3)))) then (if bt303.2.1 = (wrap64 ((wrap64 ((wrap64 (a1)) + (wrap64 (a2)))) + (wrap64 (a3)))) then (if (bt307.1 == bt311.1 && (bt307.2.1 == bt311.2.1)) = true then ((gangerlaw02_known.f kj5).bind fun t315 => (some t315)) else (none)) else (none)) else (none)) else (none)) else (none)) else (none)) else (none)) else (none)) else (none)) else (none)))))))) = some r := by rw [if_neg (show ¬ (false = true) by decide)] at H; exact H
        clear H
        have H := H1
        clear H1
        replace H := Option.bind_eq_some_iff.mp H
        obtain ⟨⟨t291, t292, t293⟩, A110, H⟩ := H
        replace H : ((decay_Charge.f kj5 0 0 (wrap64 ((wrap64 (a1)) + (wrap64 (a2)))) (wrap64 (a0)) a4).bind fun bt295 => ((decay_Charge.f kj5 t291 t292 (wrap64 ((wrap64 ((wrap64 (a1)) + (wrap64 (a2)))) + (wrap64 (a3)))) 0 a4).bind fun bt299 => ((decay_Charge.f kj5 bt295.1 bt295.2.1 (wrap64 ((wrap64 ((wrap64 (a1)) + (wrap64 (a2)))) + (wrap64 (a3)))) 0 a4).bind fun bt303 => ((decay_Charge.f kj5 t291 t292 (wrap64 (a1)) (wrap64 (a2)) a4).bind fun bt307 => ((decay_Charge.f kj5 0 0 (wrap64 (a1)) (wrap64 ((wrap64 (a0)) + (wrap64 (a2)))) a4).bind fun bt311 => (if t293 = 0 then (if bt295.2.2 = 0 then (if bt299.2.2 = 0 then (if bt303.2.2 = 0 then (if bt307.2.2 = 0 then (if bt311.2.2 = 0 then (if bt299.1 ≤ bt303.1 then (if bt299.2.1 = (wrap64 ((wrap64 ((wrap64 (a1)) + (wrap64 (a2)))) + (wrap64 (a3)))) then (if bt303.2.1 = (wrap64 ((wrap64 ((wrap64 (a1)) + (wrap64 (a2)))) + (wrap64 (a3)))) then (if (bt307.1 == bt311.1 && (bt307.2.1 == bt311.2.1)) = true then ((gangerlaw02_known.f kj5).bind fun t315 => (some t315)) else (none)) else (none)) else (none)) else (none)) else (none)) else (none)) else (none)) else (none)) else (none)) else (none))))))) = some r := H
        have A11 := Aside0.mk A110
        clear A110
        replace H := Option.bind_eq_some_iff.mp H
        obtain ⟨⟨t295, t296, t297⟩, A120, H⟩ := H
        replace H : ((decay_Charge.f kj5 t291 t292 (wrap64 ((wrap64 ((wrap64 (a1)) + (wrap64 (a2)))) + (wrap64 (a3)))) 0 a4).bind fun bt299 => ((decay_Charge.f kj5 t295 t296 (wrap64 ((wrap64 ((wrap64 (a1)) + (wrap64 (a2)))) + (wrap64 (a3)))) 0 a4).bind fun bt303 => ((decay_Charge.f kj5 t291 t292 (wrap64 (a1)) (wrap64 (a2)) a4).bind fun bt307 => ((decay_Charge.f kj5 0 0 (wrap64 (a1)) (wrap64 ((wrap64 (a0)) + (wrap64 (a2)))) a4).bind fun bt311 => (if t293 = 0 then (if t297 = 0 then (if bt299.2.2 = 0 then (if bt303.2.2 = 0 then (if bt307.2.2 = 0 then (if bt311.2.2 = 0 then (if bt299.1 ≤ bt303.1 then (if bt299.2.1 = (wrap64 ((wrap64 ((wrap64 (a1)) + (wrap64 (a2)))) + (wrap64 (a3)))) then (if bt303.2.1 = (wrap64 ((wrap64 ((wrap64 (a1)) + (wrap64 (a2)))) + (wrap64 (a3)))) then (if (bt307.1 == bt311.1 && (bt307.2.1 == bt311.2.1)) = true then ((gangerlaw02_known.f kj5).bind fun t315 => (some t315)) else (none)) else (none)) else (none)) else (none)) else (none)) else (none)) else (none)) else (none)) else (none)) else (none)))))) = some r := H
        have A12 := Aside0.mk A120
        clear A120
        replace H := Option.bind_eq_some_iff.mp H
        obtain ⟨⟨t299, t300, t301⟩, A130, H⟩ := H
        replace H : ((decay_Charge.f kj5 t295 t296 (wrap64 ((wrap64 ((wrap64 (a1)) + (wrap64 (a2)))) + (wrap64 (a3)))) 0 a4).bind fun bt303 => ((decay_Charge.f kj5 t291 t292 (wrap64 (a1)) (wrap64 (a2)) a4).bind fun bt307 => ((decay_Charge.f kj5 0 0 (wrap64 (a1)) (wrap64 ((wrap64 (a0)) + (wrap64 (a2)))) a4).bind fun bt311 => (if t293 = 0 then (if t297 = 0 then (if t301 = 0 then (if bt303.2.2 = 0 then (if bt307.2.2 = 0 then (if bt311.2.2 = 0 then (if t299 ≤ bt303.1 then (if t300 = (wrap64 ((wrap64 ((wrap64 (a1)) + (wrap64 (a2)))) + (wrap64 (a3)))) then (if bt303.2.1 = (wrap64 ((wrap64 ((wrap64 (a1)) + (wrap64 (a2)))) + (wrap64 (a3)))) then (if (bt307.1 == bt311.1 && (bt307.2.1 == bt311.2.1)) = true then ((gangerlaw02_known.f kj5).bind fun t315 => (some t315)) else (none)) else (none)) else (none)) else (none)) else (none)) else (none)) else (none)) else (none)) else (none)) else (none))))) = some r := H
        have A13 := Aside0.mk A130
        clear A130
        replace H := Option.bind_eq_some_iff.mp H
        obtain ⟨⟨t303, t304, t305⟩, A140, H⟩ := H
        replace H : ((decay_Charge.f kj5 t291 t292 (wrap64 (a1)) (wrap64 (a2)) a4).bind fun bt307 => ((decay_Charge.f kj5 0 0 (wrap64 (a1)) (wrap64 ((wrap64 (a0)) + (wrap64 (a2)))) a4).bind fun bt311 => (if t293 = 0 then (if t297 = 0 then (if t301 = 0 then (if t305 = 0 then (if bt307.2.2 = 0 then (if bt311.2.2 = 0 then (if t299 ≤ t303 then (if t300 = (wrap64 ((wrap64 ((wrap64 (a1)) + (wrap64 (a2)))) + (wrap64 (a3)))) then (if t304 = (wrap64 ((wrap64 ((wrap64 (a1)) + (wrap64 (a2)))) + (wrap64 (a3)))) then (if (bt307.1 == bt311.1 && (bt307.2.1 == bt311.2.1)) = true then ((gangerlaw02_known.f kj5).bind fun t315 => (some t315)) else (none)) else (none)) else (none)) else (none)) else (none)) else (none)) else (none)) else (none)) else (none)) else (none)))) = some r := H
        have A14 := Aside0.mk A140
        clear A140
        replace H := Option.bind_eq_some_iff.mp H
        obtain ⟨⟨t307, t308, t309⟩, A150, H⟩ := H
        replace H : ((decay_Charge.f kj5 0 0 (wrap64 (a1)) (wrap64 ((wrap64 (a0)) + (wrap64 (a2)))) a4).bind fun bt311 => (if t293 = 0 then (if t297 = 0 then (if t301 = 0 then (if t305 = 0 then (if t309 = 0 then (if bt311.2.2 = 0 then (if t299 ≤ t303 then (if t300 = (wrap64 ((wrap64 ((wrap64 (a1)) + (wrap64 (a2)))) + (wrap64 (a3)))) then (if t304 = (wrap64 ((wrap64 ((wrap64 (a1)) + (wrap64 (a2)))) + (wrap64 (a3)))) then (if (t307 == bt311.1 && (t308 == bt311.2.1)) = true then ((gangerlaw02_known.f kj5).bind fun t315 => (some t315)) else (none)) else (none)) else (none)) else (none)) else (none)) else (none)) else (none)) else (none)) else (none)) else (none))) = some r := H
        have A15 := Aside0.mk A150
        clear A150
        replace H := Option.bind_eq_some_iff.mp H
        obtain ⟨⟨t311, t312, t313⟩, A160, H⟩ := H
        replace H : (if t293 = 0 then (if t297 = 0 then (if t301 = 0 then (if t305 = 0 then (if t309 = 0 then (if t313 = 0 then (if t299 ≤ t303 then (if t300 = (wrap64 ((wrap64 ((wrap64 (a1)) + (wrap64 (a2)))) + (wrap64 (a3)))) then (if t304 = (wrap64 ((wrap64 ((wrap64 (a1)) + (wrap64 (a2)))) + (wrap64 (a3)))) then (if (t307 == t311 && (t308 == t312)) = true then ((gangerlaw02_known.f kj5).bind fun t315 => (some t315)) else (none)) else (none)) else (none)) else (none)) else (none)) else (none)) else (none)) else (none)) else (none)) else (none)) = some r := H
        have A16 := Aside0.mk A160
        clear A160
        by_cases c17 : t293 = 0
        · rw [if_pos c17] at H
          have c17b0 : (t293 == 0) = true := beq_iff_eq.mpr c17
          have c17b1 : (t293 != 0) = false := bne_eq_false_iff_eq.mpr c17
          clear c17
          by_cases c18 : t297 = 0
          · rw [if_pos c18] at H
            have c18b0 : (t297 == 0) = true := beq_iff_eq.mpr c18
            have c18b1 : (t297 != 0) = false := bne_eq_false_iff_eq.mpr c18
            clear c18
            by_cases c19 : t301 = 0
            · rw [if_pos c19] at H
              have c19b0 : (t301 == 0) = true := beq_iff_eq.mpr c19
              have c19b1 : (t301 != 0) = false := bne_eq_false_iff_eq.mpr c19
              clear c19
              by_cases c20 : t305 = 0
              · rw [if_pos c20] at H
                have c20b0 : (t305 == 0) = true := beq_iff_eq.mpr c20
                have c20b1 : (t305 != 0) = false := bne_eq_false_iff_eq.mpr c20
                clear c20
                by_cases c21 : t309 = 0
                · rw [if_pos c21] at H
                  have c21b0 : (t309 == 0) = true := beq_iff_eq.mpr c21
                  have c21b1 : (t309 != 0) = false := bne_eq_false_iff_eq.mpr c21
                  clear c21
                  by_cases c22 : t313 = 0
                  · rw [if_pos c22] at H
                    have c22b0 : (t313 == 0) = true := beq_iff_eq.mpr c22
                    have c22b1 : (t313 != 0) = false := bne_eq_false_iff_eq.mpr c22
                    clear c22
                    by_cases c23 : t299 ≤ t303
                    · rw [if_pos c23] at H
                      have c23b0 : decide (t299 ≤ t303) = true := decide_eq_true c23
                      clear c23
                      by_cases c24 : t300 = (wrap64 ((wrap64 ((wrap64 (a1)) + (wrap64 (a2)))) + (wrap64 (a3))))
                      · rw [if_pos c24] at H
                        have c24b0 : (t300 == (wrap64 ((wrap64 ((wrap64 (a1)) + (wrap64 (a2)))) + (wrap64 (a3))))) = true := beq_iff_eq.mpr c24
                        have c24b1 : (t300 != (wrap64 ((wrap64 ((wrap64 (a1)) + (wrap64 (a2)))) + (wrap64 (a3))))) = false := bne_eq_false_iff_eq.mpr c24
                        clear c24
                        by_cases c25 : t304 = (wrap64 ((wrap64 ((wrap64 (a1)) + (wrap64 (a2)))) + (wrap64 (a3))))
                        · rw [if_pos c25] at H
                          have c25b0 : (t304 == (wrap64 ((wrap64 ((wrap64 (a1)) + (wrap64 (a2)))) + (wrap64 (a3))))) = true := beq_iff_eq.mpr c25
                          have c25b1 : (t304 != (wrap64 ((wrap64 ((wrap64 (a1)) + (wrap64 (a2)))) + (wrap64 (a3))))) = false := bne_eq_false_iff_eq.mpr c25
                          clear c25
                          by_cases c26 : (t307 == t311 && (t308 == t312)) = true
                          · rw [if_pos c26] at H
                            have c26b0 : (t307 == t311 && (t308 == t312)) = true := c26
                            (try (have c26b1 : decide (t307 = t311 && (t308 == t312)) = true := by simpa using c26))
                            (try (have c26b2 : (t307 == t311 && (t308 == t312)) = true := by simpa using c26))
                            clear c26
                            replace H := Option.bind_eq_some_iff.mp H
                            obtain ⟨t315, A270, H⟩ := H
                            replace H : (some t315) = some r := H
                            have A27 := Aside0.mk A270
                            clear A270
                            obtain rfl := Option.some.inj H
                            go_wp2_with (first | ((with_reducible refine gate_callee (f := 17) rfl ?_); refine goesL_ (some 39) rfl rfl Try.func17 (by kernel_rfl) rfl #[.agg #[.int .i64 0, .int .i64 0], .int .i64 (wrap64 (a1)), .int .i64 (wrap64 (a0)), .int .i64 a4] rfl (by (try simp only [List.map_toArray, List.map_cons, List.map_nil]); first | done | rfl | (simp only [List.length_drop, List.length_take]; rfl)) ?_; (with_reducible refine (decay_Charge.calls kj5 0 0 (wrap64 (a1)) (wrap64 (a0)) a4 t291 t292 t293 _ A11.out).mono ?_); rintro e w28 ⟨rfl, hb⟩; refine ⟨_, rfl, ?_⟩; have n0_ := Aside0.mk (below_step (by repeat (first | (with_reducible first | exact HB.out | apply below_alloc | apply pw_below_drewN | apply below_drew1) | exact HB.out)) hb); clear HB; have HB := n0_; clear n0_; (try clear hb); (try clear hb2); (try clear hk); (try clear hi)) | ((with_reducible refine gate_dst (N := 11) rfl ?_); refine box_event ?hg (N := 11) ?hd (cs := #[.int .i64 0, .int .i64 0]) (t := 37) ?hr ?_; (case hd => rfl); (case hg => rfl); (case hr => first | (go_simp; done) | (go_simp; rfl)); intro gb294 hg w29 hbox hb; have n0_ := Aside0.mk (below_step (by repeat (first | (with_reducible first | exact HB.out | apply below_alloc | apply pw_below_drewN | apply below_drew1) | exact HB.out)) hb); have n1_ := Aside0.mk (hbox); have n2_ := Aside0.mk ((by rw [hg]; exact (below_size (by repeat (first | (with_reducible first | exact HB.out | apply below_alloc | apply pw_below_drewN | apply below_drew1) | exact HB.out))) : w.heap.size ≤ gb294)); have n3_ := Aside0.mk ((by rw [hg]; exact (below_size (by repeat (first | (with_reducible first | exact HB.out | apply below_alloc | apply pw_below_drewN | apply below_drew1) | exact HB.out))) : w.heap.size ≤ gb294)); clear HB; have HB := n0_; have BK294 := n1_; have GW294 := n2_; have GE294 := n3_; clear n0_ n1_ n2_ n3_; clear hb hbox hg; have hcz30_0 : w29.cell? ⟨gb294, 0, none⟩ = some (.int .i64 0) := (blk_cell BK294.out 0).trans rfl; have hcz30_1 : w29.cell? ⟨gb294, 1, none⟩ = some (.int .i64 0) := (blk_cell BK294.out 1).trans rfl; have hfz30_0 := blk_frozen BK294.out 0; have hfz30_1 := blk_frozen BK294.out 1) | ((with_reducible refine gate_callee (f := 17) rfl ?_); refine goesL_ (some 52) rfl rfl Try.func17 (by kernel_rfl) rfl #[.agg #[.int .i64 0, .int .i64 0], .int .i64 (wrap64 ((wrap64 (a1)) + (wrap64 (a2)))), .int .i64 (wrap64 (a0)), .int .i64 a4] rfl (by (try simp only [List.map_toArray, List.map_cons, List.map_nil]); first | done | rfl | (simp only [List.length_drop, List.length_take]; rfl)) ?_; (with_reducible refine (decay_Charge.calls kj5 0 0 (wrap64 ((wrap64 (a1)) + (wrap64 (a2)))) (wrap64 (a0)) a4 t295 t296 t297 _ A12.out).mono ?_); rintro e w31 ⟨rfl, hb⟩; refine ⟨_, rfl, ?_⟩; have n0_ := Aside0.mk (blk_below (g := gb294) (o := .cells #[.int .i64 t291, .int .i64 t292] 37 (0, 0)) (by (with_reducible repeat (first | refine blk_drewN ?_ _ | refine blk_drew ?_ | refine blk_alloc ?_ _)); refine blk_put (cs := #[.int .i64 t291, .int .i64 0]) ?_ 1 _ rfl; (with_reducible repeat (first | refine blk_drewN ?_ _ | refine blk_drew ?_ | refine blk_alloc ?_ _)); refine blk_put (cs := #[.int .i64 0, .int .i64 0]) ?_ 0 _ rfl; (with_reducible repeat (first | refine blk_drewN ?_ _ | refine blk_drew ?_ | refine blk_alloc ?_ _)); exact BK294.out) hb); have n1_ := Aside0.mk (below_step (by repeat (first | (with_reducible first | exact HB.out | apply below_alloc | apply pw_below_drewN | apply below_drew1 | refine below_set ?_ GE294.out) | exact HB.out)) hb); clear BK294; clear HB; have BK294 := n0_; have HB := n1_; clear n0_ n1_; (try clear hb); (try clear hb2); (try clear hk); (try clear hi)) | ((with_reducible refine gate_dst (N := 13) rfl ?_); refine box_event ?hg (N := 13) ?hd (cs := #[.int .i64 0, .int .i64 0]) (t := 37) ?hr ?_; (case hd => rfl); (case hg => rfl); (case hr => first | (go_simp; done) | (go_simp; rfl)); intro gb298 hg w32 hbox hb; have n0_ := Aside0.mk (blk_below (g := gb294) (o := .cells #[.int .i64 t291, .int .i64 t292] 37 (0, 0)) (by (with_reducible repeat (first | refine blk_drewN ?_ _ | refine blk_drew ?_ | refine blk_alloc ?_ _)); exact BK294.out) hb); have n1_ := Aside0.mk (below_step (by repeat (first | (with_reducible first | exact HB.out | apply below_alloc | apply pw_below_drewN | apply below_drew1 | refine below_set ?_ GE294.out) | exact HB.out)) hb); have n2_ := Aside0.mk (hbox); have n3_ := Aside0.mk ((by rw [hg]; exact (below_size (by repeat (first | (with_reducible first | exact HB.out | apply below_alloc | apply pw_below_drewN | apply below_drew1 | refine below_set ?_ GE294.out) | exact HB.out))) : w.heap.size ≤ gb298)); have n4_ := Aside0.mk ((by rw [hg]; exact (below_size (by repeat (first | (with_reducible first | exact HB.out | apply below_alloc | apply pw_below_drewN | apply below_drew1 | refine below_set ?_ GE294.out) | exact HB.out))) : w.heap.size ≤ gb298)); have n5_ := Aside0.mk ((by rw [hg]; exact Nat.ne_of_lt (blk_lt (g := gb294) (o := .cells #[.int .i64 t291, .int .i64 t292] 37 (0, 0)) (by (with_reducible repeat (first | refine blk_drewN ?_ _ | refine blk_drew ?_ | refine blk_alloc ?_ _)); exact BK294.out)) : gb294 ≠ gb298)); have n6_ := Aside0.mk ((by rw [hg]; exact Nat.ne_of_gt (blk_lt (g := gb294) (o := .cells #[.int .i64 t291, .int .i64 t292] 37 (0, 0)) (by (with_reducible repeat (first | refine blk_drewN ?_ _ | refine blk_drew ?_ | refine blk_alloc ?_ _)); exact BK294.out)) : gb298 ≠ gb294)); clear BK294; clear HB; have BK294 := n0_; have HB := n1_; have BK298 := n2_; have GW298 := n3_; have GE298 := n4_; have NB294_298 := n5_; have NB298_294 := n6_; clear n0_ n1_ n2_ n3_ n4_ n5_ n6_; clear hb hbox hg; have hnb33 := NB298_294.out; have hnc33 := NB294_298.out; have hcz34_0 : w32.cell? ⟨gb298, 0, none⟩ = some (.int .i64 0) := (blk_cell BK298.out 0).trans rfl; have hcz34_1 : w32.cell? ⟨gb298, 1, none⟩ = some (.int .i64 0) := (blk_cell BK298.out 1).trans rfl; have hfz34_0 := blk_frozen BK298.out 0; have hfz34_1 := blk_frozen BK298.out 1; have hcz35_0 : w32.cell? ⟨gb294, 0, none⟩ = some (.int .i64 t291) := (blk_cell BK294.out 0).trans rfl; have hcz35_1 : w32.cell? ⟨gb294, 1, none⟩ = some (.int .i64 t292) := (blk_cell BK294.out 1).trans rfl; have hfz35_0 := blk_frozen BK294.out 0; have hfz35_1 := blk_frozen BK294.out 1) | ((with_reducible refine gate_callee (f := 17) rfl ?_); refine goesL_ (some 67) rfl rfl Try.func17 (by kernel_rfl) rfl #[.agg #[.int .i64 t291, .int .i64 t292], .int .i64 (wrap64 ((wrap64 ((wrap64 (a1)) + (wrap64 (a2)))) + (wrap64 (a3)))), .int .i64 0, .int .i64 a4] rfl (by (try simp only [List.map_toArray, List.map_cons, List.map_nil]); first | done | rfl | (simp only [List.length_drop, List.length_take]; rfl)) ?_; (with_reducible refine (decay_Charge.calls kj5 t291 t292 (wrap64 ((wrap64 ((wrap64 (a1)) + (wrap64 (a2)))) + (wrap64 (a3)))) 0 a4 t299 t300 t301 _ A13.out).mono ?_); rintro e w36 ⟨rfl, hb⟩; refine ⟨_, rfl, ?_⟩; have n0_ := Aside0.mk (blk_below (g := gb294) (o := .cells #[.int .i64 t291, .int .i64 t292] 37 (0, 0)) (by (with_reducible repeat (first | refine blk_drewN ?_ _ | refine blk_drew ?_ | refine blk_alloc ?_ _)); refine blk_far ?_ NB294_298.out _; (with_reducible repeat (first | refine blk_drewN ?_ _ | refine blk_drew ?_ | refine blk_alloc ?_ _)); refine blk_far ?_ NB294_298.out _; (with_reducible repeat (first | refine blk_drewN ?_ _ | refine blk_drew ?_ | refine blk_alloc ?_ _)); exact BK294.out) hb); have n1_ := Aside0.mk (blk_below (g := gb298) (o := .cells #[.int .i64 t295, .int .i64 t296] 37 (0, 0)) (by (with_reducible repeat (first | refine blk_drewN ?_ _ | refine blk_drew ?_ | refine blk_alloc ?_ _)); refine blk_put (cs := #[.int .i64 t295, .int .i64 0]) ?_ 1 _ rfl; (with_reducible repeat (first | refine blk_drewN ?_ _ | refine blk_drew ?_ | refine blk_alloc ?_ _)); refine blk_put (cs := #[.int .i64 0, .int .i64 0]) ?_ 0 _ rfl; (with_reducible repeat (first | refine blk_drewN ?_ _ | refine blk_drew ?_ | refine blk_alloc ?_ _)); exact BK298.out) hb); have n2_ := Aside0.mk (below_step (by repeat (first | (with_reducible first | exact HB.out | apply below_alloc | apply pw_below_drewN | apply below_drew1 | refine below_set ?_ GE294.out | refine below_set ?_ GE298.out) | exact HB.out)) hb); clear BK294; clear BK298; clear HB; have BK294 := n0_; have BK298 := n1_; have HB := n2_; clear n0_ n1_ n2_; (try clear hb); (try clear hb2); (try clear hk); (try clear hi)) | ((with_reducible refine gate_dst (N := 16) rfl ?_); refine box_event ?hg (N := 16) ?hd (cs := #[.int .i64 0, .int .i64 0]) (t := 37) ?hr ?_; (case hd => rfl); (case hg => rfl); (case hr => first | (go_simp; done) | (go_simp; rfl)); intro gb302 hg w37 hbox hb; have n0_ := Aside0.mk (blk_below (g := gb294) (o := .cells #[.int .i64 t291, .int .i64 t292] 37 (0, 0)) (by (with_reducible repeat (first | refine blk_drewN ?_ _ | refine blk_drew ?_ | refine blk_alloc ?_ _)); exact BK294.out) hb); have n1_ := Aside0.mk (blk_below (g := gb298) (o := .cells #[.int .i64 t295, .int .i64 t296] 37 (0, 0)) (by (with_reducible repeat (first | refine blk_drewN ?_ _ | refine blk_drew ?_ | refine blk_alloc ?_ _)); exact BK298.out) hb); have n2_ := Aside0.mk (below_step (by repeat (first | (with_reducible first | exact HB.out | apply below_alloc | apply pw_below_drewN | apply below_drew1 | refine below_set ?_ GE294.out | refine below_set ?_ GE298.out) | exact HB.out)) hb); have n3_ := Aside0.mk (hbox); have n4_ := Aside0.mk ((by rw [hg]; exact (below_size (by repeat (first | (with_reducible first | exact HB.out | apply below_alloc | apply pw_below_drewN | apply below_drew1 | refine below_set ?_ GE294.out | refine below_set ?_ GE298.out) | exact HB.out))) : w.heap.size ≤ gb302)); have n5_ := Aside0.mk ((by rw [hg]; exact (below_size (by repeat (first | (with_reducible first | exact HB.out | apply below_alloc | apply pw_below_drewN | apply below_drew1 | refine below_set ?_ GE294.out | refine below_set ?_ GE298.out) | exact HB.out))) : w.heap.size ≤ gb302)); have n6_ := Aside0.mk ((by rw [hg]; exact Nat.ne_of_lt (blk_lt (g := gb294) (o := .cells #[.int .i64 t291, .int .i64 t292] 37 (0, 0)) (by (with_reducible repeat (first | refine blk_drewN ?_ _ | refine blk_drew ?_ | refine blk_alloc ?_ _)); exact BK294.out)) : gb294 ≠ gb302)); have n7_ := Aside0.mk ((by rw [hg]; exact Nat.ne_of_gt (blk_lt (g := gb294) (o := .cells #[.int .i64 t291, .int .i64 t292] 37 (0, 0)) (by (with_reducible repeat (first | refine blk_drewN ?_ _ | refine blk_drew ?_ | refine blk_alloc ?_ _)); exact BK294.out)) : gb302 ≠ gb294)); have n8_ := Aside0.mk ((by rw [hg]; exact Nat.ne_of_lt (blk_lt (g := gb298) (o := .cells #[.int .i64 t295, .int .i64 t296] 37 (0, 0)) (by (with_reducible repeat (first | refine blk_drewN ?_ _ | refine blk_drew ?_ | refine blk_alloc ?_ _)); exact BK298.out)) : gb298 ≠ gb302)); have n9_ := Aside0.mk ((by rw [hg]; exact Nat.ne_of_gt (blk_lt (g := gb298) (o := .cells #[.int .i64 t295, .int .i64 t296] 37 (0, 0)) (by (with_reducible repeat (first | refine blk_drewN ?_ _ | refine blk_drew ?_ | refine blk_alloc ?_ _)); exact BK298.out)) : gb302 ≠ gb298)); clear BK294; clear BK298; clear HB; have BK294 := n0_; have BK298 := n1_; have HB := n2_; have BK302 := n3_; have GW302 := n4_; have GE302 := n5_; have NB294_302 := n6_; have NB302_294 := n7_; have NB298_302 := n8_; have NB302_298 := n9_; clear n0_ n1_ n2_ n3_ n4_ n5_ n6_ n7_ n8_ n9_; clear hb hbox hg; have hnb38 := NB302_294.out; have hnc38 := NB294_302.out; have hnb39 := NB302_298.out; have hnc39 := NB298_302.out; have hcz40_0 : w37.cell? ⟨gb302, 0, none⟩ = some (.int .i64 0) := (blk_cell BK302.out 0).trans rfl; have hcz40_1 : w37.cell? ⟨gb302, 1, none⟩ = some (.int .i64 0) := (blk_cell BK302.out 1).trans rfl; have hfz40_0 := blk_frozen BK302.out 0; have hfz40_1 := blk_frozen BK302.out 1; have hcz41_0 : w37.cell? ⟨gb298, 0, none⟩ = some (.int .i64 t295) := (blk_cell BK298.out 0).trans rfl; have hcz41_1 : w37.cell? ⟨gb298, 1, none⟩ = some (.int .i64 t296) := (blk_cell BK298.out 1).trans rfl; have hfz41_0 := blk_frozen BK298.out 0; have hfz41_1 := blk_frozen BK298.out 1) | ((with_reducible refine gate_callee (f := 17) rfl ?_); refine goesL_ (some 74) rfl rfl Try.func17 (by kernel_rfl) rfl #[.agg #[.int .i64 t295, .int .i64 t296], .int .i64 (wrap64 ((wrap64 ((wrap64 (a1)) + (wrap64 (a2)))) + (wrap64 (a3)))), .int .i64 0, .int .i64 a4] rfl (by (try simp only [List.map_toArray, List.map_cons, List.map_nil]); first | done | rfl | (simp only [List.length_drop, List.length_take]; rfl)) ?_; (with_reducible refine (decay_Charge.calls kj5 t295 t296 (wrap64 ((wrap64 ((wrap64 (a1)) + (wrap64 (a2)))) + (wrap64 (a3)))) 0 a4 t303 t304 t305 _ A14.out).mono ?_); rintro e w42 ⟨rfl, hb⟩; refine ⟨_, rfl, ?_⟩; have n0_ := Aside0.mk (blk_below (g := gb294) (o := .cells #[.int .i64 t291, .int .i64 t292] 37 (0, 0)) (by (with_reducible repeat (first | refine blk_drewN ?_ _ | refine blk_drew ?_ | refine blk_alloc ?_ _)); refine blk_far ?_ NB294_302.out _; (with_reducible repeat (first | refine blk_drewN ?_ _ | refine blk_drew ?_ | refine blk_alloc ?_ _)); refine blk_far ?_ NB294_302.out _; (with_reducible repeat (first | refine blk_drewN ?_ _ | refine blk_drew ?_ | refine blk_alloc ?_ _)); exact BK294.out) hb); have n1_ := Aside0.mk (blk_below (g := gb298) (o := .cells #[.int .i64 t295, .int .i64 t296] 37 (0, 0)) (by (with_reducible repeat (first | refine blk_drewN ?_ _ | refine blk_drew ?_ | refine blk_alloc ?_ _)); refine blk_far ?_ NB298_302.out _; (with_reducible repeat (first | refine blk_drewN ?_ _ | refine blk_drew ?_ | refine blk_alloc ?_ _)); refine blk_far ?_ NB298_302.out _; (with_reducible repeat (first | refine blk_drewN ?_ _ | refine blk_drew ?_ | refine blk_alloc ?_ _)); exact BK298.out) hb); have n2_ := Aside0.mk (blk_below (g := gb302) (o := .cells #[.int .i64 t299, .int .i64 t300] 37 (0, 0)) (by (with_reducible repeat (first | refine blk_drewN ?_ _ | refine blk_drew ?_ | refine blk_alloc ?_ _)); refine blk_put (cs := #[.int .i64 t299, .int .i64 0]) ?_ 1 _ rfl; (with_reducible repeat (first | refine blk_drewN ?_ _ | refine blk_drew ?_ | refine blk_alloc ?_ _)); refine blk_put (cs := #[.int .i64 0, .int .i64 0]) ?_ 0 _ rfl; (with_reducible repeat (first | refine blk_drewN ?_ _ | refine blk_drew ?_ | refine blk_alloc ?_ _)); exact BK302.out) hb); have n3_ := Aside0.mk (below_step (by repeat (first | (with_reducible first | exact HB.out | apply below_alloc | apply pw_below_drewN | apply below_drew1 | refine below_set ?_ GE294.out | refine below_set ?_ GE298.out | refine below_set ?_ GE302.out) | exact HB.out)) hb); clear BK294; clear BK298; clear BK302; clear HB; have BK294 := n0_; have BK298 := n1_; have BK302 := n2_; have HB := n3_; clear n0_ n1_ n2_ n3_; (try clear hb); (try clear hb2); (try clear hk); (try clear hi)) | ((with_reducible refine gate_dst (N := 18) rfl ?_); refine box_event ?hg (N := 18) ?hd (cs := #[.int .i64 0, .int .i64 0]) (t := 37) ?hr ?_; (case hd => rfl); (case hg => rfl); (case hr => first | (go_simp; done) | (go_simp; rfl)); intro gb306 hg w43 hbox hb; have n0_ := Aside0.mk (blk_below (g := gb294) (o := .cells #[.int .i64 t291, .int .i64 t292] 37 (0, 0)) (by (with_reducible repeat (first | refine blk_drewN ?_ _ | refine blk_drew ?_ | refine blk_alloc ?_ _)); exact BK294.out) hb); have n1_ := Aside0.mk (blk_below (g := gb298) (o := .cells #[.int .i64 t295, .int .i64 t296] 37 (0, 0)) (by (with_reducible repeat (first | refine blk_drewN ?_ _ | refine blk_drew ?_ | refine blk_alloc ?_ _)); exact BK298.out) hb); have n2_ := Aside0.mk (blk_below (g := gb302) (o := .cells #[.int .i64 t299, .int .i64 t300] 37 (0, 0)) (by (with_reducible repeat (first | refine blk_drewN ?_ _ | refine blk_drew ?_ | refine blk_alloc ?_ _)); exact BK302.out) hb); have n3_ := Aside0.mk (below_step (by repeat (first | (with_reducible first | exact HB.out | apply below_alloc | apply pw_below_drewN | apply below_drew1 | refine below_set ?_ GE294.out | refine below_set ?_ GE298.out | refine below_set ?_ GE302.out) | exact HB.out)) hb); have n4_ := Aside0.mk (hbox); have n5_ := Aside0.mk ((by rw [hg]; exact (below_size (by repeat (first | (with_reducible first | exact HB.out | apply below_alloc | apply pw_below_drewN | apply below_drew1 | refine below_set ?_ GE294.out | refine below_set ?_ GE298.out | refine below_set ?_ GE302.out) | exact HB.out))) : w.heap.size ≤ gb306)); have n6_ := Aside0.mk ((by rw [hg]; exact (below_size (by repeat (first | (with_reducible first | exact HB.out | apply below_alloc | apply pw_below_drewN | apply below_drew1 | refine below_set ?_ GE294.out | refine below_set ?_ GE298.out | refine below_set ?_ GE302.out) | exact HB.out))) : w.heap.size ≤ gb306)); have n7_ := Aside0.mk ((by rw [hg]; exact Nat.ne_of_lt (blk_lt (g := gb294) (o := .cells #[.int .i64 t291, .int .i64 t292] 37 (0, 0)) (by (with_reducible repeat (first | refine blk_drewN ?_ _ | refine blk_drew ?_ | refine blk_alloc ?_ _)); exact BK294.out)) : gb294 ≠ gb306)); have n8_ := Aside0.mk ((by rw [hg]; exact Nat.ne_of_gt (blk_lt (g := gb294) (o := .cells #[.int .i64 t291, .int .i64 t292] 37 (0, 0)) (by (with_reducible repeat (first | refine blk_drewN ?_ _ | refine blk_drew ?_ | refine blk_alloc ?_ _)); exact BK294.out)) : gb306 ≠ gb294)); have n9_ := Aside0.mk ((by rw [hg]; exact Nat.ne_of_lt (blk_lt (g := gb298) (o := .cells #[.int .i64 t295, .int .i64 t296] 37 (0, 0)) (by (with_reducible repeat (first | refine blk_drewN ?_ _ | refine blk_drew ?_ | refine blk_alloc ?_ _)); exact BK298.out)) : gb298 ≠ gb306)); have n10_ := Aside0.mk ((by rw [hg]; exact Nat.ne_of_gt (blk_lt (g := gb298) (o := .cells #[.int .i64 t295, .int .i64 t296] 37 (0, 0)) (by (with_reducible repeat (first | refine blk_drewN ?_ _ | refine blk_drew ?_ | refine blk_alloc ?_ _)); exact BK298.out)) : gb306 ≠ gb298)); have n11_ := Aside0.mk ((by rw [hg]; exact Nat.ne_of_lt (blk_lt (g := gb302) (o := .cells #[.int .i64 t299, .int .i64 t300] 37 (0, 0)) (by (with_reducible repeat (first | refine blk_drewN ?_ _ | refine blk_drew ?_ | refine blk_alloc ?_ _)); exact BK302.out)) : gb302 ≠ gb306)); have n12_ := Aside0.mk ((by rw [hg]; exact Nat.ne_of_gt (blk_lt (g := gb302) (o := .cells #[.int .i64 t299, .int .i64 t300] 37 (0, 0)) (by (with_reducible repeat (first | refine blk_drewN ?_ _ | refine blk_drew ?_ | refine blk_alloc ?_ _)); exact BK302.out)) : gb306 ≠ gb302)); clear BK294; clear BK298; clear BK302; clear HB; have BK294 := n0_; have BK298 := n1_; have BK302 := n2_; have HB := n3_; have BK306 := n4_; have GW306 := n5_; have GE306 := n6_; have NB294_306 := n7_; have NB306_294 := n8_; have NB298_306 := n9_; have NB306_298 := n10_; have NB302_306 := n11_; have NB306_302 := n12_; clear n0_ n1_ n2_ n3_ n4_ n5_ n6_ n7_ n8_ n9_ n10_ n11_ n12_; clear hb hbox hg; have hnb44 := NB306_294.out; have hnc44 := NB294_306.out; have hnb45 := NB306_298.out; have hnc45 := NB298_306.out; have hnb46 := NB306_302.out; have hnc46 := NB302_306.out; have hcz47_0 : w43.cell? ⟨gb306, 0, none⟩ = some (.int .i64 0) := (blk_cell BK306.out 0).trans rfl; have hcz47_1 : w43.cell? ⟨gb306, 1, none⟩ = some (.int .i64 0) := (blk_cell BK306.out 1).trans rfl; have hfz47_0 := blk_frozen BK306.out 0; have hfz47_1 := blk_frozen BK306.out 1; have hcz48_0 : w43.cell? ⟨gb294, 0, none⟩ = some (.int .i64 t291) := (blk_cell BK294.out 0).trans rfl; have hcz48_1 : w43.cell? ⟨gb294, 1, none⟩ = some (.int .i64 t292) := (blk_cell BK294.out 1).trans rfl; have hfz48_0 := blk_frozen BK294.out 0; have hfz48_1 := blk_frozen BK294.out 1) | ((with_reducible refine gate_callee (f := 17) rfl ?_); refine goesL_ (some 84) rfl rfl Try.func17 (by kernel_rfl) rfl #[.agg #[.int .i64 t291, .int .i64 t292], .int .i64 (wrap64 (a1)), .int .i64 (wrap64 (a2)), .int .i64 a4] rfl (by (try simp only [List.map_toArray, List.map_cons, List.map_nil]); first | done | rfl | (simp only [List.length_drop, List.length_take]; rfl)) ?_; (with_reducible refine (decay_Charge.calls kj5 t291 t292 (wrap64 (a1)) (wrap64 (a2)) a4 t307 t308 t309 _ A15.out).mono ?_); rintro e w49 ⟨rfl, hb⟩; refine ⟨_, rfl, ?_⟩; have n0_ := Aside0.mk (blk_below (g := gb294) (o := .cells #[.int .i64 t291, .int .i64 t292] 37 (0, 0)) (by (with_reducible repeat (first | refine blk_drewN ?_ _ | refine blk_drew ?_ | refine blk_alloc ?_ _)); refine blk_far ?_ NB294_306.out _; (with_reducible repeat (first | refine blk_drewN ?_ _ | refine blk_drew ?_ | refine blk_alloc ?_ _)); refine blk_far ?_ NB294_306.out _; (with_reducible repeat (first | refine blk_drewN ?_ _ | refine blk_drew ?_ | refine blk_alloc ?_ _)); exact BK294.out) hb); have n1_ := Aside0.mk (blk_below (g := gb298) (o := .cells #[.int .i64 t295, .int .i64 t296] 37 (0, 0)) (by (with_reducible repeat (first | refine blk_drewN ?_ _ | refine blk_drew ?_ | refine blk_alloc ?_ _)); refine blk_far ?_ NB298_306.out _; (with_reducible repeat (first | refine blk_drewN ?_ _ | refine blk_drew ?_ | refine blk_alloc ?_ _)); refine blk_far ?_ NB298_306.out _; (with_reducible repeat (first | refine blk_drewN ?_ _ | refine blk_drew ?_ | refine blk_alloc ?_ _)); exact BK298.out) hb); have n2_ := Aside0.mk (blk_below (g := gb302) (o := .cells #[.int .i64 t299, .int .i64 t300] 37 (0, 0)) (by (with_reducible repeat (first | refine blk_drewN ?_ _ | refine blk_drew ?_ | refine blk_alloc ?_ _)); refine blk_far ?_ NB302_306.out _; (with_reducible repeat (first | refine blk_drewN ?_ _ | refine blk_drew ?_ | refine blk_alloc ?_ _)); refine blk_far ?_ NB302_306.out _; (with_reducible repeat (first | refine blk_drewN ?_ _ | refine blk_drew ?_ | refine blk_alloc ?_ _)); exact BK302.out) hb); have n3_ := Aside0.mk (blk_below (g := gb306) (o := .cells #[.int .i64 t303, .int .i64 t304] 37 (0, 0)) (by (with_reducible repeat (first | refine blk_drewN ?_ _ | refine blk_drew ?_ | refine blk_alloc ?_ _)); refine blk_put (cs := #[.int .i64 t303, .int .i64 0]) ?_ 1 _ rfl; (with_reducible repeat (first | refine blk_drewN ?_ _ | refine blk_drew ?_ | refine blk_alloc ?_ _)); refine blk_put (cs := #[.int .i64 0, .int .i64 0]) ?_ 0 _ rfl; (with_reducible repeat (first | refine blk_drewN ?_ _ | refine blk_drew ?_ | refine blk_alloc ?_ _)); exact BK306.out) hb); have n4_ := Aside0.mk (below_step (by repeat (first | (with_reducible first | exact HB.out | apply below_alloc | apply pw_below_drewN | apply below_drew1 | refine below_set ?_ GE294.out | refine below_set ?_ GE298.out | refine below_set ?_ GE302.out | refine below_set ?_ GE306.out) | exact HB.out)) hb); clear BK294; clear BK298; clear BK302; clear BK306; clear HB; have BK294 := n0_; have BK298 := n1_; have BK302 := n2_; have BK306 := n3_; have HB := n4_; clear n0_ n1_ n2_ n3_ n4_; (try clear hb); (try clear hb2); (try clear hk); (try clear hi)) | ((with_reducible refine gate_dst (N := 20) rfl ?_); refine box_event ?hg (N := 20) ?hd (cs := #[.int .i64 0, .int .i64 0]) (t := 37) ?hr ?_; (case hd => rfl); (case hg => rfl); (case hr => first | (go_simp; done) | (go_simp; rfl)); intro gb310 hg w50 hbox hb; have n0_ := Aside0.mk (blk_below (g := gb294) (o := .cells #[.int .i64 t291, .int .i64 t292] 37 (0, 0)) (by (with_reducible repeat (first | refine blk_drewN ?_ _ | refine blk_drew ?_ | refine blk_alloc ?_ _)); exact BK294.out) hb); have n1_ := Aside0.mk (blk_below (g := gb298) (o := .cells #[.int .i64 t295, .int .i64 t296] 37 (0, 0)) (by (with_reducible repeat (first | refine blk_drewN ?_ _ | refine blk_drew ?_ | refine blk_alloc ?_ _)); exact BK298.out) hb); have n2_ := Aside0.mk (blk_below (g := gb302) (o := .cells #[.int .i64 t299, .int .i64 t300] 37 (0, 0)) (by (with_reducible repeat (first | refine blk_drewN ?_ _ | refine blk_drew ?_ | refine blk_alloc ?_ _)); exact BK302.out) hb); have n3_ := Aside0.mk (blk_below (g := gb306) (o := .cells #[.int .i64 t303, .int .i64 t304] 37 (0, 0)) (by (with_reducible repeat (first | refine blk_drewN ?_ _ | refine blk_drew ?_ | refine blk_alloc ?_ _)); exact BK306.out) hb); have n4_ := Aside0.mk (below_step (by repeat (first | (with_reducible first | exact HB.out | apply below_alloc | apply pw_below_drewN | apply below_drew1 | refine below_set ?_ GE294.out | refine below_set ?_ GE298.out | refine below_set ?_ GE302.out | refine below_set ?_ GE306.out) | exact HB.out)) hb); have n5_ := Aside0.mk (hbox); have n6_ := Aside0.mk ((by rw [hg]; exact (below_size (by repeat (first | (with_reducible first | exact HB.out | apply below_alloc | apply pw_below_drewN | apply below_drew1 | refine below_set ?_ GE294.out | refine below_set ?_ GE298.out | refine below_set ?_ GE302.out | refine below_set ?_ GE306.out) | exact HB.out))) : w.heap.size ≤ gb310)); have n7_ := Aside0.mk ((by rw [hg]; exact (below_size (by repeat (first | (with_reducible first | exact HB.out | apply below_alloc | apply pw_below_drewN | apply below_drew1 | refine below_set ?_ GE294.out | refine below_set ?_ GE298.out | refine below_set ?_ GE302.out | refine below_set ?_ GE306.out) | exact HB.out))) : w.heap.size ≤ gb310)); have n8_ := Aside0.mk ((by rw [hg]; exact Nat.ne_of_lt (blk_lt (g := gb294) (o := .cells #[.int .i64 t291, .int .i64 t292] 37 (0, 0)) (by (with_reducible repeat (first | refine blk_drewN ?_ _ | refine blk_drew ?_ | refine blk_alloc ?_ _)); exact BK294.out)) : gb294 ≠ gb310)); have n9_ := Aside0.mk ((by rw [hg]; exact Nat.ne_of_gt (blk_lt (g := gb294) (o := .cells #[.int .i64 t291, .int .i64 t292] 37 (0, 0)) (by (with_reducible repeat (first | refine blk_drewN ?_ _ | refine blk_drew ?_ | refine blk_alloc ?_ _)); exact BK294.out)) : gb310 ≠ gb294)); have n10_ := Aside0.mk ((by rw [hg]; exact Nat.ne_of_lt (blk_lt (g := gb298) (o := .cells #[.int .i64 t295, .int .i64 t296] 37 (0, 0)) (by (with_reducible repeat (first | refine blk_drewN ?_ _ | refine blk_drew ?_ | refine blk_alloc ?_ _)); exact BK298.out)) : gb298 ≠ gb310)); have n11_ := Aside0.mk ((by rw [hg]; exact Nat.ne_of_gt (blk_lt (g := gb298) (o := .cells #[.int .i64 t295, .int .i64 t296] 37 (0, 0)) (by (with_reducible repeat (first | refine blk_drewN ?_ _ | refine blk_drew ?_ | refine blk_alloc ?_ _)); exact BK298.out)) : gb310 ≠ gb298)); have n12_ := Aside0.mk ((by rw [hg]; exact Nat.ne_of_lt (blk_lt (g := gb302) (o := .cells #[.int .i64 t299, .int .i64 t300] 37 (0, 0)) (by (with_reducible repeat (first | refine blk_drewN ?_ _ | refine blk_drew ?_ | refine blk_alloc ?_ _)); exact BK302.out)) : gb302 ≠ gb310)); have n13_ := Aside0.mk ((by rw [hg]; exact Nat.ne_of_gt (blk_lt (g := gb302) (o := .cells #[.int .i64 t299, .int .i64 t300] 37 (0, 0)) (by (with_reducible repeat (first | refine blk_drewN ?_ _ | refine blk_drew ?_ | refine blk_alloc ?_ _)); exact BK302.out)) : gb310 ≠ gb302)); have n14_ := Aside0.mk ((by rw [hg]; exact Nat.ne_of_lt (blk_lt (g := gb306) (o := .cells #[.int .i64 t303, .int .i64 t304] 37 (0, 0)) (by (with_reducible repeat (first | refine blk_drewN ?_ _ | refine blk_drew ?_ | refine blk_alloc ?_ _)); exact BK306.out)) : gb306 ≠ gb310)); have n15_ := Aside0.mk ((by rw [hg]; exact Nat.ne_of_gt (blk_lt (g := gb306) (o := .cells #[.int .i64 t303, .int .i64 t304] 37 (0, 0)) (by (with_reducible repeat (first | refine blk_drewN ?_ _ | refine blk_drew ?_ | refine blk_alloc ?_ _)); exact BK306.out)) : gb310 ≠ gb306)); clear BK294; clear BK298; clear BK302; clear BK306; clear HB; have BK294 := n0_; have BK298 := n1_; have BK302 := n2_; have BK306 := n3_; have HB := n4_; have BK310 := n5_; have GW310 := n6_; have GE310 := n7_; have NB294_310 := n8_; have NB310_294 := n9_; have NB298_310 := n10_; have NB310_298 := n11_; have NB302_310 := n12_; have NB310_302 := n13_; have NB306_310 := n14_; have NB310_306 := n15_; clear n0_ n1_ n2_ n3_ n4_ n5_ n6_ n7_ n8_ n9_ n10_ n11_ n12_ n13_ n14_ n15_; clear hb hbox hg; have hnb51 := NB310_294.out; have hnc51 := NB294_310.out; have hnb52 := NB310_298.out; have hnc52 := NB298_310.out; have hnb53 := NB310_302.out; have hnc53 := NB302_310.out; have hnb54 := NB310_306.out; have hnc54 := NB306_310.out; have hcz55_0 : w50.cell? ⟨gb310, 0, none⟩ = some (.int .i64 0) := (blk_cell BK310.out 0).trans rfl; have hcz55_1 : w50.cell? ⟨gb310, 1, none⟩ = some (.int .i64 0) := (blk_cell BK310.out 1).trans rfl; have hfz55_0 := blk_frozen BK310.out 0; have hfz55_1 := blk_frozen BK310.out 1) | ((with_reducible refine gate_callee (f := 17) rfl ?_); refine goesL_ (some 97) rfl rfl Try.func17 (by kernel_rfl) rfl #[.agg #[.int .i64 0, .int .i64 0], .int .i64 (wrap64 (a1)), .int .i64 (wrap64 ((wrap64 (a0)) + (wrap64 (a2)))), .int .i64 a4] rfl (by (try simp only [List.map_toArray, List.map_cons, List.map_nil]); first | done | rfl | (simp only [List.length_drop, List.length_take]; rfl)) ?_; (with_reducible refine (decay_Charge.calls kj5 0 0 (wrap64 (a1)) (wrap64 ((wrap64 (a0)) + (wrap64 (a2)))) a4 t311 t312 t313 _ A16.out).mono ?_); rintro e w56 ⟨rfl, hb⟩; refine ⟨_, rfl, ?_⟩; have n0_ := Aside0.mk (blk_below (g := gb294) (o := .cells #[.int .i64 t291, .int .i64 t292] 37 (0, 0)) (by (with_reducible repeat (first | refine blk_drewN ?_ _ | refine blk_drew ?_ | refine blk_alloc ?_ _)); refine blk_far ?_ NB294_310.out _; (with_reducible repeat (first | refine blk_drewN ?_ _ | refine blk_drew ?_ | refine blk_alloc ?_ _)); refine blk_far ?_ NB294_310.out _; (with_reducible repeat (first | refine blk_drewN ?_ _ | refine blk_drew ?_ | refine blk_alloc ?_ _)); exact BK294.out) hb); have n1_ := Aside0.mk (blk_below (g := gb298) (o := .cells #[.int .i64 t295, .int .i64 t296] 37 (0, 0)) (by (with_reducible repeat (first | refine blk_drewN ?_ _ | refine blk_drew ?_ | refine blk_alloc ?_ _)); refine blk_far ?_ NB298_310.out _; (with_reducible repeat (first | refine blk_drewN ?_ _ | refine blk_drew ?_ | refine blk_alloc ?_ _)); refine blk_far ?_ NB298_310.out _; (with_reducible repeat (first | refine blk_drewN ?_ _ | refine blk_drew ?_ | refine blk_alloc ?_ _)); exact BK298.out) hb); have n2_ := Aside0.mk (blk_below (g := gb302) (o := .cells #[.int .i64 t299, .int .i64 t300] 37 (0, 0)) (by (with_reducible repeat (first | refine blk_drewN ?_ _ | refine blk_drew ?_ | refine blk_alloc ?_ _)); refine blk_far ?_ NB302_310.out _; (with_reducible repeat (first | refine blk_drewN ?_ _ | refine blk_drew ?_ | refine blk_alloc ?_ _)); refine blk_far ?_ NB302_310.out _; (with_reducible repeat (first | refine blk_drewN ?_ _ | refine blk_drew ?_ | refine blk_alloc ?_ _)); exact BK302.out) hb); have n3_ := Aside0.mk (blk_below (g := gb306) (o := .cells #[.int .i64 t303, .int .i64 t304] 37 (0, 0)) (by (with_reducible repeat (first | refine blk_drewN ?_ _ | refine blk_drew ?_ | refine blk_alloc ?_ _)); refine blk_far ?_ NB306_310.out _; (with_reducible repeat (first | refine blk_drewN ?_ _ | refine blk_drew ?_ | refine blk_alloc ?_ _)); refine blk_far ?_ NB306_310.out _; (with_reducible repeat (first | refine blk_drewN ?_ _ | refine blk_drew ?_ | refine blk_alloc ?_ _)); exact BK306.out) hb); have n4_ := Aside0.mk (blk_below (g := gb310) (o := .cells #[.int .i64 t307, .int .i64 t308] 37 (0, 0)) (by (with_reducible repeat (first | refine blk_drewN ?_ _ | refine blk_drew ?_ | refine blk_alloc ?_ _)); refine blk_put (cs := #[.int .i64 t307, .int .i64 0]) ?_ 1 _ rfl; (with_reducible repeat (first | refine blk_drewN ?_ _ | refine blk_drew ?_ | refine blk_alloc ?_ _)); refine blk_put (cs := #[.int .i64 0, .int .i64 0]) ?_ 0 _ rfl; (with_reducible repeat (first | refine blk_drewN ?_ _ | refine blk_drew ?_ | refine blk_alloc ?_ _)); exact BK310.out) hb); have n5_ := Aside0.mk (below_step (by repeat (first | (with_reducible first | exact HB.out | apply below_alloc | apply pw_below_drewN | apply below_drew1 | refine below_set ?_ GE294.out | refine below_set ?_ GE298.out | refine below_set ?_ GE302.out | refine below_set ?_ GE306.out | refine below_set ?_ GE310.out) | exact HB.out)) hb); clear BK294; clear BK298; clear BK302; clear BK306; clear BK310; clear HB; have BK294 := n0_; have BK298 := n1_; have BK302 := n2_; have BK306 := n3_; have BK310 := n4_; have HB := n5_; clear n0_ n1_ n2_ n3_ n4_ n5_; (try clear hb); (try clear hb2); (try clear hk); (try clear hi)) | ((with_reducible refine gate_dst (N := 22) rfl ?_); refine box_event ?hg (N := 22) ?hd (cs := #[.int .i64 0, .int .i64 0]) (t := 37) ?hr ?_; (case hd => rfl); (case hg => rfl); (case hr => first | (go_simp; done) | (go_simp; rfl)); intro gb314 hg w57 hbox hb; have n0_ := Aside0.mk (blk_below (g := gb294) (o := .cells #[.int .i64 t291, .int .i64 t292] 37 (0, 0)) (by (with_reducible repeat (first | refine blk_drewN ?_ _ | refine blk_drew ?_ | refine blk_alloc ?_ _)); exact BK294.out) hb); have n1_ := Aside0.mk (blk_below (g := gb298) (o := .cells #[.int .i64 t295, .int .i64 t296] 37 (0, 0)) (by (with_reducible repeat (first | refine blk_drewN ?_ _ | refine blk_drew ?_ | refine blk_alloc ?_ _)); exact BK298.out) hb); have n2_ := Aside0.mk (blk_below (g := gb302) (o := .cells #[.int .i64 t299, .int .i64 t300] 37 (0, 0)) (by (with_reducible repeat (first | refine blk_drewN ?_ _ | refine blk_drew ?_ | refine blk_alloc ?_ _)); exact BK302.out) hb); have n3_ := Aside0.mk (blk_below (g := gb306) (o := .cells #[.int .i64 t303, .int .i64 t304] 37 (0, 0)) (by (with_reducible repeat (first | refine blk_drewN ?_ _ | refine blk_drew ?_ | refine blk_alloc ?_ _)); exact BK306.out) hb); have n4_ := Aside0.mk (blk_below (g := gb310) (o := .cells #[.int .i64 t307, .int .i64 t308] 37 (0, 0)) (by (with_reducible repeat (first | refine blk_drewN ?_ _ | refine blk_drew ?_ | refine blk_alloc ?_ _)); exact BK310.out) hb); have n5_ := Aside0.mk (below_step (by repeat (first | (with_reducible first | exact HB.out | apply below_alloc | apply pw_below_drewN | apply below_drew1 | refine below_set ?_ GE294.out | refine below_set ?_ GE298.out | refine below_set ?_ GE302.out | refine below_set ?_ GE306.out | refine below_set ?_ GE310.out) | exact HB.out)) hb); have n6_ := Aside0.mk (hbox); have n7_ := Aside0.mk ((by rw [hg]; exact (below_size (by repeat (first | (with_reducible first | exact HB.out | apply below_alloc | apply pw_below_drewN | apply below_drew1 | refine below_set ?_ GE294.out | refine below_set ?_ GE298.out | refine below_set ?_ GE302.out | refine below_set ?_ GE306.out | refine below_set ?_ GE310.out) | exact HB.out))) : w.heap.size ≤ gb314)); have n8_ := Aside0.mk ((by rw [hg]; exact (below_size (by repeat (first | (with_reducible first | exact HB.out | apply below_alloc | apply pw_below_drewN | apply below_drew1 | refine below_set ?_ GE294.out | refine below_set ?_ GE298.out | refine below_set ?_ GE302.out | refine below_set ?_ GE306.out | refine below_set ?_ GE310.out) | exact HB.out))) : w.heap.size ≤ gb314)); have n9_ := Aside0.mk ((by rw [hg]; exact Nat.ne_of_lt (blk_lt (g := gb294) (o := .cells #[.int .i64 t291, .int .i64 t292] 37 (0, 0)) (by (with_reducible repeat (first | refine blk_drewN ?_ _ | refine blk_drew ?_ | refine blk_alloc ?_ _)); exact BK294.out)) : gb294 ≠ gb314)); have n10_ := Aside0.mk ((by rw [hg]; exact Nat.ne_of_gt (blk_lt (g := gb294) (o := .cells #[.int .i64 t291, .int .i64 t292] 37 (0, 0)) (by (with_reducible repeat (first | refine blk_drewN ?_ _ | refine blk_drew ?_ | refine blk_alloc ?_ _)); exact BK294.out)) : gb314 ≠ gb294)); have n11_ := Aside0.mk ((by rw [hg]; exact Nat.ne_of_lt (blk_lt (g := gb298) (o := .cells #[.int .i64 t295, .int .i64 t296] 37 (0, 0)) (by (with_reducible repeat (first | refine blk_drewN ?_ _ | refine blk_drew ?_ | refine blk_alloc ?_ _)); exact BK298.out)) : gb298 ≠ gb314)); have n12_ := Aside0.mk ((by rw [hg]; exact Nat.ne_of_gt (blk_lt (g := gb298) (o := .cells #[.int .i64 t295, .int .i64 t296] 37 (0, 0)) (by (with_reducible repeat (first | refine blk_drewN ?_ _ | refine blk_drew ?_ | refine blk_alloc ?_ _)); exact BK298.out)) : gb314 ≠ gb298)); have n13_ := Aside0.mk ((by rw [hg]; exact Nat.ne_of_lt (blk_lt (g := gb302) (o := .cells #[.int .i64 t299, .int .i64 t300] 37 (0, 0)) (by (with_reducible repeat (first | refine blk_drewN ?_ _ | refine blk_drew ?_ | refine blk_alloc ?_ _)); exact BK302.out)) : gb302 ≠ gb314)); have n14_ := Aside0.mk ((by rw [hg]; exact Nat.ne_of_gt (blk_lt (g := gb302) (o := .cells #[.int .i64 t299, .int .i64 t300] 37 (0, 0)) (by (with_reducible repeat (first | refine blk_drewN ?_ _ | refine blk_drew ?_ | refine blk_alloc ?_ _)); exact BK302.out)) : gb314 ≠ gb302)); have n15_ := Aside0.mk ((by rw [hg]; exact Nat.ne_of_lt (blk_lt (g := gb306) (o := .cells #[.int .i64 t303, .int .i64 t304] 37 (0, 0)) (by (with_reducible repeat (first | refine blk_drewN ?_ _ | refine blk_drew ?_ | refine blk_alloc ?_ _)); exact BK306.out)) : gb306 ≠ gb314)); have n16_ := Aside0.mk ((by rw [hg]; exact Nat.ne_of_gt (blk_lt (g := gb306) (o := .cells #[.int .i64 t303, .int .i64 t304] 37 (0, 0)) (by (with_reducible repeat (first | refine blk_drewN ?_ _ | refine blk_drew ?_ | refine blk_alloc ?_ _)); exact BK306.out)) : gb314 ≠ gb306)); have n17_ := Aside0.mk ((by rw [hg]; exact Nat.ne_of_lt (blk_lt (g := gb310) (o := .cells #[.int .i64 t307, .int .i64 t308] 37 (0, 0)) (by (with_reducible repeat (first | refine blk_drewN ?_ _ | refine blk_drew ?_ | refine blk_alloc ?_ _)); exact BK310.out)) : gb310 ≠ gb314)); have n18_ := Aside0.mk ((by rw [hg]; exact Nat.ne_of_gt (blk_lt (g := gb310) (o := .cells #[.int .i64 t307, .int .i64 t308] 37 (0, 0)) (by (with_reducible repeat (first | refine blk_drewN ?_ _ | refine blk_drew ?_ | refine blk_alloc ?_ _)); exact BK310.out)) : gb314 ≠ gb310)); clear BK294; clear BK298; clear BK302; clear BK306; clear BK310; clear HB; have BK294 := n0_; have BK298 := n1_; have BK302 := n2_; have BK306 := n3_; have BK310 := n4_; have HB := n5_; have BK314 := n6_; have GW314 := n7_; have GE314 := n8_; have NB294_314 := n9_; have NB314_294 := n10_; have NB298_314 := n11_; have NB314_298 := n12_; have NB302_314 := n13_; have NB314_302 := n14_; have NB306_314 := n15_; have NB314_306 := n16_; have NB310_314 := n17_; have NB314_310 := n18_; clear n0_ n1_ n2_ n3_ n4_ n5_ n6_ n7_ n8_ n9_ n10_ n11_ n12_ n13_ n14_ n15_ n16_ n17_ n18_; clear hb hbox hg; have hnb58 := NB314_294.out; have hnc58 := NB294_314.out; have hnb59 := NB314_298.out; have hnc59 := NB298_314.out; have hnb60 := NB314_302.out; have hnc60 := NB302_314.out; have hnb61 := NB314_306.out; have hnc61 := NB306_314.out; have hnb62 := NB314_310.out; have hnc62 := NB310_314.out; have hcz63_0 : w57.cell? ⟨gb314, 0, none⟩ = some (.int .i64 0) := (blk_cell BK314.out 0).trans rfl; have hcz63_1 : w57.cell? ⟨gb314, 1, none⟩ = some (.int .i64 0) := (blk_cell BK314.out 1).trans rfl; have hfz63_0 := blk_frozen BK314.out 0; have hfz63_1 := blk_frozen BK314.out 1; have hcz64_0 : w57.cell? ⟨gb302, 0, none⟩ = some (.int .i64 t299) := (blk_cell BK302.out 0).trans rfl; have hcz64_1 : w57.cell? ⟨gb302, 1, none⟩ = some (.int .i64 t300) := (blk_cell BK302.out 1).trans rfl; have hfz64_0 := blk_frozen BK302.out 0; have hfz64_1 := blk_frozen BK302.out 1; have hcz65_0 : w57.cell? ⟨gb306, 0, none⟩ = some (.int .i64 t303) := (blk_cell BK306.out 0).trans rfl; have hcz65_1 : w57.cell? ⟨gb306, 1, none⟩ = some (.int .i64 t304) := (blk_cell BK306.out 1).trans rfl; have hfz65_0 := blk_frozen BK306.out 0; have hfz65_1 := blk_frozen BK306.out 1; have hcz66_0 : w57.cell? ⟨gb310, 0, none⟩ = some (.int .i64 t307) := (blk_cell BK310.out 0).trans rfl; have hcz66_1 : w57.cell? ⟨gb310, 1, none⟩ = some (.int .i64 t308) := (blk_cell BK310.out 1).trans rfl; have hfz66_0 := blk_frozen BK310.out 0; have hfz66_1 := blk_frozen BK310.out 1) | (go_at_call 12; (with_reducible refine (gangerlaw02_known.calls kj5  t315 _ A27.out).mono ?_); rintro e w67 ⟨rfl, hb⟩; have n0_ := Aside0.mk (blk_below (g := gb294) (o := .cells #[.int .i64 t291, .int .i64 t292] 37 (0, 0)) (by (with_reducible repeat (first | refine blk_drewN ?_ _ | refine blk_drew ?_ | refine blk_alloc ?_ _)); refine blk_far ?_ NB294_314.out _; (with_reducible repeat (first | refine blk_drewN ?_ _ | refine blk_drew ?_ | refine blk_alloc ?_ _)); refine blk_far ?_ NB294_314.out _; (with_reducible repeat (first | refine blk_drewN ?_ _ | refine blk_drew ?_ | refine blk_alloc ?_ _)); exact BK294.out) hb); have n1_ := Aside0.mk (blk_below (g := gb298) (o := .cells #[.int .i64 t295, .int .i64 t296] 37 (0, 0)) (by (with_reducible repeat (first | refine blk_drewN ?_ _ | refine blk_drew ?_ | refine blk_alloc ?_ _)); refine blk_far ?_ NB298_314.out _; (with_reducible repeat (first | refine blk_drewN ?_ _ | refine blk_drew ?_ | refine blk_alloc ?_ _)); refine blk_far ?_ NB298_314.out _; (with_reducible repeat (first | refine blk_drewN ?_ _ | refine blk_drew ?_ | refine blk_alloc ?_ _)); exact BK298.out) hb); have n2_ := Aside0.mk (blk_below (g := gb302) (o := .cells #[.int .i64 t299, .int .i64 t300] 37 (0, 0)) (by (with_reducible repeat (first | refine blk_drewN ?_ _ | refine blk_drew ?_ | refine blk_alloc ?_ _)); refine blk_far ?_ NB302_314.out _; (with_reducible repeat (first | refine blk_drewN ?_ _ | refine blk_drew ?_ | refine blk_alloc ?_ _)); refine blk_far ?_ NB302_314.out _; (with_reducible repeat (first | refine blk_drewN ?_ _ | refine blk_drew ?_ | refine blk_alloc ?_ _)); exact BK302.out) hb); have n3_ := Aside0.mk (blk_below (g := gb306) (o := .cells #[.int .i64 t303, .int .i64 t304] 37 (0, 0)) (by (with_reducible repeat (first | refine blk_drewN ?_ _ | refine blk_drew ?_ | refine blk_alloc ?_ _)); refine blk_far ?_ NB306_314.out _; (with_reducible repeat (first | refine blk_drewN ?_ _ | refine blk_drew ?_ | refine blk_alloc ?_ _)); refine blk_far ?_ NB306_314.out _; (with_reducible repeat (first | refine blk_drewN ?_ _ | refine blk_drew ?_ | refine blk_alloc ?_ _)); exact BK306.out) hb); have n4_ := Aside0.mk (blk_below (g := gb310) (o := .cells #[.int .i64 t307, .int .i64 t308] 37 (0, 0)) (by (with_reducible repeat (first | refine blk_drewN ?_ _ | refine blk_drew ?_ | refine blk_alloc ?_ _)); refine blk_far ?_ NB310_314.out _; (with_reducible repeat (first | refine blk_drewN ?_ _ | refine blk_drew ?_ | refine blk_alloc ?_ _)); refine blk_far ?_ NB310_314.out _; (with_reducible repeat (first | refine blk_drewN ?_ _ | refine blk_drew ?_ | refine blk_alloc ?_ _)); exact BK310.out) hb); have n5_ := Aside0.mk (blk_below (g := gb314) (o := .cells #[.int .i64 t311, .int .i64 t312] 37 (0, 0)) (by (with_reducible repeat (first | refine blk_drewN ?_ _ | refine blk_drew ?_ | refine blk_alloc ?_ _)); refine blk_put (cs := #[.int .i64 t311, .int .i64 0]) ?_ 1 _ rfl; (with_reducible repeat (first | refine blk_drewN ?_ _ | refine blk_drew ?_ | refine blk_alloc ?_ _)); refine blk_put (cs := #[.int .i64 0, .int .i64 0]) ?_ 0 _ rfl; (with_reducible repeat (first | refine blk_drewN ?_ _ | refine blk_drew ?_ | refine blk_alloc ?_ _)); exact BK314.out) hb); have n6_ := Aside0.mk (below_step (by repeat (first | (with_reducible first | exact HB.out | apply below_alloc | apply pw_below_drewN | apply below_drew1 | refine below_set ?_ GE294.out | refine below_set ?_ GE298.out | refine below_set ?_ GE302.out | refine below_set ?_ GE306.out | refine below_set ?_ GE310.out | refine below_set ?_ GE314.out) | exact HB.out)) hb); clear BK294; clear BK298; clear BK302; clear BK306; clear BK310; clear BK314; clear HB; have BK294 := n0_; have BK298 := n1_; have BK302 := n2_; have BK306 := n3_; have BK310 := n4_; have BK314 := n5_; have HB := n6_; clear n0_ n1_ n2_ n3_ n4_ n5_ n6_; (try clear hb); (try clear hb2); (try clear hk); (try clear hi)))
                            go_ret
                            exact ⟨by first | rfl | (simp [errW_none, errW_some] <;> rfl) | (simp [*, errW_none, errW_some] <;> rfl), by repeat (first | (with_reducible first | exact HB.out | apply below_alloc | apply pw_below_drewN | apply below_drew1 | refine below_set ?_ GE294.out | refine below_set ?_ GE298.out | refine below_set ?_ GE302.out | refine below_set ?_ GE306.out | refine below_set ?_ GE310.out | refine below_set ?_ GE314.out) | exact HB.out)⟩
                          · rw [if_neg c26] at H
                            exact absurd H (by simp)
                        · rw [if_neg c25] at H
                          exact absurd H (by simp)
                      · rw [if_neg c24] at H
                        exact absurd H (by simp)
                    · rw [if_neg c23] at H
                      exact absurd H (by simp)
                  · rw [if_neg c22] at H
                    exact absurd H (by simp)
                · rw [if_neg c21] at H
                  exact absurd H (by simp)
              · rw [if_neg c20] at H
                exact absurd H (by simp)
            · rw [if_neg c19] at H
              exact absurd H (by simp)
          · rw [if_neg c18] at H
            exact absurd H (by simp)
        · rw [if_neg c17] at H
          exact absurd H (by simp)

/-- THE ONE PURE STATEMENT of gangerlaw02_DecayPays: yours. -/
def gangerlaw02_DecayPays.Pure : Prop := ∀ (a0 : Int) (a1 : Int) (a2 : Int) (a3 : Int) (a4 : Int), (Lit.int .u32 a0).wf = true → (Lit.int .u32 a1).wf = true → (Lit.int .u32 a2).wf = true → (Lit.int .u32 a3).wf = true → (Lit.int .i64 a4).wf = true → ∃ k, gangerlaw02_DecayPays.f k a0 a1 a2 a3 a4 = some true
theorem gangerlaw02_DecayPays.walk (P : gangerlaw02_DecayPays.Pure) (a0 : Int) (a1 : Int) (a2 : Int) (a3 : Int) (a4 : Int) (w : World) (w0 : (Lit.int .u32 a0).wf = true) (w1 : (Lit.int .u32 a1).wf = true) (w2 : (Lit.int .u32 a2).wf = true) (w3 : (Lit.int .u32 a3).wf = true) (w4 : (Lit.int .i64 a4).wf = true) :
    Calls Try.prog 9 #[.int .u32 a0, .int .u32 a1, .int .u32 a2, .int .u32 a3, .int .i64 a4] w fun e w' => e = .returned (.bool true) ∧ Below w.heap.size w w' := by
  obtain ⟨k, h⟩ := P a0 a1 a2 a3 a4 w0 w1 w2 w3 w4
  refine (gangerlaw02_DecayPays.calls k a0 a1 a2 a3 a4 true w h).mono ?_
  rintro e w' ⟨rfl, hd⟩
  exact ⟨rfl, hd⟩

end Go.Proofs.Ytaagimadfhcflaa.P
