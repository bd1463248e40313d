/- The machine's side of the laws of this seat: each function's plain form and its contract, written by a program of this session out of Lean's print of the loaded functions; no condition beyond what each statement says. -/
import Derived.Test.YtjgfdilikbeofaaDoorP0
import Derived.Test.YtjgfdilikbeofaaDoorP2
import Derived.Test.YtjgfdilikbeofaaDoorP3
namespace Go.Proofs.YtjgfdilikbeofaaDoor.P
open Go.RowKit Go.Proofs.YtjgfdilikbeofaaDoorW.PrintWords Go.Proofs.YtjgfdilikbeofaaDoorW.PrintLast Go.Proofs.YtjgfdilikbeofaaDoorW.PrintMore
attribute [local go_sem] max2_int min2_int max_two min_two max_three min_three max_four min_four   -- for this text's walks alone
set_option linter.unusedVariables false
set_option linter.unusedSimpArgs false

attribute [local go_sem] isSome_setCell
/-! ### gangerlaw07_ClockBack: function 5 -/
mutual
def gangerlaw07_ClockBack.j0 : Nat → Int → ByteArray → ByteArray → Int → Bool → Option (Bool)
  | 0, _, _, _, _, _ => none
  | k + 1, x0, x1, x5, x6, x32 => if x32 = true then (none) else (if x6 = 0 then ((clock_Parse.f k x5).bind fun bt209 => (if bt209.2 = 0 then (if bt209.1 = x0 then (gangerlaw07_ClockBack.j1 k x1) else (none)) else (none))) else (gangerlaw07_ClockBack.j1 k x1))
def gangerlaw07_ClockBack.j1 : Nat → ByteArray → Option (Bool)
  | 0, _ => none
  | k + 1, x1 => (clock_Parse.f k x1).bind fun bt211 => (if bt211.2 = 0 then ((clock_Print.f k bt211.1).bind fun bt213 => ((clock_Parse.f k bt213.1).bind fun bt215 => (if bt213.2 = 0 then (if bt215.2 = 0 then (if bt215.1 = bt211.1 then ((gangerlaw07_known.f k).bind fun t217 => (some t217)) else (none)) else (none)) else (none)))) else (if bt211.1 = 0 then ((gangerlaw07_known.f k).bind fun t218 => (some t218)) else (none)))
end
def gangerlaw07_ClockBack.f (k : Nat) (a0 : Int) (a1 : ByteArray) : Option (Bool) := if (a1.size : Int) > 300 then ((gangerlaw07_known.f k).bind fun t206 => (some t206)) else ((clock_Print.f k a0).bind fun bt207 => (if a0 ≥ 1 then (gangerlaw07_ClockBack.j0 k a0 a1 bt207.1 bt207.2 ((bt207.2 == 0) != (decide (a0 ≤ 1073741824)))) else (gangerlaw07_ClockBack.j0 k a0 a1 bt207.1 bt207.2 ((bt207.2 == 0) != false))))
theorem gangerlaw07_ClockBack.mono_l : ∀ k, (∀ y0 y1 y2 y3 y4, LeO (gangerlaw07_ClockBack.j0 k y0 y1 y2 y3 y4) (gangerlaw07_ClockBack.j0 (k + 1) y0 y1 y2 y3 y4)) ∧ (∀ y0, LeO (gangerlaw07_ClockBack.j1 k y0) (gangerlaw07_ClockBack.j1 (k + 1) y0))
  | 0 => ⟨fun _ _ _ _ _ r h => by simp [gangerlaw07_ClockBack.j0] at h, fun _ r h => by simp [gangerlaw07_ClockBack.j1] at h⟩
  | k + 1 => by
    obtain ⟨ih0, ih1⟩ := gangerlaw07_ClockBack.mono_l k
    refine ⟨?_, ?_⟩
    · intro y0 y1 y2 y3 y4
      unfold gangerlaw07_ClockBack.j0
      repeat' first
      | (with_reducible exact ih0 _ _ _ _ _)
      | (with_reducible exact ih1 _)
      | (with_reducible exact clock_Parse.mono _ _)
      | (with_reducible exact clock_Print.mono _ _)
      | (with_reducible exact gangerlaw07_known.mono _)
      | (with_reducible exact LeO.refl _)
      | (with_reducible exact LeO.none _)
      | (with_reducible refine LeO.ite ?_ ?_)
      | (with_reducible refine LeO.bind ?_ (fun _ => ?_))
      | exact ih0 _ _ _ _ _
      | exact ih1 _
      | exact clock_Parse.mono _ _
      | exact clock_Print.mono _ _
      | exact gangerlaw07_known.mono _
      | exact LeO.none _
      | refine LeO.ite ?_ ?_
      | refine LeO.bind ?_ (fun _ => ?_)
    · intro y0
      unfold gangerlaw07_ClockBack.j1
      repeat' first
      | (with_reducible exact ih0 _ _ _ _ _)
      | (with_reducible exact ih1 _)
      | (with_reducible exact clock_Parse.mono _ _)
      | (with_reducible exact clock_Print.mono _ _)
      | (with_reducible exact gangerlaw07_known.mono _)
      | (with_reducible exact LeO.refl _)
      | (with_reducible exact LeO.none _)
      | (with_reducible refine LeO.ite ?_ ?_)
      | (with_reducible refine LeO.bind ?_ (fun _ => ?_))
      | exact ih0 _ _ _ _ _
      | exact ih1 _
      | exact clock_Parse.mono _ _
      | exact clock_Print.mono _ _
      | exact gangerlaw07_known.mono _
      | exact LeO.none _
      | refine LeO.ite ?_ ?_
      | refine LeO.bind ?_ (fun _ => ?_)
theorem gangerlaw07_ClockBack.mono : ∀ a0 a1 k, LeO (gangerlaw07_ClockBack.f k a0 a1) (gangerlaw07_ClockBack.f (k + 1) a0 a1) := by
  intro a0 a1 k
  obtain ⟨ih0, ih1⟩ := gangerlaw07_ClockBack.mono_l k
  unfold gangerlaw07_ClockBack.f
  repeat' first
      | (with_reducible exact ih0 _ _ _ _ _)
      | (with_reducible exact ih1 _)
      | (with_reducible exact clock_Parse.mono _ _)
      | (with_reducible exact clock_Print.mono _ _)
      | (with_reducible exact gangerlaw07_known.mono _)
      | (with_reducible exact LeO.refl _)
      | (with_reducible exact LeO.none _)
      | (with_reducible refine LeO.ite ?_ ?_)
      | (with_reducible refine LeO.bind ?_ (fun _ => ?_))
      | exact ih0 _ _ _ _ _
      | exact ih1 _
      | exact clock_Parse.mono _ _
      | exact clock_Print.mono _ _
      | exact gangerlaw07_known.mono _
      | exact LeO.none _
      | refine LeO.ite ?_ ?_
      | refine LeO.bind ?_ (fun _ => ?_)
set_option maxHeartbeats 8000000 in
set_option maxRecDepth 100000 in
theorem gangerlaw07_ClockBack.calls (k : Nat) (a0 : Int) (a1 : ByteArray) (r : Bool) (w : World) (hG : Glob w) (h : gangerlaw07_ClockBack.f k a0 a1 = some r) :
    Calls Tryd.prog 5 #[.int .i64 a0, .string a1] w fun e w' => e = .returned (.bool r) ∧ Below w.heap.size w w' := by
  have HG := Aside0.mk hG
  clear hG
  have HB := Aside0.mk (Below.refl w.heap.size w)
  have H : (if (a1.size : Int) > 300 then ((gangerlaw07_known.f k).bind fun t206 => (some t206)) else ((clock_Print.f k a0).bind fun bt207 => (if a0 ≥ 1 then (gangerlaw07_ClockBack.j0 k a0 a1 bt207.1 bt207.2 ((bt207.2 == 0) != (decide (a0 ≤ 1073741824)))) else (gangerlaw07_ClockBack.j0 k a0 a1 bt207.1 bt207.2 ((bt207.2 == 0) != false))))) = some r := h
  clear h
  by_cases c3 : (a1.size : Int) > 300
  · rw [if_pos c3] at H
    have c3b0 : decide (300 < (a1.size : Int)) = true := decide_eq_true c3
    have c3b1 : decide (300 < a1.size) = true := decide_eq_true (by omega)
    clear c3
    replace H := Option.bind_eq_some_iff.mp H
    obtain ⟨t206, A40, H⟩ := H
    replace H : (some t206) = some r := H
    have A4 := Aside0.mk A40
    clear A40
    obtain rfl := Option.some.inj H
    go_enter Tryd.func5, Tryd.ntmps5
    go_wp2_with (first | ((with_reducible refine gate_callee (f := 10) rfl ?_); refine goesL_ (some 18) rfl rfl Tryd.func10 (by kernel_rfl) rfl #[] rfl (by (try simp only [List.map_toArray, List.map_cons, List.map_nil]); first | done | rfl | (simp only [List.length_drop, List.length_take]; rfl)) ?_; (with_reducible refine (gangerlaw07_known.calls k  t206 _ ?side1 A4.out).mono ?_); (case side1 => exact Glob.below HG.out (by repeat (first | (with_reducible first | exact HB.out | apply below_alloc | apply pw_below_drewN | apply below_drew1) | exact HB.out))); rintro e w5 ⟨rfl, hb⟩; refine ⟨_, rfl, ?_⟩; have n0_ := Aside0.mk (below_step (by repeat (first | (with_reducible first | exact HB.out | apply below_alloc | apply pw_below_drewN | apply below_drew1) | exact HB.out)) hb); clear HB; have HB := n0_; clear n0_; (try clear hb); (try clear hb2); (try clear hk); (try clear hi)))
    go_ret
    exact ⟨by first | rfl | (simp [errW_none, errW_some] <;> rfl) | (simp [*, errW_none, errW_some] <;> rfl), by repeat (first | (with_reducible first | exact HB.out | apply below_alloc | apply pw_below_drewN | apply below_drew1) | exact HB.out)⟩
  · rw [if_neg c3] at H
    have c3b0 : decide (300 < (a1.size : Int)) = false := decide_eq_false c3
    have c3b1 : decide (300 < a1.size) = false := decide_eq_false (by omega)
    clear c3
    replace H := Option.bind_eq_some_iff.mp H
    obtain ⟨⟨t207, t208⟩, A60, H⟩ := H
    replace H : (if a0 ≥ 1 then (gangerlaw07_ClockBack.j0 k a0 a1 t207 t208 ((t208 == 0) != (decide (a0 ≤ 1073741824)))) else (gangerlaw07_ClockBack.j0 k a0 a1 t207 t208 ((t208 == 0) != false))) = some r := H
    have A6 := Aside0.mk A60
    clear A60
    have HC7 := Aside0.mk H
    clear H
    go_enter Tryd.func5, Tryd.ntmps5
    go_upto_region 4 with (first | ((with_reducible refine gate_callee (f := 13) rfl ?_); refine goesL_ (some 21) rfl rfl Tryd.func13 (by kernel_rfl) rfl #[.int .i64 a0] rfl (by (try simp only [List.map_toArray, List.map_cons, List.map_nil]); first | done | rfl | (simp only [List.length_drop, List.length_take]; rfl)) ?_; (with_reducible refine (clock_Print.calls k a0 t207 t208 _ ?side1 A6.out).mono ?_); (case side1 => exact Glob.below HG.out (by repeat (first | (with_reducible first | exact HB.out | apply below_alloc | apply pw_below_drewN | apply below_drew1) | exact HB.out))); rintro e w8 ⟨rfl, hb⟩; refine ⟨_, rfl, ?_⟩; have n0_ := Aside0.mk (below_step (by repeat (first | (with_reducible first | exact HB.out | apply below_alloc | apply pw_below_drewN | apply below_drew1) | exact HB.out)) hb); clear HB; have HB := n0_; clear n0_; (try clear hb); (try clear hb2); (try clear hk); (try clear hi)))
    (try simp only [Act.put, List.setIfInBounds_toArray, List.set_cons_zero, List.set_cons_succ])
    go_cut [32] (fun v32 wc => ∃ (kq : Nat) (x32_6 : Bool), v32 = .bool x32_6 ∧ Aside0 (gangerlaw07_ClockBack.j0 kq a0 a1 t207 t208 x32_6 = some r) ∧ Aside0 (kq ≤ k) ∧ Aside0 (Below w.heap.size w wc))
    case first =>
      have H := HC7.out
      clear HC7
      by_cases c9 : a0 ≥ 1
      · rw [if_pos c9] at H
        have c9b0 : decide (1 ≤ a0) = true := decide_eq_true c9
        clear c9
        (first | rw [c9b0] | (simp only [i64_w, i32_w]; rw [c9b0]) | skip)
        have H' := Aside0.mk H
        clear H
        go_wp2
        go_meet
        case rel => exact ⟨_, (((t208 == 0) != (decide (a0 ≤ 1073741824)))), (by first | rfl | (simp; done) | (simp [*]; done)), H', ⟨by first | omega | exact Nat.le_refl _⟩, ⟨by repeat (first | (with_reducible first | exact HB.out | apply below_alloc | apply pw_below_drewN | apply below_drew1) | exact HB.out)⟩⟩
      · rw [if_neg c9] at H
        have c9b0 : decide (1 ≤ a0) = false := decide_eq_false c9
        clear c9
        (first | rw [c9b0] | (simp only [i64_w, i32_w]; rw [c9b0]) | skip)
        have H' := Aside0.mk H
        clear H
        go_wp2
        go_meet
        case rel => exact ⟨_, (((t208 == 0) != false)), (by first | rfl | (simp; done) | (simp [*]; done)), H', ⟨by first | omega | exact Nat.le_refl _⟩, ⟨by repeat (first | (with_reducible first | exact HB.out | apply below_alloc | apply pw_below_drewN | apply below_drew1) | exact HB.out)⟩⟩
    case rest =>
      clear HC7
      try clear c1
      try clear p2
      try clear c3
      try clear c3b0
      try clear c3b1
      try clear c5
      try clear c9
      try clear c9b0
      obtain ⟨kq, x32_6, rfl, HA, HJ6, HB⟩ := hcut
      cases kq with
      | zero => exact absurd HA.out (by simp [gangerlaw07_ClockBack.j0])
      | succ kj6 =>
        have H := HA.out
        clear HA
        simp only [gangerlaw07_ClockBack.j0] at H
        by_cases c10 : x32_6 = true
        · subst c10
          have H1 : (none) = some r := by rw [if_pos rfl] at H; exact H
          clear H
          have H := H1
          clear H1
          exact absurd H (by simp)
        · replace c10 := Bool.eq_false_iff.mpr c10
          subst c10
          have H1 : (if t208 = 0 then ((clock_Parse.f kj6 t207).bind fun bt209 => (if bt209.2 = 0 then (if bt209.1 = a0 then (gangerlaw07_ClockBack.j1 kj6 a1) else (none)) else (none))) else (gangerlaw07_ClockBack.j1 kj6 a1)) = some r := by rw [if_neg (show ¬ (false = true) by decide)] at H; exact H
          clear H
          have H := H1
          clear H1
          have HC11 := Aside0.mk H
          clear H
          go_upto_if 34 with (fail)
          go_cut [] (fun wc => ∃ (kq : Nat), Aside0 (gangerlaw07_ClockBack.j1 kq a1 = some r) ∧ Aside0 (kq ≤ kj6) ∧ Aside0 (Below w.heap.size w wc))
          case first =>
            have H := HC11.out
            clear HC11
            by_cases c12 : t208 = 0
            · rw [if_pos c12] at H
              have c12b0 : (t208 == 0) = true := beq_iff_eq.mpr c12
              have c12b1 : (t208 != 0) = false := bne_eq_false_iff_eq.mpr c12
              clear c12
              (first | rw [c12b0] | (simp only [i64_w, i32_w]; rw [c12b0]) | skip)
              replace H := Option.bind_eq_some_iff.mp H
              obtain ⟨⟨t209, t210⟩, A130, H⟩ := H
              replace H : (if t210 = 0 then (if t209 = a0 then (gangerlaw07_ClockBack.j1 kj6 a1) else (none)) else (none)) = some r := H
              have A13 := Aside0.mk A130
              clear A130
              by_cases c14 : t210 = 0
              · rw [if_pos c14] at H
                have c14b0 : (t210 == 0) = true := beq_iff_eq.mpr c14
                have c14b1 : (t210 != 0) = false := bne_eq_false_iff_eq.mpr c14
                clear c14
                by_cases c15 : t209 = a0
                · rw [if_pos c15] at H
                  have c15b0 : (t209 == a0) = true := beq_iff_eq.mpr c15
                  have c15b1 : (t209 != a0) = false := bne_eq_false_iff_eq.mpr c15
                  clear c15
                  have H' := Aside0.mk H
                  clear H
                  go_wp2_with (first | ((with_reducible refine gate_callee (f := 11) rfl ?_); refine goesL_ (some 37) rfl rfl Tryd.func11 (by kernel_rfl) rfl #[.string t207] rfl (by (try simp only [List.map_toArray, List.map_cons, List.map_nil]); first | done | rfl | (simp only [List.length_drop, List.length_take]; rfl)) ?_; (with_reducible refine (clock_Parse.calls kj6 t207 t209 t210 _ ?side1 A13.out).mono ?_); (case side1 => exact Glob.below HG.out (by repeat (first | (with_reducible first | exact HB.out | apply below_alloc | apply pw_below_drewN | apply below_drew1) | exact HB.out))); rintro e w16 ⟨rfl, hb⟩; refine ⟨_, rfl, ?_⟩; have n0_ := Aside0.mk (below_step (by repeat (first | (with_reducible first | exact HB.out | apply below_alloc | apply pw_below_drewN | apply below_drew1) | exact HB.out)) hb); clear HB; have HB := n0_; clear n0_; (try clear hb); (try clear hb2); (try clear hk); (try clear hi)))
                  go_meet
                  case rel => exact ⟨_, H', ⟨by have := HJ6.out; first | omega | exact Nat.le_refl _⟩, ⟨by repeat (first | (with_reducible first | exact HB.out | apply below_alloc | apply pw_below_drewN | apply below_drew1) | exact HB.out)⟩⟩
                · rw [if_neg c15] at H
                  exact absurd H (by simp)
              · rw [if_neg c14] at H
                exact absurd H (by simp)
            · rw [if_neg c12] at H
              have c12b0 : (t208 == 0) = false := beq_eq_false_iff_ne.mpr c12
              have c12b1 : (t208 != 0) = true := bne_iff_ne.mpr c12
              (first | rw [c12b0] | (simp only [i64_w, i32_w]; rw [c12b0]) | skip)
              have H' := Aside0.mk H
              clear H
              go_wp2
              go_meet
              case rel => exact ⟨_, H', ⟨by have := HJ6.out; first | omega | exact Nat.le_refl _⟩, ⟨by repeat (first | (with_reducible first | exact HB.out | apply below_alloc | apply pw_below_drewN | apply below_drew1) | exact HB.out)⟩⟩
          case rest =>
            clear HC11
            try clear c1
            try clear p2
            try clear c3
            try clear c3b0
            try clear c3b1
            try clear c5
            try clear c9
            try clear c9b0
            try clear c10
            try clear c11
            try clear c12
            try clear c12b0
            try clear c12b1
            try clear c13
            try clear c14
            try clear c14b0
            try clear c14b1
            try clear c15
            try clear c15b0
            try clear c15b1
            try clear p2
            obtain ⟨kq, HA, HJ10, HB⟩ := hcut
            cases kq with
            | zero => exact absurd HA.out (by simp [gangerlaw07_ClockBack.j1])
            | succ kj10 =>
              have H := HA.out
              clear HA
              simp only [gangerlaw07_ClockBack.j1] at H
              replace H := Option.bind_eq_some_iff.mp H
              obtain ⟨⟨t211, t212⟩, A170, H⟩ := H
              replace H : (if t212 = 0 then ((clock_Print.f kj10 t211).bind fun bt213 => ((clock_Parse.f kj10 bt213.1).bind fun bt215 => (if bt213.2 = 0 then (if bt215.2 = 0 then (if bt215.1 = t211 then ((gangerlaw07_known.f kj10).bind fun t217 => (some t217)) else (none)) else (none)) else (none)))) else (if t211 = 0 then ((gangerlaw07_known.f kj10).bind fun t218 => (some t218)) else (none))) = some r := H
              have A17 := Aside0.mk A170
              clear A170
              by_cases c18 : t212 = 0
              · rw [if_pos c18] at H
                have c18b0 : (t212 == 0) = true := beq_iff_eq.mpr c18
                have c18b1 : (t212 != 0) = false := bne_eq_false_iff_eq.mpr c18
                clear c18
                replace H := Option.bind_eq_some_iff.mp H
                obtain ⟨⟨t213, t214⟩, A190, H⟩ := H
                replace H : ((clock_Parse.f kj10 t213).bind fun bt215 => (if t214 = 0 then (if bt215.2 = 0 then (if bt215.1 = t211 then ((gangerlaw07_known.f kj10).bind fun t217 => (some t217)) else (none)) else (none)) else (none))) = some r := H
                have A19 := Aside0.mk A190
                clear A190
                replace H := Option.bind_eq_some_iff.mp H
                obtain ⟨⟨t215, t216⟩, A200, H⟩ := H
                replace H : (if t214 = 0 then (if t216 = 0 then (if t215 = t211 then ((gangerlaw07_known.f kj10).bind fun t217 => (some t217)) else (none)) else (none)) else (none)) = some r := H
                have A20 := Aside0.mk A200
                clear A200
                by_cases c21 : t214 = 0
                · rw [if_pos c21] at H
                  have c21b0 : (t214 == 0) = true := beq_iff_eq.mpr c21
                  have c21b1 : (t214 != 0) = false := bne_eq_false_iff_eq.mpr c21
                  clear c21
                  by_cases c22 : t216 = 0
                  · rw [if_pos c22] at H
                    have c22b0 : (t216 == 0) = true := beq_iff_eq.mpr c22
                    have c22b1 : (t216 != 0) = false := bne_eq_false_iff_eq.mpr c22
                    clear c22
                    by_cases c23 : t215 = t211
                    · rw [if_pos c23] at H
                      have c23b0 : (t215 == t211) = true := beq_iff_eq.mpr c23
                      have c23b1 : (t215 != t211) = false := bne_eq_false_iff_eq.mpr c23
                      clear c23
                      replace H := Option.bind_eq_some_iff.mp H
                      obtain ⟨t217, A240, H⟩ := H
                      replace H : (some t217) = some r := H
                      have A24 := Aside0.mk A240
                      clear A240
                      obtain rfl := Option.some.inj H
                      go_wp2_with (first | ((with_reducible refine gate_callee (f := 11) rfl ?_); refine goesL_ (some 49) rfl rfl Tryd.func11 (by kernel_rfl) rfl #[.string a1] rfl (by (try simp only [List.map_toArray, List.map_cons, List.map_nil]); first | done | rfl | (simp only [List.length_drop, List.length_take]; rfl)) ?_; (with_reducible refine (clock_Parse.calls kj10 a1 t211 t212 _ ?side1 A17.out).mono ?_); (case side1 => exact Glob.below HG.out (by repeat (first | (with_reducible first | exact HB.out | apply below_alloc | apply pw_below_drewN | apply below_drew1) | exact HB.out))); rintro e w25 ⟨rfl, hb⟩; refine ⟨_, rfl, ?_⟩; have n0_ := Aside0.mk (below_step (by repeat (first | (with_reducible first | exact HB.out | apply below_alloc | apply pw_below_drewN | apply below_drew1) | exact HB.out)) hb); clear HB; have HB := n0_; clear n0_; (try clear hb); (try clear hb2); (try clear hk); (try clear hi)) | ((with_reducible refine gate_callee (f := 13) rfl ?_); refine goesL_ (some 61) rfl rfl Tryd.func13 (by kernel_rfl) rfl #[.int .i64 t211] rfl (by (try simp only [List.map_toArray, List.map_cons, List.map_nil]); first | done | rfl | (simp only [List.length_drop, List.length_take]; rfl)) ?_; (with_reducible refine (clock_Print.calls kj10 t211 t213 t214 _ ?side1 A19.out).mono ?_); (case side1 => exact Glob.below HG.out (by repeat (first | (with_reducible first | exact HB.out | apply below_alloc | apply pw_below_drewN | apply below_drew1) | exact HB.out))); rintro e w26 ⟨rfl, hb⟩; refine ⟨_, rfl, ?_⟩; have n0_ := Aside0.mk (below_step (by repeat (first | (with_reducible first | exact HB.out | apply below_alloc | apply pw_below_drewN | apply below_drew1) | exact HB.out)) hb); clear HB; have HB := n0_; clear n0_; (try clear hb); (try clear hb2); (try clear hk); (try clear hi)) | ((with_reducible refine gate_callee (f := 11) rfl ?_); refine goesL_ (some 66) rfl rfl Tryd.func11 (by kernel_rfl) rfl #[.string t213] rfl (by (try simp only [List.map_toArray, List.map_cons, List.map_nil]); first | done | rfl | (simp only [List.length_drop, List.length_take]; rfl)) ?_; (with_reducible refine (clock_Parse.calls kj10 t213 t215 t216 _ ?side1 A20.out).mono ?_); (case side1 => exact Glob.below HG.out (by repeat (first | (with_reducible first | exact HB.out | apply below_alloc | apply pw_below_drewN | apply below_drew1) | exact HB.out))); rintro e w27 ⟨rfl, hb⟩; refine ⟨_, rfl, ?_⟩; have n0_ := Aside0.mk (below_step (by repeat (first | (with_reducible first | exact HB.out | apply below_alloc | apply pw_below_drewN | apply below_drew1) | exact HB.out)) hb); clear HB; have HB := n0_; clear n0_; (try clear hb); (try clear hb2); (try clear hk); (try clear hi)) | (go_at_call 10; (with_reducible refine (gangerlaw07_known.calls kj10  t217 _ ?side1 A24.out).mono ?_); (case side1 => exact Glob.below HG.out (by repeat (first | (with_reducible first | exact HB.out | apply below_alloc | apply pw_below_drewN | apply below_drew1) | exact HB.out))); rintro e w28 ⟨rfl, hb⟩; have n0_ := Aside0.mk (below_step (by repeat (first | (with_reducible first | exact HB.out | apply below_alloc | apply pw_below_drewN | apply below_drew1) | exact HB.out)) hb); clear HB; have HB := n0_; clear n0_; (try clear hb); (try clear hb2); (try clear hk); (try clear hi)))
                      go_ret
                      exact ⟨by first | rfl | (simp [errW_none, errW_some] <;> rfl) | (simp [*, errW_none, errW_some] <;> rfl), by repeat (first | (with_reducible first | exact HB.out | apply below_alloc | apply pw_below_drewN | apply below_drew1) | exact HB.out)⟩
                    · rw [if_neg c23] at H
                      exact absurd H (by simp)
                  · rw [if_neg c22] at H
                    exact absurd H (by simp)
                · rw [if_neg c21] at H
                  exact absurd H (by simp)
              · rw [if_neg c18] at H
                have c18b0 : (t212 == 0) = false := beq_eq_false_iff_ne.mpr c18
                have c18b1 : (t212 != 0) = true := bne_iff_ne.mpr c18
                by_cases c29 : t211 = 0
                · rw [if_pos c29] at H
                  have c29b0 : (t211 == 0) = true := beq_iff_eq.mpr c29
                  have c29b1 : (t211 != 0) = false := bne_eq_false_iff_eq.mpr c29
                  clear c29
                  replace H := Option.bind_eq_some_iff.mp H
                  obtain ⟨t218, A300, H⟩ := H
                  replace H : (some t218) = some r := H
                  have A30 := Aside0.mk A300
                  clear A300
                  obtain rfl := Option.some.inj H
                  go_wp2_with (first | ((with_reducible refine gate_callee (f := 11) rfl ?_); refine goesL_ (some 49) rfl rfl Tryd.func11 (by kernel_rfl) rfl #[.string a1] rfl (by (try simp only [List.map_toArray, List.map_cons, List.map_nil]); first | done | rfl | (simp only [List.length_drop, List.length_take]; rfl)) ?_; (with_reducible refine (clock_Parse.calls kj10 a1 t211 t212 _ ?side1 A17.out).mono ?_); (case side1 => exact Glob.below HG.out (by repeat (first | (with_reducible first | exact HB.out | apply below_alloc | apply pw_below_drewN | apply below_drew1) | exact HB.out))); rintro e w31 ⟨rfl, hb⟩; refine ⟨_, rfl, ?_⟩; have n0_ := Aside0.mk (below_step (by repeat (first | (with_reducible first | exact HB.out | apply below_alloc | apply pw_below_drewN | apply below_drew1) | exact HB.out)) hb); clear HB; have HB := n0_; clear n0_; (try clear hb); (try clear hb2); (try clear hk); (try clear hi)) | (go_at_call 10; (with_reducible refine (gangerlaw07_known.calls kj10  t218 _ ?side1 A30.out).mono ?_); (case side1 => exact Glob.below HG.out (by repeat (first | (with_reducible first | exact HB.out | apply below_alloc | apply pw_below_drewN | apply below_drew1) | exact HB.out))); rintro e w32 ⟨rfl, hb⟩; have n0_ := Aside0.mk (below_step (by repeat (first | (with_reducible first | exact HB.out | apply below_alloc | apply pw_below_drewN | apply below_drew1) | exact HB.out)) hb); clear HB; have HB := n0_; clear n0_; (try clear hb); (try clear hb2); (try clear hk); (try clear hi)))
                  go_ret
                  exact ⟨by first | rfl | (simp [errW_none, errW_some] <;> rfl) | (simp [*, errW_none, errW_some] <;> rfl), by repeat (first | (with_reducible first | exact HB.out | apply below_alloc | apply pw_below_drewN | apply below_drew1) | exact HB.out)⟩
                · rw [if_neg c29] at H
                  exact absurd H (by simp)

/-- THE ONE PURE STATEMENT of gangerlaw07_ClockBack: yours. -/
def gangerlaw07_ClockBack.Pure : Prop := ∀ (a0 : Int) (a1 : ByteArray), (Lit.int .i64 a0).wf = true → a1.size ≤ 140737488351232 → ∃ k, gangerlaw07_ClockBack.f k a0 a1 = some true
theorem gangerlaw07_ClockBack.walk (P : gangerlaw07_ClockBack.Pure) (a0 : Int) (a1 : ByteArray) (w : World) (hG : Glob w) (w0 : (Lit.int .i64 a0).wf = true) (w1 : a1.size ≤ 140737488351232) :
    Calls Tryd.prog 5 #[.int .i64 a0, .string a1] w fun e w' => e = .returned (.bool true) ∧ Below w.heap.size w w' := by
  obtain ⟨k, h⟩ := P a0 a1 w0 w1
  refine (gangerlaw07_ClockBack.calls k a0 a1 true w hG h).mono ?_
  rintro e w' ⟨rfl, hd⟩
  exact ⟨rfl, hd⟩

end Go.Proofs.YtjgfdilikbeofaaDoor.P
