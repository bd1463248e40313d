/- The machine's side of the laws of this seat: each function's plain form and its contract, written by a program of this session out of Lean's print of the loaded functions; no condition beyond what each statement says. -/
import Derived.Test.YtaagimadfhcflaaP0
import Derived.Test.YtaagimadfhcflaaP3
import Derived.Test.YtaagimadfhcflaaP4
namespace Go.Proofs.Ytaagimadfhcflaa.P
open Go.RowKit Go.Proofs.YtaagimadfhcflaaW.PrintWords Go.Proofs.YtaagimadfhcflaaW.PrintLast Go.Proofs.YtaagimadfhcflaaW.PrintMore
attribute [local go_sem] max2_int min2_int max_two min_two max_three min_three max_four min_four   -- for this text's walks alone
set_option linter.unusedVariables false
set_option linter.unusedSimpArgs false

attribute [local go_sem] isSome_setCell
/-! ### gangerlaw02_DecayFalls: function 6 -/
mutual
def gangerlaw02_DecayFalls.j0 : Nat → Int → Int → Int → Int → Int → Int → Bool → Option (Bool)
  | 0, _, _, _, _, _, _, _ => none
  | k + 1, x0, x1, x2, x3, x4, x11, x50 => if x50 = true then (none) else ((decay_After.f k x0 x3 x4).bind fun bt258 => (if bt258.2 = 0 then (if x3 ≥ x2 then (if bt258.1 > x11 then (gangerlaw02_DecayFalls.j1 k x0 x1 x2 x4 x11 true) else (if x3 ≤ x2 then (gangerlaw02_DecayFalls.j1 k x0 x1 x2 x4 x11 (decide (bt258.1 < x11))) else (gangerlaw02_DecayFalls.j1 k x0 x1 x2 x4 x11 false))) else (if x3 ≤ x2 then (gangerlaw02_DecayFalls.j1 k x0 x1 x2 x4 x11 (decide (bt258.1 < x11))) else (gangerlaw02_DecayFalls.j1 k x0 x1 x2 x4 x11 false))) else (gangerlaw02_DecayFalls.j1 k x0 x1 x2 x4 x11 false)))
def gangerlaw02_DecayFalls.j1 : Nat → Int → Int → Int → Int → Int → Bool → Option (Bool)
  | 0, _, _, _, _, _, _ => none
  | k + 1, x0, x1, x2, x4, x11, x79 => if x79 = true then (none) else ((decay_After.f k x1 x2 x4).bind fun bt260 => (if bt260.2 = 0 then (if x1 ≥ x0 then (if bt260.1 < x11 then (none) else (if x1 ≤ x0 then (if bt260.1 > x11 then (none) else ((gangerlaw02_known.f k).bind fun t262 => (some t262))) else ((gangerlaw02_known.f k).bind fun t263 => (some t263)))) else (if x1 ≤ x0 then (if bt260.1 > x11 then (none) else ((gangerlaw02_known.f k).bind fun t264 => (some t264))) else ((gangerlaw02_known.f k).bind fun t265 => (some t265)))) else ((gangerlaw02_known.f k).bind fun t266 => (some t266))))
end
def gangerlaw02_DecayFalls.f (k : Nat) (a0 : Int) (a1 : Int) (a2 : Int) (a3 : Int) (a4 : Int) : Option (Bool) := (decay_After.f k a0 a2 a4).bind fun bt253 => (if bt253.2 = 0 then ((decay_After.f k a0 0 a4).bind fun bt256 => (if bt256.2 = 0 then (if bt256.1 = a0 then (if bt253.1 > a0 then (gangerlaw02_DecayFalls.j0 k a0 a1 a2 a3 a4 bt253.1 true) else (gangerlaw02_DecayFalls.j0 k a0 a1 a2 a3 a4 bt253.1 (decide (bt253.1 < 0)))) else (gangerlaw02_DecayFalls.j0 k a0 a1 a2 a3 a4 bt253.1 true)) else (gangerlaw02_DecayFalls.j0 k a0 a1 a2 a3 a4 bt253.1 true))) else ((gangerlaw02_known.f k).bind fun t255 => (some t255)))
theorem gangerlaw02_DecayFalls.mono_l : ∀ k, (∀ y0 y1 y2 y3 y4 y5 y6, LeO (gangerlaw02_DecayFalls.j0 k y0 y1 y2 y3 y4 y5 y6) (gangerlaw02_DecayFalls.j0 (k + 1) y0 y1 y2 y3 y4 y5 y6)) ∧ (∀ y0 y1 y2 y3 y4 y5, LeO (gangerlaw02_DecayFalls.j1 k y0 y1 y2 y3 y4 y5) (gangerlaw02_DecayFalls.j1 (k + 1) y0 y1 y2 y3 y4 y5))
  | 0 => ⟨fun _ _ _ _ _ _ _ r h => by simp [gangerlaw02_DecayFalls.j0] at h, fun _ _ _ _ _ _ r h => by simp [gangerlaw02_DecayFalls.j1] at h⟩
  | k + 1 => by
    obtain ⟨ih0, ih1⟩ := gangerlaw02_DecayFalls.mono_l k
    refine ⟨?_, ?_⟩
    · intro y0 y1 y2 y3 y4 y5 y6
      unfold gangerlaw02_DecayFalls.j0
      repeat' first
      | (with_reducible exact ih0 _ _ _ _ _ _ _)
      | (with_reducible exact ih1 _ _ _ _ _ _)
      | (with_reducible exact decay_After.mono _ _ _ _)
      | (with_reducible exact gangerlaw02_known.mono _)
      | (with_reducible exact LeO.refl _)
      | (with_reducible exact LeO.none _)
      | (with_reducible refine LeO.ite ?_ ?_)
      | (with_reducible refine LeO.bind ?_ (fun _ => ?_))
      | exact ih0 _ _ _ _ _ _ _
      | exact ih1 _ _ _ _ _ _
      | exact decay_After.mono _ _ _ _
      | exact gangerlaw02_known.mono _
      | exact LeO.none _
      | refine LeO.ite ?_ ?_
      | refine LeO.bind ?_ (fun _ => ?_)
    · intro y0 y1 y2 y3 y4 y5
      unfold gangerlaw02_DecayFalls.j1
      repeat' first
      | (with_reducible exact ih0 _ _ _ _ _ _ _)
      | (with_reducible exact ih1 _ _ _ _ _ _)
      | (with_reducible exact decay_After.mono _ _ _ _)
      | (with_reducible exact gangerlaw02_known.mono _)
      | (with_reducible exact LeO.refl _)
      | (with_reducible exact LeO.none _)
      | (with_reducible refine LeO.ite ?_ ?_)
      | (with_reducible refine LeO.bind ?_ (fun _ => ?_))
      | exact ih0 _ _ _ _ _ _ _
      | exact ih1 _ _ _ _ _ _
      | exact decay_After.mono _ _ _ _
      | exact gangerlaw02_known.mono _
      | exact LeO.none _
      | refine LeO.ite ?_ ?_
      | refine LeO.bind ?_ (fun _ => ?_)
theorem gangerlaw02_DecayFalls.mono : ∀ a0 a1 a2 a3 a4 k, LeO (gangerlaw02_DecayFalls.f k a0 a1 a2 a3 a4) (gangerlaw02_DecayFalls.f (k + 1) a0 a1 a2 a3 a4) := by
  intro a0 a1 a2 a3 a4 k
  obtain ⟨ih0, ih1⟩ := gangerlaw02_DecayFalls.mono_l k
  unfold gangerlaw02_DecayFalls.f
  repeat' first
      | (with_reducible exact ih0 _ _ _ _ _ _ _)
      | (with_reducible exact ih1 _ _ _ _ _ _)
      | (with_reducible exact decay_After.mono _ _ _ _)
      | (with_reducible exact gangerlaw02_known.mono _)
      | (with_reducible exact LeO.refl _)
      | (with_reducible exact LeO.none _)
      | (with_reducible refine LeO.ite ?_ ?_)
      | (with_reducible refine LeO.bind ?_ (fun _ => ?_))
      | exact ih0 _ _ _ _ _ _ _
      | exact ih1 _ _ _ _ _ _
      | exact decay_After.mono _ _ _ _
      | exact gangerlaw02_known.mono _
      | exact LeO.none _
      | refine LeO.ite ?_ ?_
      | refine LeO.bind ?_ (fun _ => ?_)
set_option maxHeartbeats 8000000 in
set_option maxRecDepth 100000 in
theorem gangerlaw02_DecayFalls.calls (k : Nat) (a0 : Int) (a1 : Int) (a2 : Int) (a3 : Int) (a4 : Int) (r : Bool) (w : World) (h : gangerlaw02_DecayFalls.f k a0 a1 a2 a3 a4 = some r) :
    Calls Try.prog 6 #[.int .i64 a0, .int .i64 a1, .int .i64 a2, .int .i64 a3, .int .i64 a4] w fun e w' => e = .returned (.bool r) ∧ Below w.heap.size w w' := by
  have HB := Aside0.mk (Below.refl w.heap.size w)
  have H : ((decay_After.f k a0 a2 a4).bind fun bt253 => (if bt253.2 = 0 then ((decay_After.f k a0 0 a4).bind fun bt256 => (if bt256.2 = 0 then (if bt256.1 = a0 then (if bt253.1 > a0 then (gangerlaw02_DecayFalls.j0 k a0 a1 a2 a3 a4 bt253.1 true) else (gangerlaw02_DecayFalls.j0 k a0 a1 a2 a3 a4 bt253.1 (decide (bt253.1 < 0)))) else (gangerlaw02_DecayFalls.j0 k a0 a1 a2 a3 a4 bt253.1 true)) else (gangerlaw02_DecayFalls.j0 k a0 a1 a2 a3 a4 bt253.1 true))) else ((gangerlaw02_known.f k).bind fun t255 => (some t255)))) = some r := h
  clear h
  replace H := Option.bind_eq_some_iff.mp H
  obtain ⟨⟨t253, t254⟩, A60, H⟩ := H
  replace H : (if t254 = 0 then ((decay_After.f k a0 0 a4).bind fun bt256 => (if bt256.2 = 0 then (if bt256.1 = a0 then (if t253 > a0 then (gangerlaw02_DecayFalls.j0 k a0 a1 a2 a3 a4 t253 true) else (gangerlaw02_DecayFalls.j0 k a0 a1 a2 a3 a4 t253 (decide (t253 < 0)))) else (gangerlaw02_DecayFalls.j0 k a0 a1 a2 a3 a4 t253 true)) else (gangerlaw02_DecayFalls.j0 k a0 a1 a2 a3 a4 t253 true))) else ((gangerlaw02_known.f k).bind fun t255 => (some t255))) = some r := H
  have A6 := Aside0.mk A60
  clear A60
  by_cases c7 : t254 = 0
  · rw [if_pos c7] at H
    have c7b0 : (t254 == 0) = true := beq_iff_eq.mpr c7
    have c7b1 : (t254 != 0) = false := bne_eq_false_iff_eq.mpr c7
    clear c7
    replace H := Option.bind_eq_some_iff.mp H
    obtain ⟨⟨t256, t257⟩, A80, H⟩ := H
    replace H : (if t257 = 0 then (if t256 = a0 then (if t253 > a0 then (gangerlaw02_DecayFalls.j0 k a0 a1 a2 a3 a4 t253 true) else (gangerlaw02_DecayFalls.j0 k a0 a1 a2 a3 a4 t253 (decide (t253 < 0)))) else (gangerlaw02_DecayFalls.j0 k a0 a1 a2 a3 a4 t253 true)) else (gangerlaw02_DecayFalls.j0 k a0 a1 a2 a3 a4 t253 true)) = some r := H
    have A8 := Aside0.mk A80
    clear A80
    have HC9 := Aside0.mk H
    clear H
    go_enter Try.func6, Try.ntmps6
    go_upto_region 5 with (first | ((with_reducible refine gate_callee (f := 13) rfl ?_); refine goesL_ (some 23) rfl rfl Try.func13 (by kernel_rfl) rfl #[.int .i64 a0, .int .i64 a2, .int .i64 a4] rfl (by (try simp only [List.map_toArray, List.map_cons, List.map_nil]); first | done | rfl | (simp only [List.length_drop, List.length_take]; rfl)) ?_; (with_reducible refine (decay_After.calls k a0 a2 a4 t253 t254 _ A6.out).mono ?_); rintro e w10 ⟨rfl, hb⟩; refine ⟨_, rfl, ?_⟩; have n0_ := Aside0.mk (below_step (by repeat (first | (with_reducible first | exact HB.out | apply below_alloc | apply pw_below_drewN | apply below_drew1) | exact HB.out)) hb); clear HB; have HB := n0_; clear n0_; (try clear hb); (try clear hb2); (try clear hk); (try clear hi)) | ((with_reducible refine gate_callee (f := 13) rfl ?_); refine goesL_ (some 32) rfl rfl Try.func13 (by kernel_rfl) rfl #[.int .i64 a0, .int .i64 0, .int .i64 a4] rfl (by (try simp only [List.map_toArray, List.map_cons, List.map_nil]); first | done | rfl | (simp only [List.length_drop, List.length_take]; rfl)) ?_; (with_reducible refine (decay_After.calls k a0 0 a4 t256 t257 _ A8.out).mono ?_); rintro e w11 ⟨rfl, hb⟩; refine ⟨_, rfl, ?_⟩; have n0_ := Aside0.mk (below_step (by repeat (first | (with_reducible first | exact HB.out | apply below_alloc | apply pw_below_drewN | apply below_drew1) | exact HB.out)) hb); clear HB; have HB := n0_; clear n0_; (try clear hb); (try clear hb2); (try clear hk); (try clear hi)))
    (try simp only [Act.put, List.setIfInBounds_toArray, List.set_cons_zero, List.set_cons_succ])
    go_cut [50] (fun v50 wc => ∃ (kq : Nat) (x50_8 : Bool), v50 = .bool x50_8 ∧ Aside0 (gangerlaw02_DecayFalls.j0 kq a0 a1 a2 a3 a4 t253 x50_8 = some r) ∧ Aside0 (kq ≤ k) ∧ Aside0 (Below w.heap.size w wc))
    case first =>
      have H := HC9.out
      clear HC9
      by_cases c12 : t257 = 0
      · rw [if_pos c12] at H
        have c12b0 : (t257 == 0) = true := beq_iff_eq.mpr c12
        have c12b1 : (t257 != 0) = false := bne_eq_false_iff_eq.mpr c12
        clear c12
        (first | rw [c12b0] | (simp only [i64_w, i32_w]; rw [c12b0]) | skip)
        by_cases c13 : t256 = a0
        · rw [if_pos c13] at H
          have c13b0 : (t256 == a0) = true := beq_iff_eq.mpr c13
          have c13b1 : (t256 != a0) = false := bne_eq_false_iff_eq.mpr c13
          clear c13
          by_cases c14 : t253 > a0
          · rw [if_pos c14] at H
            have c14b0 : decide (a0 < t253) = true := decide_eq_true c14
            clear c14
            have H' := Aside0.mk H
            clear H
            go_wp2
            go_meet
            case rel => exact ⟨_, (true), (by first | rfl | (simp; done) | (simp [*]; done)), H', ⟨by first | omega | exact Nat.le_refl _⟩, ⟨by repeat (first | (with_reducible first | exact HB.out | apply below_alloc | apply pw_below_drewN | apply below_drew1) | exact HB.out)⟩⟩
          · rw [if_neg c14] at H
            have c14b0 : decide (a0 < t253) = false := decide_eq_false c14
            clear c14
            have H' := Aside0.mk H
            clear H
            go_wp2
            go_meet
            case rel => exact ⟨_, (decide (t253 < 0)), (by first | rfl | (simp; done) | (simp [*]; done)), H', ⟨by first | omega | exact Nat.le_refl _⟩, ⟨by repeat (first | (with_reducible first | exact HB.out | apply below_alloc | apply pw_below_drewN | apply below_drew1) | exact HB.out)⟩⟩
        · rw [if_neg c13] at H
          have c13b0 : (t256 == a0) = false := beq_eq_false_iff_ne.mpr c13
          have c13b1 : (t256 != a0) = true := bne_iff_ne.mpr c13
          have H' := Aside0.mk H
          clear H
          go_wp2
          go_meet
          case rel => exact ⟨_, (true), (by first | rfl | (simp; done) | (simp [*]; done)), H', ⟨by first | omega | exact Nat.le_refl _⟩, ⟨by repeat (first | (with_reducible first | exact HB.out | apply below_alloc | apply pw_below_drewN | apply below_drew1) | exact HB.out)⟩⟩
      · rw [if_neg c12] at H
        have c12b0 : (t257 == 0) = false := beq_eq_false_iff_ne.mpr c12
        have c12b1 : (t257 != 0) = true := bne_iff_ne.mpr c12
        (first | rw [c12b0] | (simp only [i64_w, i32_w]; rw [c12b0]) | skip)
        have H' := Aside0.mk H
        clear H
        go_wp2
        go_meet
        case rel => exact ⟨_, (true), (by first | rfl | (simp; done) | (simp [*]; done)), H', ⟨by first | omega | exact Nat.le_refl _⟩, ⟨by repeat (first | (with_reducible first | exact HB.out | apply below_alloc | apply pw_below_drewN | apply below_drew1) | exact HB.out)⟩⟩
    case rest =>
      clear HC9
      try clear c1
      try clear p2
      try clear c6
      try clear c7
      try clear c7b0
      try clear c7b1
      try clear c12
      try clear c12b0
      try clear c12b1
      try clear c13
      try clear c13b0
      try clear c13b1
      try clear c14
      try clear c14b0
      obtain ⟨kq, x50_8, rfl, HA, HJ8, HB⟩ := hcut
      cases kq with
      | zero => exact absurd HA.out (by simp [gangerlaw02_DecayFalls.j0])
      | succ kj8 =>
        have H := HA.out
        clear HA
        simp only [gangerlaw02_DecayFalls.j0] at H
        by_cases c15 : x50_8 = true
        · subst c15
          have H1 : (none) = some r := by rw [if_pos rfl] at H; exact H
          clear H
          have H := H1
          clear H1
          exact absurd H (by simp)
        · replace c15 := Bool.eq_false_iff.mpr c15
          subst c15
          have H1 : ((decay_After.f kj8 a0 a3 a4).bind fun bt258 => (if bt258.2 = 0 then (if a3 ≥ a2 then (if bt258.1 > t253 then (gangerlaw02_DecayFalls.j1 kj8 a0 a1 a2 a4 t253 true) else (if a3 ≤ a2 then (gangerlaw02_DecayFalls.j1 kj8 a0 a1 a2 a4 t253 (decide (bt258.1 < t253))) else (gangerlaw02_DecayFalls.j1 kj8 a0 a1 a2 a4 t253 false))) else (if a3 ≤ a2 then (gangerlaw02_DecayFalls.j1 kj8 a0 a1 a2 a4 t253 (decide (bt258.1 < t253))) else (gangerlaw02_DecayFalls.j1 kj8 a0 a1 a2 a4 t253 false))) else (gangerlaw02_DecayFalls.j1 kj8 a0 a1 a2 a4 t253 false))) = some r := by rw [if_neg (show ¬ (false = true) by decide)] at H; exact H
          clear H
          have H := H1
          clear H1
          replace H := Option.bind_eq_some_iff.mp H
          obtain ⟨⟨t258, t259⟩, A160, H⟩ := H
          replace H : (if t259 = 0 then (if a3 ≥ a2 then (if t258 > t253 then (gangerlaw02_DecayFalls.j1 kj8 a0 a1 a2 a4 t253 true) else (if a3 ≤ a2 then (gangerlaw02_DecayFalls.j1 kj8 a0 a1 a2 a4 t253 (decide (t258 < t253))) else (gangerlaw02_DecayFalls.j1 kj8 a0 a1 a2 a4 t253 false))) else (if a3 ≤ a2 then (gangerlaw02_DecayFalls.j1 kj8 a0 a1 a2 a4 t253 (decide (t258 < t253))) else (gangerlaw02_DecayFalls.j1 kj8 a0 a1 a2 a4 t253 false))) else (gangerlaw02_DecayFalls.j1 kj8 a0 a1 a2 a4 t253 false)) = some r := H
          have A16 := Aside0.mk A160
          clear A160
          have HC17 := Aside0.mk H
          clear H
          go_upto_region 8 with (first | ((with_reducible refine gate_callee (f := 13) rfl ?_); refine goesL_ (some 55) rfl rfl Try.func13 (by kernel_rfl) rfl #[.int .i64 a0, .int .i64 a3, .int .i64 a4] rfl (by (try simp only [List.map_toArray, List.map_cons, List.map_nil]); first | done | rfl | (simp only [List.length_drop, List.length_take]; rfl)) ?_; (with_reducible refine (decay_After.calls kj8 a0 a3 a4 t258 t259 _ A16.out).mono ?_); rintro e w18 ⟨rfl, hb⟩; refine ⟨_, rfl, ?_⟩; have n0_ := Aside0.mk (below_step (by repeat (first | (with_reducible first | exact HB.out | apply below_alloc | apply pw_below_drewN | apply below_drew1) | exact HB.out)) hb); clear HB; have HB := n0_; clear n0_; (try clear hb); (try clear hb2); (try clear hk); (try clear hi)))
          (try simp only [Act.put, List.setIfInBounds_toArray, List.set_cons_zero, List.set_cons_succ])
          go_cut [79] (fun v79 wc => ∃ (kq : Nat) (x79_16 : Bool), v79 = .bool x79_16 ∧ Aside0 (gangerlaw02_DecayFalls.j1 kq a0 a1 a2 a4 t253 x79_16 = some r) ∧ Aside0 (kq ≤ kj8) ∧ Aside0 (Below w.heap.size w wc))
          case first =>
            have H := HC17.out
            clear HC17
            by_cases c19 : t259 = 0
            · rw [if_pos c19] at H
              have c19b0 : (t259 == 0) = true := beq_iff_eq.mpr c19
              have c19b1 : (t259 != 0) = false := bne_eq_false_iff_eq.mpr c19
              clear c19
              (first | rw [c19b0] | (simp only [i64_w, i32_w]; rw [c19b0]) | skip)
              by_cases c20 : a3 ≥ a2
              · rw [if_pos c20] at H
                have c20b0 : decide (a2 ≤ a3) = true := decide_eq_true c20
                clear c20
                by_cases c21 : t258 > t253
                · rw [if_pos c21] at H
                  have c21b0 : decide (t253 < t258) = true := decide_eq_true c21
                  clear c21
                  have H' := Aside0.mk H
                  clear H
                  go_wp2
                  go_meet
                  case rel => exact ⟨_, (true), (by first | rfl | (simp; done) | (simp [*]; done)), H', ⟨by have := HJ8.out; first | omega | exact Nat.le_refl _⟩, ⟨by repeat (first | (with_reducible first | exact HB.out | apply below_alloc | apply pw_below_drewN | apply below_drew1) | exact HB.out)⟩⟩
                · rw [if_neg c21] at H
                  have c21b0 : decide (t253 < t258) = false := decide_eq_false c21
                  clear c21
                  by_cases c22 : a3 ≤ a2
                  · rw [if_pos c22] at H
                    have c22b0 : decide (a3 ≤ a2) = true := decide_eq_true c22
                    clear c22
                    have H' := Aside0.mk H
                    clear H
                    go_wp2
                    go_meet
                    case rel => exact ⟨_, (decide (t258 < t253)), (by first | rfl | (simp; done) | (simp [*]; done)), H', ⟨by have := HJ8.out; first | omega | exact Nat.le_refl _⟩, ⟨by repeat (first | (with_reducible first | exact HB.out | apply below_alloc | apply pw_below_drewN | apply below_drew1) | exact HB.out)⟩⟩
                  · rw [if_neg c22] at H
                    have c22b0 : decide (a3 ≤ a2) = false := decide_eq_false c22
                    clear c22
                    have H' := Aside0.mk H
                    clear H
                    go_wp2
                    go_meet
                    case rel => exact ⟨_, (false), (by first | rfl | (simp; done) | (simp [*]; done)), H', ⟨by have := HJ8.out; first | omega | exact Nat.le_refl _⟩, ⟨by repeat (first | (with_reducible first | exact HB.out | apply below_alloc | apply pw_below_drewN | apply below_drew1) | exact HB.out)⟩⟩
              · rw [if_neg c20] at H
                have c20b0 : decide (a2 ≤ a3) = false := decide_eq_false c20
                clear c20
                by_cases c23 : a3 ≤ a2
                · rw [if_pos c23] at H
                  have c23b0 : decide (a3 ≤ a2) = true := decide_eq_true c23
                  clear c23
                  have H' := Aside0.mk H
                  clear H
                  go_wp2
                  go_meet
                  case rel => exact ⟨_, (decide (t258 < t253)), (by first | rfl | (simp; done) | (simp [*]; done)), H', ⟨by have := HJ8.out; first | omega | exact Nat.le_refl _⟩, ⟨by repeat (first | (with_reducible first | exact HB.out | apply below_alloc | apply pw_below_drewN | apply below_drew1) | exact HB.out)⟩⟩
                · rw [if_neg c23] at H
                  have c23b0 : decide (a3 ≤ a2) = false := decide_eq_false c23
                  clear c23
                  have H' := Aside0.mk H
                  clear H
                  go_wp2
                  go_meet
                  case rel => exact ⟨_, (false), (by first | rfl | (simp; done) | (simp [*]; done)), H', ⟨by have := HJ8.out; first | omega | exact Nat.le_refl _⟩, ⟨by repeat (first | (with_reducible first | exact HB.out | apply below_alloc | apply pw_below_drewN | apply below_drew1) | exact HB.out)⟩⟩
            · rw [if_neg c19] at H
              have c19b0 : (t259 == 0) = false := beq_eq_false_iff_ne.mpr c19
              have c19b1 : (t259 != 0) = true := bne_iff_ne.mpr c19
              (first | rw [c19b0] | (simp only [i64_w, i32_w]; rw [c19b0]) | skip)
              have H' := Aside0.mk H
              clear H
              go_wp2
              go_meet
              case rel => exact ⟨_, (false), (by first | rfl | (simp; done) | (simp [*]; done)), H', ⟨by have := HJ8.out; first | omega | exact Nat.le_refl _⟩, ⟨by repeat (first | (with_reducible first | exact HB.out | apply below_alloc | apply pw_below_drewN | apply below_drew1) | exact HB.out)⟩⟩
          case rest =>
            clear HC17
            try clear c1
            try clear c2
            try clear p2
            try clear c6
            try clear c7
            try clear c7b0
            try clear c7b1
            try clear c12
            try clear c12b0
            try clear c12b1
            try clear c13
            try clear c13b0
            try clear c13b1
            try clear c14
            try clear c14b0
            try clear c15
            try clear c19
            try clear c19b0
            try clear c19b1
            try clear c20
            try clear c20b0
            try clear c21
            try clear c21b0
            try clear c22
            try clear c22b0
            try clear c23
            try clear c23b0
            try clear p2
            obtain ⟨kq, x79_16, rfl, HA, HJ16, HB⟩ := hcut
            cases kq with
            | zero => exact absurd HA.out (by simp [gangerlaw02_DecayFalls.j1])
            | succ kj16 =>
              have H := HA.out
              clear HA
              simp only [gangerlaw02_DecayFalls.j1] at H
              by_cases c24 : x79_16 = true
              · subst c24
                have H1 : (none) = some r := by rw [if_pos rfl] at H; exact H
                clear H
                have H := H1
                clear H1
                exact absurd H (by simp)
              · replace c24 := Bool.eq_false_iff.mpr c24
                subst c24
                have H1 : ((decay_After.f kj16 a1 a2 a4).bind fun bt260 => (if bt260.2 = 0 then (if a1 ≥ a0 then (if bt260.1 < t253 then (none) else (if a1 ≤ a0 then (if bt260.1 > t253 then (none) else ((gangerlaw02_known.f kj16).bind fun t262 => (some t262))) else ((gangerlaw02_known.f kj16).bind fun t263 => (some t263)))) else (if a1 ≤ a0 then (if bt260.1 > t253 then (none) else ((gangerlaw02_known.f kj16).bind fun t264 => (some t264))) else ((gangerlaw02_known.f kj16).bind fun t265 => (some t265)))) else ((gangerlaw02_known.f kj16).bind fun t266 => (some t266)))) = some r := by rw [if_neg (show ¬ (false = true) by decide)] at H; exact H
                clear H
                have H := H1
                clear H1
                replace H := Option.bind_eq_some_iff.mp H
                obtain ⟨⟨t260, t261⟩, A250, H⟩ := H
                replace H : (if t261 = 0 then (if a1 ≥ a0 then (if t260 < t253 then (none) else (if a1 ≤ a0 then (if t260 > t253 then (none) else ((gangerlaw02_known.f kj16).bind fun t262 => (some t262))) else ((gangerlaw02_known.f kj16).bind fun t263 => (some t263)))) else (if a1 ≤ a0 then (if t260 > t253 then (none) else ((gangerlaw02_known.f kj16).bind fun t264 => (some t264))) else ((gangerlaw02_known.f kj16).bind fun t265 => (some t265)))) else ((gangerlaw02_known.f kj16).bind fun t266 => (some t266))) = some r := H
                have A25 := Aside0.mk A250
                clear A250
                by_cases c26 : t261 = 0
                · rw [if_pos c26] at H
                  have c26b0 : (t261 == 0) = true := beq_iff_eq.mpr c26
                  have c26b1 : (t261 != 0) = false := bne_eq_false_iff_eq.mpr c26
                  clear c26
                  by_cases c27 : a1 ≥ a0
                  · rw [if_pos c27] at H
                    have c27b0 : decide (a0 ≤ a1) = true := decide_eq_true c27
                    clear c27
                    by_cases c28 : t260 < t253
                    · rw [if_pos c28] at H
                      exact absurd H (by simp)
                    · rw [if_neg c28] at H
                      have c28b0 : decide (t260 < t253) = false := decide_eq_false c28
                      clear c28
                      by_cases c29 : a1 ≤ a0
                      · rw [if_pos c29] at H
                        have c29b0 : decide (a1 ≤ a0) = true := decide_eq_true c29
                        clear c29
                        by_cases c30 : t260 > t253
                        · rw [if_pos c30] at H
                          exact absurd H (by simp)
                        · rw [if_neg c30] at H
                          have c30b0 : decide (t253 < t260) = false := decide_eq_false c30
                          clear c30
                          replace H := Option.bind_eq_some_iff.mp H
                          obtain ⟨t262, A310, H⟩ := H
                          replace H : (some t262) = some r := H
                          have A31 := Aside0.mk A310
                          clear A310
                          obtain rfl := Option.some.inj H
                          go_wp2_with (first | ((with_reducible refine gate_callee (f := 13) rfl ?_); refine goesL_ (some 84) rfl rfl Try.func13 (by kernel_rfl) rfl #[.int .i64 a1, .int .i64 a2, .int .i64 a4] rfl (by (try simp only [List.map_toArray, List.map_cons, List.map_nil]); first | done | rfl | (simp only [List.length_drop, List.length_take]; rfl)) ?_; (with_reducible refine (decay_After.calls kj16 a1 a2 a4 t260 t261 _ A25.out).mono ?_); rintro e w32 ⟨rfl, hb⟩; refine ⟨_, rfl, ?_⟩; have n0_ := Aside0.mk (below_step (by repeat (first | (with_reducible first | exact HB.out | apply below_alloc | apply pw_below_drewN | apply below_drew1) | exact HB.out)) hb); clear HB; have HB := n0_; clear n0_; (try clear hb); (try clear hb2); (try clear hk); (try clear hi)) | ((with_reducible refine gate_callee (f := 12) rfl ?_); refine goesL_ (some 109) rfl rfl Try.func12 (by kernel_rfl) rfl #[] rfl (by (try simp only [List.map_toArray, List.map_cons, List.map_nil]); first | done | rfl | (simp only [List.length_drop, List.length_take]; rfl)) ?_; (with_reducible refine (gangerlaw02_known.calls kj16  t262 _ A31.out).mono ?_); rintro e w33 ⟨rfl, hb⟩; refine ⟨_, rfl, ?_⟩; have n0_ := Aside0.mk (below_step (by repeat (first | (with_reducible first | exact HB.out | apply below_alloc | apply pw_below_drewN | apply below_drew1) | exact HB.out)) hb); clear HB; have HB := n0_; clear n0_; (try clear hb); (try clear hb2); (try clear hk); (try clear hi)))
                          go_ret
                          exact ⟨by first | rfl | (simp [errW_none, errW_some] <;> rfl) | (simp [*, errW_none, errW_some] <;> rfl), by repeat (first | (with_reducible first | exact HB.out | apply below_alloc | apply pw_below_drewN | apply below_drew1) | exact HB.out)⟩
                      · rw [if_neg c29] at H
                        have c29b0 : decide (a1 ≤ a0) = false := decide_eq_false c29
                        clear c29
                        replace H := Option.bind_eq_some_iff.mp H
                        obtain ⟨t263, A340, H⟩ := H
                        replace H : (some t263) = some r := H
                        have A34 := Aside0.mk A340
                        clear A340
                        obtain rfl := Option.some.inj H
                        go_wp2_with (first | ((with_reducible refine gate_callee (f := 13) rfl ?_); refine goesL_ (some 84) rfl rfl Try.func13 (by kernel_rfl) rfl #[.int .i64 a1, .int .i64 a2, .int .i64 a4] rfl (by (try simp only [List.map_toArray, List.map_cons, List.map_nil]); first | done | rfl | (simp only [List.length_drop, List.length_take]; rfl)) ?_; (with_reducible refine (decay_After.calls kj16 a1 a2 a4 t260 t261 _ A25.out).mono ?_); rintro e w35 ⟨rfl, hb⟩; refine ⟨_, rfl, ?_⟩; have n0_ := Aside0.mk (below_step (by repeat (first | (with_reducible first | exact HB.out | apply below_alloc | apply pw_below_drewN | apply below_drew1) | exact HB.out)) hb); clear HB; have HB := n0_; clear n0_; (try clear hb); (try clear hb2); (try clear hk); (try clear hi)) | ((with_reducible refine gate_callee (f := 12) rfl ?_); refine goesL_ (some 109) rfl rfl Try.func12 (by kernel_rfl) rfl #[] rfl (by (try simp only [List.map_toArray, List.map_cons, List.map_nil]); first | done | rfl | (simp only [List.length_drop, List.length_take]; rfl)) ?_; (with_reducible refine (gangerlaw02_known.calls kj16  t263 _ A34.out).mono ?_); rintro e w36 ⟨rfl, hb⟩; refine ⟨_, rfl, ?_⟩; have n0_ := Aside0.mk (below_step (by repeat (first | (with_reducible first | exact HB.out | apply below_alloc | apply pw_below_drewN | apply below_drew1) | exact HB.out)) hb); clear HB; have HB := n0_; clear n0_; (try clear hb); (try clear hb2); (try clear hk); (try clear hi)))
                        go_ret
                        exact ⟨by first | rfl | (simp [errW_none, errW_some] <;> rfl) | (simp [*, errW_none, errW_some] <;> rfl), by repeat (first | (with_reducible first | exact HB.out | apply below_alloc | apply pw_below_drewN | apply below_drew1) | exact HB.out)⟩
                  · rw [if_neg c27] at H
                    have c27b0 : decide (a0 ≤ a1) = false := decide_eq_false c27
                    clear c27
                    by_cases c37 : a1 ≤ a0
                    · rw [if_pos c37] at H
                      have c37b0 : decide (a1 ≤ a0) = true := decide_eq_true c37
                      clear c37
                      by_cases c38 : t260 > t253
                      · rw [if_pos c38] at H
                        exact absurd H (by simp)
                      · rw [if_neg c38] at H
                        have c38b0 : decide (t253 < t260) = false := decide_eq_false c38
                        clear c38
                        replace H := Option.bind_eq_some_iff.mp H
                        obtain ⟨t264, A390, H⟩ := H
                        replace H : (some t264) = some r := H
                        have A39 := Aside0.mk A390
                        clear A390
                        obtain rfl := Option.some.inj H
                        go_wp2_with (first | ((with_reducible refine gate_callee (f := 13) rfl ?_); refine goesL_ (some 84) rfl rfl Try.func13 (by kernel_rfl) rfl #[.int .i64 a1, .int .i64 a2, .int .i64 a4] rfl (by (try simp only [List.map_toArray, List.map_cons, List.map_nil]); first | done | rfl | (simp only [List.length_drop, List.length_take]; rfl)) ?_; (with_reducible refine (decay_After.calls kj16 a1 a2 a4 t260 t261 _ A25.out).mono ?_); rintro e w40 ⟨rfl, hb⟩; refine ⟨_, rfl, ?_⟩; have n0_ := Aside0.mk (below_step (by repeat (first | (with_reducible first | exact HB.out | apply below_alloc | apply pw_below_drewN | apply below_drew1) | exact HB.out)) hb); clear HB; have HB := n0_; clear n0_; (try clear hb); (try clear hb2); (try clear hk); (try clear hi)) | ((with_reducible refine gate_callee (f := 12) rfl ?_); refine goesL_ (some 109) rfl rfl Try.func12 (by kernel_rfl) rfl #[] rfl (by (try simp only [List.map_toArray, List.map_cons, List.map_nil]); first | done | rfl | (simp only [List.length_drop, List.length_take]; rfl)) ?_; (with_reducible refine (gangerlaw02_known.calls kj16  t264 _ A39.out).mono ?_); rintro e w41 ⟨rfl, hb⟩; refine ⟨_, rfl, ?_⟩; have n0_ := Aside0.mk (below_step (by repeat (first | (with_reducible first | exact HB.out | apply below_alloc | apply pw_below_drewN | apply below_drew1) | exact HB.out)) hb); clear HB; have HB := n0_; clear n0_; (try clear hb); (try clear hb2); (try clear hk); (try clear hi)))
                        go_ret
                        exact ⟨by first | rfl | (simp [errW_none, errW_some] <;> rfl) | (simp [*, errW_none, errW_some] <;> rfl), by repeat (first | (with_reducible first | exact HB.out | apply below_alloc | apply pw_below_drewN | apply below_drew1) | exact HB.out)⟩
                    · rw [if_neg c37] at H
                      have c37b0 : decide (a1 ≤ a0) = false := decide_eq_false c37
                      clear c37
                      replace H := Option.bind_eq_some_iff.mp H
                      obtain ⟨t265, A420, H⟩ := H
                      replace H : (some t265) = some r := H
                      have A42 := Aside0.mk A420
                      clear A420
                      obtain rfl := Option.some.inj H
                      go_wp2_with (first | ((with_reducible refine gate_callee (f := 13) rfl ?_); refine goesL_ (some 84) rfl rfl Try.func13 (by kernel_rfl) rfl #[.int .i64 a1, .int .i64 a2, .int .i64 a4] rfl (by (try simp only [List.map_toArray, List.map_cons, List.map_nil]); first | done | rfl | (simp only [List.length_drop, List.length_take]; rfl)) ?_; (with_reducible refine (decay_After.calls kj16 a1 a2 a4 t260 t261 _ A25.out).mono ?_); rintro e w43 ⟨rfl, hb⟩; refine ⟨_, rfl, ?_⟩; have n0_ := Aside0.mk (below_step (by repeat (first | (with_reducible first | exact HB.out | apply below_alloc | apply pw_below_drewN | apply below_drew1) | exact HB.out)) hb); clear HB; have HB := n0_; clear n0_; (try clear hb); (try clear hb2); (try clear hk); (try clear hi)) | ((with_reducible refine gate_callee (f := 12) rfl ?_); refine goesL_ (some 109) rfl rfl Try.func12 (by kernel_rfl) rfl #[] rfl (by (try simp only [List.map_toArray, List.map_cons, List.map_nil]); first | done | rfl | (simp only [List.length_drop, List.length_take]; rfl)) ?_; (with_reducible refine (gangerlaw02_known.calls kj16  t265 _ A42.out).mono ?_); rintro e w44 ⟨rfl, hb⟩; refine ⟨_, rfl, ?_⟩; have n0_ := Aside0.mk (below_step (by repeat (first | (with_reducible first | exact HB.out | apply below_alloc | apply pw_below_drewN | apply below_drew1) | exact HB.out)) hb); clear HB; have HB := n0_; clear n0_; (try clear hb); (try clear hb2); (try clear hk); (try clear hi)))
                      go_ret
                      exact ⟨by first | rfl | (simp [errW_none, errW_some] <;> rfl) | (simp [*, errW_none, errW_some] <;> rfl), by repeat (first | (with_reducible first | exact HB.out | apply below_alloc | apply pw_below_drewN | apply below_drew1) | exact HB.out)⟩
                · rw [if_neg c26] at H
                  have c26b0 : (t261 == 0) = false := beq_eq_false_iff_ne.mpr c26
                  have c26b1 : (t261 != 0) = true := bne_iff_ne.mpr c26
                  replace H := Option.bind_eq_some_iff.mp H
                  obtain ⟨t266, A450, H⟩ := H
                  replace H : (some t266) = some r := H
                  have A45 := Aside0.mk A450
                  clear A450
                  obtain rfl := Option.some.inj H
                  go_wp2_with (first | ((with_reducible refine gate_callee (f := 13) rfl ?_); refine goesL_ (some 84) rfl rfl Try.func13 (by kernel_rfl) rfl #[.int .i64 a1, .int .i64 a2, .int .i64 a4] rfl (by (try simp only [List.map_toArray, List.map_cons, List.map_nil]); first | done | rfl | (simp only [List.length_drop, List.length_take]; rfl)) ?_; (with_reducible refine (decay_After.calls kj16 a1 a2 a4 t260 t261 _ A25.out).mono ?_); rintro e w46 ⟨rfl, hb⟩; refine ⟨_, rfl, ?_⟩; have n0_ := Aside0.mk (below_step (by repeat (first | (with_reducible first | exact HB.out | apply below_alloc | apply pw_below_drewN | apply below_drew1) | exact HB.out)) hb); clear HB; have HB := n0_; clear n0_; (try clear hb); (try clear hb2); (try clear hk); (try clear hi)) | ((with_reducible refine gate_callee (f := 12) rfl ?_); refine goesL_ (some 109) rfl rfl Try.func12 (by kernel_rfl) rfl #[] rfl (by (try simp only [List.map_toArray, List.map_cons, List.map_nil]); first | done | rfl | (simp only [List.length_drop, List.length_take]; rfl)) ?_; (with_reducible refine (gangerlaw02_known.calls kj16  t266 _ A45.out).mono ?_); rintro e w47 ⟨rfl, hb⟩; refine ⟨_, rfl, ?_⟩; have n0_ := Aside0.mk (below_step (by repeat (first | (with_reducible first | exact HB.out | apply below_alloc | apply pw_below_drewN | apply below_drew1) | exact HB.out)) hb); clear HB; have HB := n0_; clear n0_; (try clear hb); (try clear hb2); (try clear hk); (try clear hi)))
                  go_ret
                  exact ⟨by first | rfl | (simp [errW_none, errW_some] <;> rfl) | (simp [*, errW_none, errW_some] <;> rfl), by repeat (first | (with_reducible first | exact HB.out | apply below_alloc | apply pw_below_drewN | apply below_drew1) | exact HB.out)⟩
  · rw [if_neg c7] at H
    have c7b0 : (t254 == 0) = false := beq_eq_false_iff_ne.mpr c7
    have c7b1 : (t254 != 0) = true := bne_iff_ne.mpr c7
    replace H := Option.bind_eq_some_iff.mp H
    obtain ⟨t255, A480, H⟩ := H
    replace H : (some t255) = some r := H
    have A48 := Aside0.mk A480
    clear A480
    obtain rfl := Option.some.inj H
    go_enter Try.func6, Try.ntmps6
    go_wp2_with (first | ((with_reducible refine gate_callee (f := 13) rfl ?_); refine goesL_ (some 23) rfl rfl Try.func13 (by kernel_rfl) rfl #[.int .i64 a0, .int .i64 a2, .int .i64 a4] rfl (by (try simp only [List.map_toArray, List.map_cons, List.map_nil]); first | done | rfl | (simp only [List.length_drop, List.length_take]; rfl)) ?_; (with_reducible refine (decay_After.calls k a0 a2 a4 t253 t254 _ A6.out).mono ?_); rintro e w49 ⟨rfl, hb⟩; refine ⟨_, rfl, ?_⟩; have n0_ := Aside0.mk (below_step (by repeat (first | (with_reducible first | exact HB.out | apply below_alloc | apply pw_below_drewN | apply below_drew1) | exact HB.out)) hb); clear HB; have HB := n0_; clear n0_; (try clear hb); (try clear hb2); (try clear hk); (try clear hi)) | ((with_reducible refine gate_callee (f := 12) rfl ?_); refine goesL_ (some 28) rfl rfl Try.func12 (by kernel_rfl) rfl #[] rfl (by (try simp only [List.map_toArray, List.map_cons, List.map_nil]); first | done | rfl | (simp only [List.length_drop, List.length_take]; rfl)) ?_; (with_reducible refine (gangerlaw02_known.calls k  t255 _ A48.out).mono ?_); rintro e w50 ⟨rfl, hb⟩; refine ⟨_, rfl, ?_⟩; have n0_ := Aside0.mk (below_step (by repeat (first | (with_reducible first | exact HB.out | apply below_alloc | apply pw_below_drewN | apply below_drew1) | exact HB.out)) hb); clear HB; have HB := n0_; clear n0_; (try clear hb); (try clear hb2); (try clear hk); (try clear hi)))
    go_ret
    exact ⟨by first | rfl | (simp [errW_none, errW_some] <;> rfl) | (simp [*, errW_none, errW_some] <;> rfl), by repeat (first | (with_reducible first | exact HB.out | apply below_alloc | apply pw_below_drewN | apply below_drew1) | exact HB.out)⟩

/-- THE ONE PURE STATEMENT of gangerlaw02_DecayFalls: yours. -/
def gangerlaw02_DecayFalls.Pure : Prop := ∀ (a0 : Int) (a1 : Int) (a2 : Int) (a3 : Int) (a4 : Int), (Lit.int .i64 a0).wf = true → (Lit.int .i64 a1).wf = true → (Lit.int .i64 a2).wf = true → (Lit.int .i64 a3).wf = true → (Lit.int .i64 a4).wf = true → ∃ k, gangerlaw02_DecayFalls.f k a0 a1 a2 a3 a4 = some true
theorem gangerlaw02_DecayFalls.walk (P : gangerlaw02_DecayFalls.Pure) (a0 : Int) (a1 : Int) (a2 : Int) (a3 : Int) (a4 : Int) (w : World) (w0 : (Lit.int .i64 a0).wf = true) (w1 : (Lit.int .i64 a1).wf = true) (w2 : (Lit.int .i64 a2).wf = true) (w3 : (Lit.int .i64 a3).wf = true) (w4 : (Lit.int .i64 a4).wf = true) :
    Calls Try.prog 6 #[.int .i64 a0, .int .i64 a1, .int .i64 a2, .int .i64 a3, .int .i64 a4] w fun e w' => e = .returned (.bool true) ∧ Below w.heap.size w w' := by
  obtain ⟨k, h⟩ := P a0 a1 a2 a3 a4 w0 w1 w2 w3 w4
  refine (gangerlaw02_DecayFalls.calls k a0 a1 a2 a3 a4 true w h).mono ?_
  rintro e w' ⟨rfl, hd⟩
  exact ⟨rfl, hd⟩

/-! ### gangerlaw02_DecayHalves: function 7 -/
def gangerlaw02_DecayHalves.j0 : Nat → Int → Int → Int → Int → Bool → Option (Bool)
  | 0, _, _, _, _, _ => none
  | k + 1, x0, x1, x2, x3, x28 => if x28 = true then ((gangerlaw02_known.f k).bind fun t267 => (some t267)) else (if (IntKind.u64.wrap (x3)) = 0 then (none) else ((decay_After.f k x0 x3 x3).bind fun bt268 => ((decay_After.f k x0 (wrap64 ((wrap64 (Int.tmod (IntKind.u64.wrap (x1)) 70)) * x3)) x3).bind fun bt270 => ((decay_After.f k bt270.1 (wrap64 (Int.tmod (IntKind.u64.wrap (x2)) (IntKind.u64.wrap (x3)))) x3).bind fun bt272 => ((decay_After.f k x0 (wrap64 ((wrap64 ((wrap64 (Int.tmod (IntKind.u64.wrap (x1)) 70)) * x3)) + (wrap64 (Int.tmod (IntKind.u64.wrap (x2)) (IntKind.u64.wrap (x3)))))) x3).bind fun bt274 => (if bt268.2 = 0 then (if bt268.1 = (wrap64 (Int.tdiv x0 2)) then (if bt270.2 = 0 then (if bt272.2 = 0 then (if bt274.2 = 0 then (if bt272.1 = bt274.1 then ((gangerlaw02_known.f k).bind fun t276 => (some t276)) else (none)) else (none)) else (none)) else (none)) else (none)) else (none)))))))
def gangerlaw02_DecayHalves.f (k : Nat) (a0 : Int) (a1 : Int) (a2 : Int) (a3 : Int) : Option (Bool) := if a0 < 0 then (gangerlaw02_DecayHalves.j0 k a0 a1 a2 a3 true) else (if a3 < 1 then (gangerlaw02_DecayHalves.j0 k a0 a1 a2 a3 true) else (gangerlaw02_DecayHalves.j0 k a0 a1 a2 a3 (decide (a3 > 1000000))))
theorem gangerlaw02_DecayHalves.mono_l : ∀ k, (∀ y0 y1 y2 y3 y4, LeO (gangerlaw02_DecayHalves.j0 k y0 y1 y2 y3 y4) (gangerlaw02_DecayHalves.j0 (k + 1) y0 y1 y2 y3 y4))
  | 0 => fun _ _ _ _ _ r h => by simp [gangerlaw02_DecayHalves.j0] at h
  | k + 1 => by
    have ih0 := gangerlaw02_DecayHalves.mono_l k
    · intro y0 y1 y2 y3 y4
      unfold gangerlaw02_DecayHalves.j0
      repeat' first
      | (with_reducible exact ih0 _ _ _ _ _)
      | (with_reducible exact decay_After.mono _ _ _ _)
      | (with_reducible exact gangerlaw02_known.mono _)
      | (with_reducible exact LeO.refl _)
      | (with_reducible exact LeO.none _)
      | (with_reducible refine LeO.ite ?_ ?_)
      | (with_reducible refine LeO.bind ?_ (fun _ => ?_))
      | exact ih0 _ _ _ _ _
      | exact decay_After.mono _ _ _ _
      | exact gangerlaw02_known.mono _
      | exact LeO.none _
      | refine LeO.ite ?_ ?_
      | refine LeO.bind ?_ (fun _ => ?_)
theorem gangerlaw02_DecayHalves.mono : ∀ a0 a1 a2 a3 k, LeO (gangerlaw02_DecayHalves.f k a0 a1 a2 a3) (gangerlaw02_DecayHalves.f (k + 1) a0 a1 a2 a3) := by
  intro a0 a1 a2 a3 k
  have ih0 := gangerlaw02_DecayHalves.mono_l k
  unfold gangerlaw02_DecayHalves.f
  repeat' first
      | (with_reducible exact ih0 _ _ _ _ _)
      | (with_reducible exact decay_After.mono _ _ _ _)
      | (with_reducible exact gangerlaw02_known.mono _)
      | (with_reducible exact LeO.refl _)
      | (with_reducible exact LeO.none _)
      | (with_reducible refine LeO.ite ?_ ?_)
      | (with_reducible refine LeO.bind ?_ (fun _ => ?_))
      | exact ih0 _ _ _ _ _
      | exact decay_After.mono _ _ _ _
      | exact gangerlaw02_known.mono _
      | exact LeO.none _
      | refine LeO.ite ?_ ?_
      | refine LeO.bind ?_ (fun _ => ?_)
set_option maxHeartbeats 8000000 in
set_option maxRecDepth 100000 in
theorem gangerlaw02_DecayHalves.calls (k : Nat) (a0 : Int) (a1 : Int) (a2 : Int) (a3 : Int) (r : Bool) (w : World) (h : gangerlaw02_DecayHalves.f k a0 a1 a2 a3 = some r) :
    Calls Try.prog 7 #[.int .i64 a0, .int .i64 a1, .int .i64 a2, .int .i64 a3] w fun e w' => e = .returned (.bool r) ∧ Below w.heap.size w w' := by
  have HB := Aside0.mk (Below.refl w.heap.size w)
  have H : (if a0 < 0 then (gangerlaw02_DecayHalves.j0 k a0 a1 a2 a3 true) else (if a3 < 1 then (gangerlaw02_DecayHalves.j0 k a0 a1 a2 a3 true) else (gangerlaw02_DecayHalves.j0 k a0 a1 a2 a3 (decide (a3 > 1000000))))) = some r := h
  clear h
  have HC5 := Aside0.mk H
  clear H
  go_enter Try.func7, Try.ntmps7
  go_upto_region 1 with (fail)
  go_cut [28] (fun v28 wc => ∃ (kq : Nat) (x28_4 : Bool), v28 = .bool x28_4 ∧ Aside0 (gangerlaw02_DecayHalves.j0 kq a0 a1 a2 a3 x28_4 = some r) ∧ Aside0 (kq ≤ k) ∧ Aside0 (Below w.heap.size w wc))
  case first =>
    have H := HC5.out
    clear HC5
    by_cases c6 : a0 < 0
    · rw [if_pos c6] at H
      have c6b0 : decide (a0 < 0) = true := decide_eq_true c6
      clear c6
      (first | rw [c6b0] | (simp only [i64_w, i32_w]; rw [c6b0]) | skip)
      have H' := Aside0.mk H
      clear H
      go_wp2
      go_meet
      case rel => exact ⟨_, (true), (by first | rfl | (simp; done) | (simp [*]; done)), H', ⟨by first | omega | exact Nat.le_refl _⟩, ⟨by repeat (first | (with_reducible first | exact HB.out | apply below_alloc | apply pw_below_drewN | apply below_drew1) | exact HB.out)⟩⟩
    · rw [if_neg c6] at H
      have c6b0 : decide (a0 < 0) = false := decide_eq_false c6
      clear c6
      (first | rw [c6b0] | (simp only [i64_w, i32_w]; rw [c6b0]) | skip)
      by_cases c7 : a3 < 1
      · rw [if_pos c7] at H
        have c7b0 : decide (a3 < 1) = true := decide_eq_true c7
        clear c7
        have H' := Aside0.mk H
        clear H
        go_wp2
        go_meet
        case rel => exact ⟨_, (true), (by first | rfl | (simp; done) | (simp [*]; done)), H', ⟨by first | omega | exact Nat.le_refl _⟩, ⟨by repeat (first | (with_reducible first | exact HB.out | apply below_alloc | apply pw_below_drewN | apply below_drew1) | exact HB.out)⟩⟩
      · rw [if_neg c7] at H
        have c7b0 : decide (a3 < 1) = false := decide_eq_false c7
        clear c7
        have H' := Aside0.mk H
        clear H
        go_wp2
        go_meet
        case rel => exact ⟨_, (decide (a3 > 1000000)), (by first | rfl | (simp; done) | (simp [*]; done)), H', ⟨by first | omega | exact Nat.le_refl _⟩, ⟨by repeat (first | (with_reducible first | exact HB.out | apply below_alloc | apply pw_below_drewN | apply below_drew1) | exact HB.out)⟩⟩
  case rest =>
    clear HC5
    try clear p2
    try clear c6
    try clear c6b0
    try clear c7
    try clear c7b0
    obtain ⟨kq, x28_4, rfl, HA, HJ4, HB⟩ := hcut
    cases kq with
    | zero => exact absurd HA.out (by simp [gangerlaw02_DecayHalves.j0])
    | succ kj4 =>
      have H := HA.out
      clear HA
      simp only [gangerlaw02_DecayHalves.j0] at H
      by_cases c8 : x28_4 = true
      · subst c8
        have H1 : ((gangerlaw02_known.f kj4).bind fun t267 => (some t267)) = some r := by rw [if_pos rfl] at H; exact H
        clear H
        have H := H1
        clear H1
        replace H := Option.bind_eq_some_iff.mp H
        obtain ⟨t267, A90, H⟩ := H
        replace H : (some t267) = some r := H
        have A9 := Aside0.mk A90
        clear A90
        obtain rfl := Option.some.inj H
        go_wp2_with (first | ((with_reducible refine gate_callee (f := 12) rfl ?_); refine goesL_ (some 29) rfl rfl Try.func12 (by kernel_rfl) rfl #[] rfl (by (try simp only [List.map_toArray, List.map_cons, List.map_nil]); first | done | rfl | (simp only [List.length_drop, List.length_take]; rfl)) ?_; (with_reducible refine (gangerlaw02_known.calls kj4  t267 _ A9.out).mono ?_); rintro e w10 ⟨rfl, hb⟩; refine ⟨_, rfl, ?_⟩; have n0_ := Aside0.mk (below_step (by repeat (first | (with_reducible first | exact HB.out | apply below_alloc | apply pw_below_drewN | apply below_drew1) | exact HB.out)) hb); clear HB; have HB := n0_; clear n0_; (try clear hb); (try clear hb2); (try clear hk); (try clear hi)))
        go_ret
        exact ⟨by first | rfl | (simp [errW_none, errW_some] <;> rfl) | (simp [*, errW_none, errW_some] <;> rfl), by repeat (first | (with_reducible first | exact HB.out | apply below_alloc | apply pw_below_drewN | apply below_drew1) | exact HB.out)⟩
      · replace c8 := Bool.eq_false_iff.mpr c8
        subst c8
        have H1 : (if (IntKind.u64.wrap (a3)) = 0 then (none) else ((decay_After.f kj4 a0 a3 a3).bind fun bt268 => ((decay_After.f kj4 a0 (wrap64 ((wrap64 (Int.tmod (IntKind.u64.wrap (a1)) 70)) * a3)) a3).bind fun bt270 => ((decay_After.f kj4 bt270.1 (wrap64 (Int.tmod (IntKind.u64.wrap (a2)) (IntKind.u64.wrap (a3)))) a3).bind fun bt272 => ((decay_After.f kj4 a0 (wrap64 ((wrap64 ((wrap64 (Int.tmod (IntKind.u64.wrap (a1)) 70)) * a3)) + (wrap64 (Int.tmod (IntKind.u64.wrap (a2)) (IntKind.u64.wrap (a3)))))) a3).bind fun bt274 => (if bt268.2 = 0 then (if bt268.1 = (wrap64 (Int.tdiv a0 2)) then (if bt270.2 = 0 then (if bt272.2 = 0 then (if bt274.2 = 0 then (if bt272.1 = bt274.1 then ((gangerlaw02_known.f kj4).bind fun t276 => (some t276)) else (none)) else (none)) else (none)) else (none)) else (none)) else (none))))))) = some r := by rw [if_neg (show ¬ (false = true) by decide)] at H; exact H
        clear H
        have H := H1
        clear H1
        by_cases c11 : (IntKind.u64.wrap (a3)) = 0
        · rw [if_pos c11] at H
          exact absurd H (by simp)
        · rw [if_neg c11] at H
          have c11b0 : ((IntKind.u64.wrap (a3)) == 0) = false := beq_eq_false_iff_ne.mpr c11
          have c11b1 : ((IntKind.u64.wrap (a3)) != 0) = true := bne_iff_ne.mpr c11
          replace H := Option.bind_eq_some_iff.mp H
          obtain ⟨⟨t268, t269⟩, A120, H⟩ := H
          replace H : ((decay_After.f kj4 a0 (wrap64 ((wrap64 (Int.tmod (IntKind.u64.wrap (a1)) 70)) * a3)) a3).bind fun bt270 => ((decay_After.f kj4 bt270.1 (wrap64 (Int.tmod (IntKind.u64.wrap (a2)) (IntKind.u64.wrap (a3)))) a3).bind fun bt272 => ((decay_After.f kj4 a0 (wrap64 ((wrap64 ((wrap64 (Int.tmod (IntKind.u64.wrap (a1)) 70)) * a3)) + (wrap64 (Int.tmod (IntKind.u64.wrap (a2)) (IntKind.u64.wrap (a3)))))) a3).bind fun bt274 => (if t269 = 0 then (if t268 = (wrap64 (Int.tdiv a0 2)) then (if bt270.2 = 0 then (if bt272.2 = 0 then (if bt274.2 = 0 then (if bt272.1 = bt274.1 then ((gangerlaw02_known.f kj4).bind fun t276 => (some t276)) else (none)) else (none)) else (none)) else (none)) else (none)) else (none))))) = some r := H
          have A12 := Aside0.mk A120
          clear A120
          replace H := Option.bind_eq_some_iff.mp H
          obtain ⟨⟨t270, t271⟩, A130, H⟩ := H
          replace H : ((decay_After.f kj4 t270 (wrap64 (Int.tmod (IntKind.u64.wrap (a2)) (IntKind.u64.wrap (a3)))) a3).bind fun bt272 => ((decay_After.f kj4 a0 (wrap64 ((wrap64 ((wrap64 (Int.tmod (IntKind.u64.wrap (a1)) 70)) * a3)) + (wrap64 (Int.tmod (IntKind.u64.wrap (a2)) (IntKind.u64.wrap (a3)))))) a3).bind fun bt274 => (if t269 = 0 then (if t268 = (wrap64 (Int.tdiv a0 2)) then (if t271 = 0 then (if bt272.2 = 0 then (if bt274.2 = 0 then (if bt272.1 = bt274.1 then ((gangerlaw02_known.f kj4).bind fun t276 => (some t276)) else (none)) else (none)) else (none)) else (none)) else (none)) else (none)))) = some r := H
          have A13 := Aside0.mk A130
          clear A130
          replace H := Option.bind_eq_some_iff.mp H
          obtain ⟨⟨t272, t273⟩, A140, H⟩ := H
          replace H : ((decay_After.f kj4 a0 (wrap64 ((wrap64 ((wrap64 (Int.tmod (IntKind.u64.wrap (a1)) 70)) * a3)) + (wrap64 (Int.tmod (IntKind.u64.wrap (a2)) (IntKind.u64.wrap (a3)))))) a3).bind fun bt274 => (if t269 = 0 then (if t268 = (wrap64 (Int.tdiv a0 2)) then (if t271 = 0 then (if t273 = 0 then (if bt274.2 = 0 then (if t272 = bt274.1 then ((gangerlaw02_known.f kj4).bind fun t276 => (some t276)) else (none)) else (none)) else (none)) else (none)) else (none)) else (none))) = some r := H
          have A14 := Aside0.mk A140
          clear A140
          replace H := Option.bind_eq_some_iff.mp H
          obtain ⟨⟨t274, t275⟩, A150, H⟩ := H
          replace H : (if t269 = 0 then (if t268 = (wrap64 (Int.tdiv a0 2)) then (if t271 = 0 then (if t273 = 0 then (if t275 = 0 then (if t272 = t274 then ((gangerlaw02_known.f kj4).bind fun t276 => (some t276)) else (none)) else (none)) else (none)) else (none)) else (none)) else (none)) = some r := H
          have A15 := Aside0.mk A150
          clear A150
          by_cases c16 : t269 = 0
          · rw [if_pos c16] at H
            have c16b0 : (t269 == 0) = true := beq_iff_eq.mpr c16
            have c16b1 : (t269 != 0) = false := bne_eq_false_iff_eq.mpr c16
            clear c16
            by_cases c17 : t268 = (wrap64 (Int.tdiv a0 2))
            · rw [if_pos c17] at H
              have c17b0 : (t268 == (wrap64 (Int.tdiv a0 2))) = true := beq_iff_eq.mpr c17
              have c17b1 : (t268 != (wrap64 (Int.tdiv a0 2))) = false := bne_eq_false_iff_eq.mpr c17
              clear c17
              by_cases c18 : t271 = 0
              · rw [if_pos c18] at H
                have c18b0 : (t271 == 0) = true := beq_iff_eq.mpr c18
                have c18b1 : (t271 != 0) = false := bne_eq_false_iff_eq.mpr c18
                clear c18
                by_cases c19 : t273 = 0
                · rw [if_pos c19] at H
                  have c19b0 : (t273 == 0) = true := beq_iff_eq.mpr c19
                  have c19b1 : (t273 != 0) = false := bne_eq_false_iff_eq.mpr c19
                  clear c19
                  by_cases c20 : t275 = 0
                  · rw [if_pos c20] at H
                    have c20b0 : (t275 == 0) = true := beq_iff_eq.mpr c20
                    have c20b1 : (t275 != 0) = false := bne_eq_false_iff_eq.mpr c20
                    clear c20
                    by_cases c21 : t272 = t274
                    · rw [if_pos c21] at H
                      have c21b0 : (t272 == t274) = true := beq_iff_eq.mpr c21
                      have c21b1 : (t272 != t274) = false := bne_eq_false_iff_eq.mpr c21
                      clear c21
                      replace H := Option.bind_eq_some_iff.mp H
                      obtain ⟨t276, A220, H⟩ := H
                      replace H : (some t276) = some r := H
                      have A22 := Aside0.mk A220
                      clear A220
                      obtain rfl := Option.some.inj H
                      go_wp2_with (first | ((with_reducible refine gate_callee (f := 13) rfl ?_); refine goesL_ (some 44) rfl rfl Try.func13 (by kernel_rfl) rfl #[.int .i64 a0, .int .i64 a3, .int .i64 a3] rfl (by (try simp only [List.map_toArray, List.map_cons, List.map_nil]); first | done | rfl | (simp only [List.length_drop, List.length_take]; rfl)) ?_; (with_reducible refine (decay_After.calls kj4 a0 a3 a3 t268 t269 _ A12.out).mono ?_); rintro e w23 ⟨rfl, hb⟩; refine ⟨_, rfl, ?_⟩; have n0_ := Aside0.mk (below_step (by repeat (first | (with_reducible first | exact HB.out | apply below_alloc | apply pw_below_drewN | apply below_drew1) | exact HB.out)) hb); clear HB; have HB := n0_; clear n0_; (try clear hb); (try clear hb2); (try clear hk); (try clear hi)) | ((with_reducible refine gate_callee (f := 13) rfl ?_); refine goesL_ (some 53) rfl rfl Try.func13 (by kernel_rfl) rfl #[.int .i64 a0, .int .i64 (wrap64 ((wrap64 (Int.tmod (IntKind.u64.wrap (a1)) 70)) * a3)), .int .i64 a3] rfl (by (try simp only [List.map_toArray, List.map_cons, List.map_nil]); first | done | rfl | (simp only [List.length_drop, List.length_take]; rfl)) ?_; (with_reducible refine (decay_After.calls kj4 a0 (wrap64 ((wrap64 (Int.tmod (IntKind.u64.wrap (a1)) 70)) * a3)) a3 t270 t271 _ A13.out).mono ?_); rintro e w24 ⟨rfl, hb⟩; refine ⟨_, rfl, ?_⟩; have n0_ := Aside0.mk (below_step (by repeat (first | (with_reducible first | exact HB.out | apply below_alloc | apply pw_below_drewN | apply below_drew1) | exact HB.out)) hb); clear HB; have HB := n0_; clear n0_; (try clear hb); (try clear hb2); (try clear hk); (try clear hi)) | ((with_reducible refine gate_callee (f := 13) rfl ?_); refine goesL_ (some 60) rfl rfl Try.func13 (by kernel_rfl) rfl #[.int .i64 t270, .int .i64 (wrap64 (Int.tmod (IntKind.u64.wrap (a2)) (IntKind.u64.wrap (a3)))), .int .i64 a3] rfl (by (try simp only [List.map_toArray, List.map_cons, List.map_nil]); first | done | rfl | (simp only [List.length_drop, List.length_take]; rfl)) ?_; (with_reducible refine (decay_After.calls kj4 t270 (wrap64 (Int.tmod (IntKind.u64.wrap (a2)) (IntKind.u64.wrap (a3)))) a3 t272 t273 _ A14.out).mono ?_); rintro e w25 ⟨rfl, hb⟩; refine ⟨_, rfl, ?_⟩; have n0_ := Aside0.mk (below_step (by repeat (first | (with_reducible first | exact HB.out | apply below_alloc | apply pw_below_drewN | apply below_drew1) | exact HB.out)) hb); clear HB; have HB := n0_; clear n0_; (try clear hb); (try clear hb2); (try clear hk); (try clear hi)) | ((with_reducible refine gate_callee (f := 13) rfl ?_); refine goesL_ (some 71) rfl rfl Try.func13 (by kernel_rfl) rfl #[.int .i64 a0, .int .i64 (wrap64 ((wrap64 ((wrap64 (Int.tmod (IntKind.u64.wrap (a1)) 70)) * a3)) + (wrap64 (Int.tmod (IntKind.u64.wrap (a2)) (IntKind.u64.wrap (a3)))))), .int .i64 a3] rfl (by (try simp only [List.map_toArray, List.map_cons, List.map_nil]); first | done | rfl | (simp only [List.length_drop, List.length_take]; rfl)) ?_; (with_reducible refine (decay_After.calls kj4 a0 (wrap64 ((wrap64 ((wrap64 (Int.tmod (IntKind.u64.wrap (a1)) 70)) * a3)) + (wrap64 (Int.tmod (IntKind.u64.wrap (a2)) (IntKind.u64.wrap (a3)))))) a3 t274 t275 _ A15.out).mono ?_); rintro e w26 ⟨rfl, hb⟩; refine ⟨_, rfl, ?_⟩; have n0_ := Aside0.mk (below_step (by repeat (first | (with_reducible first | exact HB.out | apply below_alloc | apply pw_below_drewN | apply below_drew1) | exact HB.out)) hb); clear HB; have HB := n0_; clear n0_; (try clear hb); (try clear hb2); (try clear hk); (try clear hi)) | (go_at_call 12; (with_reducible refine (gangerlaw02_known.calls kj4  t276 _ A22.out).mono ?_); rintro e w27 ⟨rfl, hb⟩; have n0_ := Aside0.mk (below_step (by repeat (first | (with_reducible first | exact HB.out | apply below_alloc | apply pw_below_drewN | apply below_drew1) | exact HB.out)) hb); clear HB; have HB := n0_; clear n0_; (try clear hb); (try clear hb2); (try clear hk); (try clear hi)))
                      go_ret
                      exact ⟨by first | rfl | (simp [errW_none, errW_some] <;> rfl) | (simp [*, errW_none, errW_some] <;> rfl), by repeat (first | (with_reducible first | exact HB.out | apply below_alloc | apply pw_below_drewN | apply below_drew1) | exact HB.out)⟩
                    · rw [if_neg c21] at H
                      exact absurd H (by simp)
                  · rw [if_neg c20] at H
                    exact absurd H (by simp)
                · rw [if_neg c19] at H
                  exact absurd H (by simp)
              · rw [if_neg c18] at H
                exact absurd H (by simp)
            · rw [if_neg c17] at H
              exact absurd H (by simp)
          · rw [if_neg c16] at H
            exact absurd H (by simp)

/-- THE ONE PURE STATEMENT of gangerlaw02_DecayHalves: yours. -/
def gangerlaw02_DecayHalves.Pure : Prop := ∀ (a0 : Int) (a1 : Int) (a2 : Int) (a3 : Int), (Lit.int .i64 a0).wf = true → (Lit.int .i64 a1).wf = true → (Lit.int .i64 a2).wf = true → (Lit.int .i64 a3).wf = true → ∃ k, gangerlaw02_DecayHalves.f k a0 a1 a2 a3 = some true
theorem gangerlaw02_DecayHalves.walk (P : gangerlaw02_DecayHalves.Pure) (a0 : Int) (a1 : Int) (a2 : Int) (a3 : Int) (w : World) (w0 : (Lit.int .i64 a0).wf = true) (w1 : (Lit.int .i64 a1).wf = true) (w2 : (Lit.int .i64 a2).wf = true) (w3 : (Lit.int .i64 a3).wf = true) :
    Calls Try.prog 7 #[.int .i64 a0, .int .i64 a1, .int .i64 a2, .int .i64 a3] w fun e w' => e = .returned (.bool true) ∧ Below w.heap.size w w' := by
  obtain ⟨k, h⟩ := P a0 a1 a2 a3 w0 w1 w2 w3
  refine (gangerlaw02_DecayHalves.calls k a0 a1 a2 a3 true w h).mono ?_
  rintro e w' ⟨rfl, hd⟩
  exact ⟨rfl, hd⟩

end Go.Proofs.Ytaagimadfhcflaa.P
