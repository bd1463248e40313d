/- The machine's side of the laws of this seat: each function's plain form and its contract, written by a program of this session out of Lean's print of the loaded functions; no condition beyond what each statement says. -/
import Derived.Test.YtfcmpnajokjaaaaP0
import Derived.Test.YtfcmpnajokjaaaaP2
import Derived.Test.YtfcmpnajokjaaaaP5
import Derived.Test.YtfcmpnajokjaaaaP6
namespace Go.Proofs.Ytfcmpnajokjaaaa.P
open Go.RowKit Go.Proofs.YtfcmpnajokjaaaaW.PrintWords Go.Proofs.YtfcmpnajokjaaaaW.PrintLast Go.Proofs.YtfcmpnajokjaaaaW.PrintMore
attribute [local go_sem] max2_int min2_int max_two min_two max_three min_three max_four min_four   -- for this text's walks alone
set_option linter.unusedVariables false
set_option linter.unusedSimpArgs false

attribute [local go_sem] isSome_setCell
/-! ### gangerlaw05_ProfileBack: function 5 -/
mutual
def gangerlaw05_ProfileBack.j0 : Nat → List (S39) → Int → Int → Int → Int → Int → Bool → Option (Bool)
  | 0, _, _, _, _, _, _, _ => none
  | k + 1, x0, x1, x2, x3, x4, x5, x35 => if x35 = true then ((gangerlaw05_known.f k).bind fun t324 => (some t324)) else ((profile_Change.f k x0 x1 x2 x3).bind fun bt325 => (if bt325.2 = 0 then ((profile_Change.f k bt325.1 x1 x2 (wrap64 (-x3))).bind fun bt330 => (if bt330.2 = 0 then ((gangerref05_Same.f k bt330.1 x0).bind fun t334 => (if t334 = true then ((profile_Check.f k bt325.1).bind fun t335 => (gangerlaw05_ProfileBack.j1 k x0 x1 x2 x3 x4 x5 bt325.1 (t335 != 0))) else (gangerlaw05_ProfileBack.j1 k x0 x1 x2 x3 x4 x5 bt325.1 true))) else (gangerlaw05_ProfileBack.j1 k x0 x1 x2 x3 x4 x5 bt325.1 true))) else ((gangerlaw05_known.f k).bind fun t329 => (some t329))))
def gangerlaw05_ProfileBack.j1 : Nat → List (S39) → Int → Int → Int → Int → Int → List (S39) → Bool → Option (Bool)
  | 0, _, _, _, _, _, _, _, _ => none
  | k + 1, x0, x1, x2, x3, x4, x5, x13, x69 => if x69 = true then (none) else (if 0 < (x0.length : Int) then (if x4 ≥ ((rd_T39 x0 0).f0) then ((profile_At.f k x0 x4).bind fun t337 => (if x4 ≥ x1 then (gangerlaw05_ProfileBack.j2 k x0 x1 x2 x3 x4 x5 x13 t337 (decide (x4 < (wrap64 (x1 + x2))))) else (gangerlaw05_ProfileBack.j2 k x0 x1 x2 x3 x4 x5 x13 t337 false))) else (gangerlaw05_ProfileBack.j3 k x0 x1 x2 x3 x5 x13)) else (none))
def gangerlaw05_ProfileBack.j3 : Nat → List (S39) → Int → Int → Int → Int → List (S39) → Option (Bool)
  | 0, _, _, _, _, _, _ => none
  | k + 1, x0, x1, x2, x3, x5, x13 => (profile_Change.f k x13 x5 x2 1).bind fun bt340 => ((profile_Change.f k x0 x5 x2 1).bind fun bt344 => (if bt340.2 = 0 then (gangerlaw05_ProfileBack.j4 k x1 x2 x3 bt340.1 bt344.1 (bt344.2 != 0)) else (gangerlaw05_ProfileBack.j4 k x1 x2 x3 bt340.1 bt344.1 true)))
def gangerlaw05_ProfileBack.j4 : Nat → Int → Int → Int → List (S39) → List (S39) → Bool → Option (Bool)
  | 0, _, _, _, _, _, _ => none
  | k + 1, x1, x2, x3, x18, x20, x116 => if x116 = true then ((gangerlaw05_known.f k).bind fun t348 => (some t348)) else ((profile_Change.f k x20 x1 x2 x3).bind fun bt349 => (if bt349.2 = 0 then ((gangerref05_Same.f k x18 bt349.1).bind fun t353 => (if t353 = true then ((gangerlaw05_known.f k).bind fun t354 => (some t354)) else (none))) else (none)))
def gangerlaw05_ProfileBack.j2 : Nat → List (S39) → Int → Int → Int → Int → Int → List (S39) → Int → Bool → Option (Bool)
  | 0, _, _, _, _, _, _, _, _, _ => none
  | k + 1, x0, x1, x2, x3, x4, x5, x13, x17, x88 => if x88 = true then ((profile_At.f k x13 x4).bind fun t338 => (if t338 = (wrap64 (x17 + x3)) then (gangerlaw05_ProfileBack.j3 k x0 x1 x2 x3 x5 x13) else (none))) else ((profile_At.f k x13 x4).bind fun t339 => (if t339 = x17 then (gangerlaw05_ProfileBack.j3 k x0 x1 x2 x3 x5 x13) else (none)))
end
def gangerlaw05_ProfileBack.f (k : Nat) (l0 : List (S39)) (a1 : Int) (a2 : Int) (a3 : Int) (a4 : Int) (a5 : Int) : Option (Bool) := (gangerlaw05_many.f l0 ([] : List (S39))).bind fun t322 => (if t322 = true then (gangerlaw05_ProfileBack.j0 k l0 a1 a2 a3 a4 a5 true) else (if (l0.length : Int) = 0 then (gangerlaw05_ProfileBack.j0 k l0 a1 a2 a3 a4 a5 true) else ((profile_Check.f k l0).bind fun t323 => (gangerlaw05_ProfileBack.j0 k l0 a1 a2 a3 a4 a5 (t323 != 0)))))
theorem gangerlaw05_ProfileBack.mono_l : ∀ k, (∀ y0 y1 y2 y3 y4 y5 y6, LeO (gangerlaw05_ProfileBack.j0 k y0 y1 y2 y3 y4 y5 y6) (gangerlaw05_ProfileBack.j0 (k + 1) y0 y1 y2 y3 y4 y5 y6)) ∧ (∀ y0 y1 y2 y3 y4 y5 y6 y7, LeO (gangerlaw05_ProfileBack.j1 k y0 y1 y2 y3 y4 y5 y6 y7) (gangerlaw05_ProfileBack.j1 (k + 1) y0 y1 y2 y3 y4 y5 y6 y7)) ∧ (∀ y0 y1 y2 y3 y4 y5, LeO (gangerlaw05_ProfileBack.j3 k y0 y1 y2 y3 y4 y5) (gangerlaw05_ProfileBack.j3 (k + 1) y0 y1 y2 y3 y4 y5)) ∧ (∀ y0 y1 y2 y3 y4 y5, LeO (gangerlaw05_ProfileBack.j4 k y0 y1 y2 y3 y4 y5) (gangerlaw05_ProfileBack.j4 (k + 1) y0 y1 y2 y3 y4 y5)) ∧ (∀ y0 y1 y2 y3 y4 y5 y6 y7 y8, LeO (gangerlaw05_ProfileBack.j2 k y0 y1 y2 y3 y4 y5 y6 y7 y8) (gangerlaw05_ProfileBack.j2 (k + 1) y0 y1 y2 y3 y4 y5 y6 y7 y8))
  | 0 => ⟨fun _ _ _ _ _ _ _ r h => by simp [gangerlaw05_ProfileBack.j0] at h, fun _ _ _ _ _ _ _ _ r h => by simp [gangerlaw05_ProfileBack.j1] at h, fun _ _ _ _ _ _ r h => by simp [gangerlaw05_ProfileBack.j3] at h, fun _ _ _ _ _ _ r h => by simp [gangerlaw05_ProfileBack.j4] at h, fun _ _ _ _ _ _ _ _ _ r h => by simp [gangerlaw05_ProfileBack.j2] at h⟩
  | k + 1 => by
    obtain ⟨ih0, ih1, ih2, ih3, ih4⟩ := gangerlaw05_ProfileBack.mono_l k
    refine ⟨?_, ?_, ?_, ?_, ?_⟩
    · intro y0 y1 y2 y3 y4 y5 y6
      unfold gangerlaw05_ProfileBack.j0
      repeat' first
      | (with_reducible exact ih0 _ _ _ _ _ _ _)
      | (with_reducible exact ih1 _ _ _ _ _ _ _ _)
      | (with_reducible exact ih2 _ _ _ _ _ _)
      | (with_reducible exact ih3 _ _ _ _ _ _)
      | (with_reducible exact ih4 _ _ _ _ _ _ _ _ _)
      | (with_reducible exact gangerlaw05_known.mono _)
      | (with_reducible exact gangerref05_Same.mono _ _ _)
      | (with_reducible exact profile_At.mono _ _ _)
      | (with_reducible exact profile_Change.mono _ _ _ _ _)
      | (with_reducible exact profile_Check.mono _ _)
      | (with_reducible exact LeO.refl _)
      | (with_reducible exact LeO.none _)
      | (with_reducible refine LeO.ite ?_ ?_)
      | (with_reducible refine LeO.bind ?_ (fun _ => ?_))
      | exact ih0 _ _ _ _ _ _ _
      | exact ih1 _ _ _ _ _ _ _ _
      | exact ih2 _ _ _ _ _ _
      | exact ih3 _ _ _ _ _ _
      | exact ih4 _ _ _ _ _ _ _ _ _
      | exact gangerlaw05_known.mono _
      | exact gangerref05_Same.mono _ _ _
      | exact profile_At.mono _ _ _
      | exact profile_Change.mono _ _ _ _ _
      | exact profile_Check.mono _ _
      | exact LeO.none _
      | refine LeO.ite ?_ ?_
      | refine LeO.bind ?_ (fun _ => ?_)
    · intro y0 y1 y2 y3 y4 y5 y6 y7
      unfold gangerlaw05_ProfileBack.j1
      repeat' first
      | (with_reducible exact ih0 _ _ _ _ _ _ _)
      | (with_reducible exact ih1 _ _ _ _ _ _ _ _)
      | (with_reducible exact ih2 _ _ _ _ _ _)
      | (with_reducible exact ih3 _ _ _ _ _ _)
      | (with_reducible exact ih4 _ _ _ _ _ _ _ _ _)
      | (with_reducible exact gangerlaw05_known.mono _)
      | (with_reducible exact gangerref05_Same.mono _ _ _)
      | (with_reducible exact profile_At.mono _ _ _)
      | (with_reducible exact profile_Change.mono _ _ _ _ _)
      | (with_reducible exact profile_Check.mono _ _)
      | (with_reducible exact LeO.refl _)
      | (with_reducible exact LeO.none _)
      | (with_reducible refine LeO.ite ?_ ?_)
      | (with_reducible refine LeO.bind ?_ (fun _ => ?_))
      | exact ih0 _ _ _ _ _ _ _
      | exact ih1 _ _ _ _ _ _ _ _
      | exact ih2 _ _ _ _ _ _
      | exact ih3 _ _ _ _ _ _
      | exact ih4 _ _ _ _ _ _ _ _ _
      | exact gangerlaw05_known.mono _
      | exact gangerref05_Same.mono _ _ _
      | exact profile_At.mono _ _ _
      | exact profile_Change.mono _ _ _ _ _
      | exact profile_Check.mono _ _
      | exact LeO.none _
      | refine LeO.ite ?_ ?_
      | refine LeO.bind ?_ (fun _ => ?_)
    · intro y0 y1 y2 y3 y4 y5
      unfold gangerlaw05_ProfileBack.j3
      repeat' first
      | (with_reducible exact ih0 _ _ _ _ _ _ _)
      | (with_reducible exact ih1 _ _ _ _ _ _ _ _)
      | (with_reducible exact ih2 _ _ _ _ _ _)
      | (with_reducible exact ih3 _ _ _ _ _ _)
      | (with_reducible exact ih4 _ _ _ _ _ _ _ _ _)
      | (with_reducible exact gangerlaw05_known.mono _)
      | (with_reducible exact gangerref05_Same.mono _ _ _)
      | (with_reducible exact profile_At.mono _ _ _)
      | (with_reducible exact profile_Change.mono _ _ _ _ _)
      | (with_reducible exact profile_Check.mono _ _)
      | (with_reducible exact LeO.refl _)
      | (with_reducible exact LeO.none _)
      | (with_reducible refine LeO.ite ?_ ?_)
      | (with_reducible refine LeO.bind ?_ (fun _ => ?_))
      | exact ih0 _ _ _ _ _ _ _
      | exact ih1 _ _ _ _ _ _ _ _
      | exact ih2 _ _ _ _ _ _
      | exact ih3 _ _ _ _ _ _
      | exact ih4 _ _ _ _ _ _ _ _ _
      | exact gangerlaw05_known.mono _
      | exact gangerref05_Same.mono _ _ _
      | exact profile_At.mono _ _ _
      | exact profile_Change.mono _ _ _ _ _
      | exact profile_Check.mono _ _
      | exact LeO.none _
      | refine LeO.ite ?_ ?_
      | refine LeO.bind ?_ (fun _ => ?_)
    · intro y0 y1 y2 y3 y4 y5
      unfold gangerlaw05_ProfileBack.j4
      repeat' first
      | (with_reducible exact ih0 _ _ _ _ _ _ _)
      | (with_reducible exact ih1 _ _ _ _ _ _ _ _)
      | (with_reducible exact ih2 _ _ _ _ _ _)
      | (with_reducible exact ih3 _ _ _ _ _ _)
      | (with_reducible exact ih4 _ _ _ _ _ _ _ _ _)
      | (with_reducible exact gangerlaw05_known.mono _)
      | (with_reducible exact gangerref05_Same.mono _ _ _)
      | (with_reducible exact profile_At.mono _ _ _)
      | (with_reducible exact profile_Change.mono _ _ _ _ _)
      | (with_reducible exact profile_Check.mono _ _)
      | (with_reducible exact LeO.refl _)
      | (with_reducible exact LeO.none _)
      | (with_reducible refine LeO.ite ?_ ?_)
      | (with_reducible refine LeO.bind ?_ (fun _ => ?_))
      | exact ih0 _ _ _ _ _ _ _
      | exact ih1 _ _ _ _ _ _ _ _
      | exact ih2 _ _ _ _ _ _
      | exact ih3 _ _ _ _ _ _
      | exact ih4 _ _ _ _ _ _ _ _ _
      | exact gangerlaw05_known.mono _
      | exact gangerref05_Same.mono _ _ _
      | exact profile_At.mono _ _ _
      | exact profile_Change.mono _ _ _ _ _
      | exact profile_Check.mono _ _
      | exact LeO.none _
      | refine LeO.ite ?_ ?_
      | refine LeO.bind ?_ (fun _ => ?_)
    · intro y0 y1 y2 y3 y4 y5 y6 y7 y8
      unfold gangerlaw05_ProfileBack.j2
      repeat' first
      | (with_reducible exact ih0 _ _ _ _ _ _ _)
      | (with_reducible exact ih1 _ _ _ _ _ _ _ _)
      | (with_reducible exact ih2 _ _ _ _ _ _)
      | (with_reducible exact ih3 _ _ _ _ _ _)
      | (with_reducible exact ih4 _ _ _ _ _ _ _ _ _)
      | (with_reducible exact gangerlaw05_known.mono _)
      | (with_reducible exact gangerref05_Same.mono _ _ _)
      | (with_reducible exact profile_At.mono _ _ _)
      | (with_reducible exact profile_Change.mono _ _ _ _ _)
      | (with_reducible exact profile_Check.mono _ _)
      | (with_reducible exact LeO.refl _)
      | (with_reducible exact LeO.none _)
      | (with_reducible refine LeO.ite ?_ ?_)
      | (with_reducible refine LeO.bind ?_ (fun _ => ?_))
      | exact ih0 _ _ _ _ _ _ _
      | exact ih1 _ _ _ _ _ _ _ _
      | exact ih2 _ _ _ _ _ _
      | exact ih3 _ _ _ _ _ _
      | exact ih4 _ _ _ _ _ _ _ _ _
      | exact gangerlaw05_known.mono _
      | exact gangerref05_Same.mono _ _ _
      | exact profile_At.mono _ _ _
      | exact profile_Change.mono _ _ _ _ _
      | exact profile_Check.mono _ _
      | exact LeO.none _
      | refine LeO.ite ?_ ?_
      | refine LeO.bind ?_ (fun _ => ?_)
theorem gangerlaw05_ProfileBack.mono : ∀ a0 a1 a2 a3 a4 a5 k, LeO (gangerlaw05_ProfileBack.f k a0 a1 a2 a3 a4 a5) (gangerlaw05_ProfileBack.f (k + 1) a0 a1 a2 a3 a4 a5) := by
  intro a0 a1 a2 a3 a4 a5 k
  obtain ⟨ih0, ih1, ih2, ih3, ih4⟩ := gangerlaw05_ProfileBack.mono_l k
  unfold gangerlaw05_ProfileBack.f
  repeat' first
      | (with_reducible exact ih0 _ _ _ _ _ _ _)
      | (with_reducible exact ih1 _ _ _ _ _ _ _ _)
      | (with_reducible exact ih2 _ _ _ _ _ _)
      | (with_reducible exact ih3 _ _ _ _ _ _)
      | (with_reducible exact ih4 _ _ _ _ _ _ _ _ _)
      | (with_reducible exact gangerlaw05_known.mono _)
      | (with_reducible exact gangerref05_Same.mono _ _ _)
      | (with_reducible exact profile_At.mono _ _ _)
      | (with_reducible exact profile_Change.mono _ _ _ _ _)
      | (with_reducible exact profile_Check.mono _ _)
      | (with_reducible exact LeO.refl _)
      | (with_reducible exact LeO.none _)
      | (with_reducible refine LeO.ite ?_ ?_)
      | (with_reducible refine LeO.bind ?_ (fun _ => ?_))
      | exact ih0 _ _ _ _ _ _ _
      | exact ih1 _ _ _ _ _ _ _ _
      | exact ih2 _ _ _ _ _ _
      | exact ih3 _ _ _ _ _ _
      | exact ih4 _ _ _ _ _ _ _ _ _
      | exact gangerlaw05_known.mono _
      | exact gangerref05_Same.mono _ _ _
      | exact profile_At.mono _ _ _
      | exact profile_Change.mono _ _ _ _ _
      | exact profile_Check.mono _ _
      | exact LeO.none _
      | refine LeO.ite ?_ ?_
      | refine LeO.bind ?_ (fun _ => ?_)
set_option maxHeartbeats 8000000 in
set_option maxRecDepth 100000 in
theorem gangerlaw05_ProfileBack.calls (k : Nat) (A0 : Option Addr) (c0 : Nat) (l0 : List (S39)) (a1 : Int) (a2 : Int) (a3 : Int) (a4 : Int) (a5 : Int) (r : Bool) (w : World) (hr0 : Kd.C k39 w A0 l0.length l0) (hc0 : l0.length ≤ c0) (h : gangerlaw05_ProfileBack.f k l0 a1 a2 a3 a4 a5 = some r) :
    Calls Try.prog 5 #[.slice A0 l0.length c0, .int .i64 a1, .int .i64 a2, .int .i64 a3, .int .i64 a4, .int .i64 a5] w fun e w' => e = .returned (.bool r) ∧ Below w.heap.size w w' := by
  have HR0 := Aside0.mk hr0
  have HC0 := Aside0.mk hc0
  clear hr0 hc0
  have HB := Aside0.mk (Below.refl w.heap.size w)
  have H : ((gangerlaw05_many.f l0 ([] : List (S39))).bind fun t322 => (if t322 = true then (gangerlaw05_ProfileBack.j0 k l0 a1 a2 a3 a4 a5 true) else (if (l0.length : Int) = 0 then (gangerlaw05_ProfileBack.j0 k l0 a1 a2 a3 a4 a5 true) else ((profile_Check.f k l0).bind fun t323 => (gangerlaw05_ProfileBack.j0 k l0 a1 a2 a3 a4 a5 (t323 != 0)))))) = some r := h
  clear h
  have HC7 := Aside0.mk H
  clear H
  go_enter Try.func5, Try.ntmps5
  go_upto_region 1 with (fail)
  go_cut [35] (fun v35 wc => ∃ (kq : Nat) (x35_6 : Bool), v35 = .bool x35_6 ∧ Aside0 (gangerlaw05_ProfileBack.j0 kq l0 a1 a2 a3 a4 a5 x35_6 = some r) ∧ Aside0 (kq ≤ k) ∧ Aside0 (Below w.heap.size w wc))
  case first =>
    have H := HC7.out
    clear HC7
    replace H := Option.bind_eq_some_iff.mp H
    obtain ⟨t322, A80, H⟩ := H
    replace H : (if t322 = true then (gangerlaw05_ProfileBack.j0 k l0 a1 a2 a3 a4 a5 true) else (if (l0.length : Int) = 0 then (gangerlaw05_ProfileBack.j0 k l0 a1 a2 a3 a4 a5 true) else ((profile_Check.f k l0).bind fun t323 => (gangerlaw05_ProfileBack.j0 k l0 a1 a2 a3 a4 a5 (t323 != 0))))) = some r := H
    have A8 := Aside0.mk A80
    clear A80
    by_cases c9 : t322 = true
    · subst c9
      have H1 : (gangerlaw05_ProfileBack.j0 k l0 a1 a2 a3 a4 a5 true) = some r := by rw [if_pos rfl] at H; exact H
      clear H
      have H := H1
      clear H1
      have H' := Aside0.mk H
      clear H
      go_wp2_with (first | ((with_reducible refine gate_callee (f := 11) rfl ?_); refine goesL_ (some 25) rfl rfl Try.func11 (by kernel_rfl) rfl #[.slice A0 l0.length c0, .slice none 0 0] rfl (by (try simp only [List.map_toArray, List.map_cons, List.map_nil]); first | done | rfl | (simp only [List.length_drop, List.length_take]; rfl)) ?_; (refine (gangerlaw05_many.calls _ _ l0 _ _ ([] : List (S39)) true _ ?side1 ?side2 ?side3 ?side4 A8.out).mono ?_); (case side1 => repeat (first | exact (Kd.C_below HR0.out HB.out) | (with_reducible refine Kd.C_alloc ?_ _) | (with_reducible refine Kd.C_drewN ?_ _) | (with_reducible refine Kd.C_drew ?_))); (case side2 => exact HC0.out); (case side3 => exact Kd.C_nil _ _); (case side4 => exact Nat.le_refl _); rintro e w' ⟨rfl, ⟨nd, rfl⟩⟩; refine ⟨_, rfl, ?_⟩))
      go_meet
      case rel => exact ⟨_, (true), (by first | rfl | (simp; done) | (simp [*]; done)), H', ⟨by first | omega | exact Nat.le_refl _⟩, ⟨by repeat (first | (with_reducible first | exact HB.out | apply below_alloc | apply pw_below_drewN | apply below_drew1) | exact HB.out)⟩⟩
    · replace c9 := Bool.eq_false_iff.mpr c9
      subst c9
      have H1 : (if (l0.length : Int) = 0 then (gangerlaw05_ProfileBack.j0 k l0 a1 a2 a3 a4 a5 true) else ((profile_Check.f k l0).bind fun t323 => (gangerlaw05_ProfileBack.j0 k l0 a1 a2 a3 a4 a5 (t323 != 0)))) = some r := by rw [if_neg (show ¬ (false = true) by decide)] at H; exact H
      clear H
      have H := H1
      clear H1
      by_cases c10 : (l0.length : Int) = 0
      · rw [if_pos c10] at H
        have c10b0 : ((l0.length : Int) == 0) = true := beq_iff_eq.mpr c10
        have c10b1 : ((l0.length : Int) != 0) = false := bne_eq_false_iff_eq.mpr c10
        clear c10
        (first | rw [c10b0] | (simp only [i64_w, i32_w]; rw [c10b0]) | skip)
        have H' := Aside0.mk H
        clear H
        go_wp2_with (first | ((with_reducible refine gate_callee (f := 11) rfl ?_); refine goesL_ (some 25) rfl rfl Try.func11 (by kernel_rfl) rfl #[.slice A0 l0.length c0, .slice none 0 0] rfl (by (try simp only [List.map_toArray, List.map_cons, List.map_nil]); first | done | rfl | (simp only [List.length_drop, List.length_take]; rfl)) ?_; (refine (gangerlaw05_many.calls _ _ l0 _ _ ([] : List (S39)) false _ ?side1 ?side2 ?side3 ?side4 A8.out).mono ?_); (case side1 => repeat (first | exact (Kd.C_below HR0.out HB.out) | (with_reducible refine Kd.C_alloc ?_ _) | (with_reducible refine Kd.C_drewN ?_ _) | (with_reducible refine Kd.C_drew ?_))); (case side2 => exact HC0.out); (case side3 => exact Kd.C_nil _ _); (case side4 => exact Nat.le_refl _); rintro e w' ⟨rfl, ⟨nd, rfl⟩⟩; refine ⟨_, rfl, ?_⟩))
        go_meet
        case rel => exact ⟨_, (true), (by first | rfl | (simp; done) | (simp [*]; done)), H', ⟨by first | omega | exact Nat.le_refl _⟩, ⟨by repeat (first | (with_reducible first | exact HB.out | apply below_alloc | apply pw_below_drewN | apply below_drew1) | exact HB.out)⟩⟩
      · rw [if_neg c10] at H
        have c10b0 : ((l0.length : Int) == 0) = false := beq_eq_false_iff_ne.mpr c10
        have c10b1 : ((l0.length : Int) != 0) = true := bne_iff_ne.mpr c10
        have c10b2 : ¬ (l0 = []) := fun h_ => c10 (by rw [h_]; rfl)
        (first | rw [c10b0] | (simp only [i64_w, i32_w]; rw [c10b0]) | skip)
        replace H := Option.bind_eq_some_iff.mp H
        obtain ⟨t323, A110, H⟩ := H
        replace H : (gangerlaw05_ProfileBack.j0 k l0 a1 a2 a3 a4 a5 (t323 != 0)) = some r := H
        have A11 := Aside0.mk A110
        clear A110
        have H' := Aside0.mk H
        clear H
        go_wp2_with (first | ((with_reducible refine gate_callee (f := 11) rfl ?_); refine goesL_ (some 25) rfl rfl Try.func11 (by kernel_rfl) rfl #[.slice A0 l0.length c0, .slice none 0 0] rfl (by (try simp only [List.map_toArray, List.map_cons, List.map_nil]); first | done | rfl | (simp only [List.length_drop, List.length_take]; rfl)) ?_; (refine (gangerlaw05_many.calls _ _ l0 _ _ ([] : List (S39)) false _ ?side1 ?side2 ?side3 ?side4 A8.out).mono ?_); (case side1 => repeat (first | exact (Kd.C_below HR0.out HB.out) | (with_reducible refine Kd.C_alloc ?_ _) | (with_reducible refine Kd.C_drewN ?_ _) | (with_reducible refine Kd.C_drew ?_))); (case side2 => exact HC0.out); (case side3 => exact Kd.C_nil _ _); (case side4 => exact Nat.le_refl _); rintro e w' ⟨rfl, ⟨nd, rfl⟩⟩; refine ⟨_, rfl, ?_⟩) | (go_at_call 20; (with_reducible refine (profile_Check.calls k _ _ l0 t323 _ ?side1 ?side2 A11.out).mono ?_); (case side1 => repeat (first | exact (Kd.C_below HR0.out (by repeat (first | (with_reducible first | exact HB.out | apply below_alloc | apply pw_below_drewN | apply below_drew1) | exact HB.out))) | (with_reducible refine Kd.C_alloc ?_ _) | (with_reducible refine Kd.C_drewN ?_ _) | (with_reducible refine Kd.C_drew ?_))); (case side2 => exact HC0.out); rintro e w12 ⟨rfl, hb⟩; have n0_ := Aside0.mk (below_step (by repeat (first | (with_reducible first | exact HB.out | apply below_alloc | apply pw_below_drewN | apply below_drew1) | exact HB.out)) hb); clear HB; have HB := n0_; clear n0_; (try clear hb); (try clear hb2); (try clear hk); (try clear hi)))
        go_meet
        case rel => exact ⟨_, ((t323 != 0)), (by first | rfl | (simp; done) | (simp [*]; done)), H', ⟨by first | omega | exact Nat.le_refl _⟩, ⟨by repeat (first | (with_reducible first | exact HB.out | apply below_alloc | apply pw_below_drewN | apply below_drew1) | exact HB.out)⟩⟩
  case rest =>
    clear HC7
    try clear c1
    try clear p2
    try clear c5
    try clear c9
    try clear c10
    try clear c10b0
    try clear c10b1
    try clear c10b2
    try clear c11
    obtain ⟨kq, x35_6, rfl, HA, HJ6, HB⟩ := hcut
    cases kq with
    | zero => exact absurd HA.out (by simp [gangerlaw05_ProfileBack.j0])
    | succ kj6 =>
      have H := HA.out
      clear HA
      simp only [gangerlaw05_ProfileBack.j0] at H
      by_cases c13 : x35_6 = true
      · subst c13
        have H1 : ((gangerlaw05_known.f kj6).bind fun t324 => (some t324)) = some r := by rw [if_pos rfl] at H; exact H
        clear H
        have H := H1
        clear H1
        replace H := Option.bind_eq_some_iff.mp H
        obtain ⟨t324, A140, H⟩ := H
        replace H : (some t324) = some r := H
        have A14 := Aside0.mk A140
        clear A140
        obtain rfl := Option.some.inj H
        go_wp2_with (first | ((with_reducible refine gate_callee (f := 12) rfl ?_); refine goesL_ (some 36) rfl rfl Try.func12 (by kernel_rfl) rfl #[] rfl (by (try simp only [List.map_toArray, List.map_cons, List.map_nil]); first | done | rfl | (simp only [List.length_drop, List.length_take]; rfl)) ?_; (with_reducible refine (gangerlaw05_known.calls kj6  t324 _ A14.out).mono ?_); rintro e w15 ⟨rfl, hb⟩; refine ⟨_, rfl, ?_⟩; have n0_ := Aside0.mk (below_step (by repeat (first | (with_reducible first | exact HB.out | apply below_alloc | apply pw_below_drewN | apply below_drew1) | exact HB.out)) hb); clear HB; have HB := n0_; clear n0_; (try clear hb); (try clear hb2); (try clear hk); (try clear hi)))
        go_ret
        exact ⟨by first | rfl | (simp [errW_none, errW_some] <;> rfl) | (simp [*, errW_none, errW_some] <;> rfl), by repeat (first | (with_reducible first | exact HB.out | apply below_alloc | apply pw_below_drewN | apply below_drew1) | exact HB.out)⟩
      · replace c13 := Bool.eq_false_iff.mpr c13
        subst c13
        have H1 : ((profile_Change.f kj6 l0 a1 a2 a3).bind fun bt325 => (if bt325.2 = 0 then ((profile_Change.f kj6 bt325.1 a1 a2 (wrap64 (-a3))).bind fun bt330 => (if bt330.2 = 0 then ((gangerref05_Same.f kj6 bt330.1 l0).bind fun t334 => (if t334 = true then ((profile_Check.f kj6 bt325.1).bind fun t335 => (gangerlaw05_ProfileBack.j1 kj6 l0 a1 a2 a3 a4 a5 bt325.1 (t335 != 0))) else (gangerlaw05_ProfileBack.j1 kj6 l0 a1 a2 a3 a4 a5 bt325.1 true))) else (gangerlaw05_ProfileBack.j1 kj6 l0 a1 a2 a3 a4 a5 bt325.1 true))) else ((gangerlaw05_known.f kj6).bind fun t329 => (some t329)))) = some r := by rw [if_neg (show ¬ (false = true) by decide)] at H; exact H
        clear H
        have H := H1
        clear H1
        replace H := Option.bind_eq_some_iff.mp H
        obtain ⟨⟨t325, t326⟩, A160, H⟩ := H
        replace H : (if t326 = 0 then ((profile_Change.f kj6 t325 a1 a2 (wrap64 (-a3))).bind fun bt330 => (if bt330.2 = 0 then ((gangerref05_Same.f kj6 bt330.1 l0).bind fun t334 => (if t334 = true then ((profile_Check.f kj6 t325).bind fun t335 => (gangerlaw05_ProfileBack.j1 kj6 l0 a1 a2 a3 a4 a5 t325 (t335 != 0))) else (gangerlaw05_ProfileBack.j1 kj6 l0 a1 a2 a3 a4 a5 t325 true))) else (gangerlaw05_ProfileBack.j1 kj6 l0 a1 a2 a3 a4 a5 t325 true))) else ((gangerlaw05_known.f kj6).bind fun t329 => (some t329))) = some r := H
        have A16 := Aside0.mk A160
        clear A160
        by_cases c17 : t326 = 0
        · rw [if_pos c17] at H
          have c17b0 : (t326 == 0) = true := beq_iff_eq.mpr c17
          have c17b1 : (t326 != 0) = false := bne_eq_false_iff_eq.mpr c17
          clear c17
          replace H := Option.bind_eq_some_iff.mp H
          obtain ⟨⟨t330, t331⟩, A180, H⟩ := H
          replace H : (if t331 = 0 then ((gangerref05_Same.f kj6 t330 l0).bind fun t334 => (if t334 = true then ((profile_Check.f kj6 t325).bind fun t335 => (gangerlaw05_ProfileBack.j1 kj6 l0 a1 a2 a3 a4 a5 t325 (t335 != 0))) else (gangerlaw05_ProfileBack.j1 kj6 l0 a1 a2 a3 a4 a5 t325 true))) else (gangerlaw05_ProfileBack.j1 kj6 l0 a1 a2 a3 a4 a5 t325 true)) = some r := H
          have A18 := Aside0.mk A180
          clear A180
          have HC19 := Aside0.mk H
          clear H
          go_upto_region 7 with (first | ((with_reducible refine gate_callee (f := 16) rfl ?_); refine goesL_ (some 42) rfl rfl Try.func16 (by kernel_rfl) rfl #[.slice A0 l0.length c0, .int .i64 a1, .int .i64 a2, .int .i64 a3] rfl (by (try simp only [List.map_toArray, List.map_cons, List.map_nil]); first | done | rfl | (simp only [List.length_drop, List.length_take]; rfl)) ?_; (with_reducible refine (profile_Change.calls kj6 _ _ l0 a1 a2 a3 t325 t326 _ ?side1 ?side2 A16.out).mono ?_); (case side1 => repeat (first | exact (Kd.C_below HR0.out HB.out) | (with_reducible refine Kd.C_alloc ?_ _) | (with_reducible refine Kd.C_drewN ?_ _) | (with_reducible refine Kd.C_drew ?_))); (case side2 => exact HC0.out); rintro e w20 ⟨v327, rfl, ho0, hb⟩; refine ⟨_, rfl, ?_⟩; have n0_ := Aside0.mk (Kd.R_lower ho0 (below_size (by repeat (first | (with_reducible first | exact HB.out | apply below_alloc | apply pw_below_drewN | apply below_drew1) | exact HB.out)))); have n1_ := Aside0.mk (below_step (by repeat (first | (with_reducible first | exact HB.out | apply below_alloc | apply pw_below_drewN | apply below_drew1) | exact HB.out)) hb); clear HB; have HO328 := n0_; have HB := n1_; clear n0_ n1_; (try clear hb); (try clear hb2); (try clear hk); (try clear hi); (try clear ho0); obtain ⟨Ao21, co21, eo21⟩ := Kd.R_slice HO328.out; subst eo21) | ((with_reducible refine gate_callee (f := 16) rfl ?_); refine goesL_ (some 54) rfl rfl Try.func16 (by kernel_rfl) rfl #[.slice Ao21 t325.length co21, .int .i64 a1, .int .i64 a2, .int .i64 (wrap64 (-a3))] rfl (by (try simp only [List.map_toArray, List.map_cons, List.map_nil]); first | done | rfl | (simp only [List.length_drop, List.length_take]; rfl)) ?_; (with_reducible refine (profile_Change.calls kj6 _ _ t325 a1 a2 (wrap64 (-a3)) t330 t331 _ ?side1 ?side2 A18.out).mono ?_); (case side1 => repeat (first | exact (Kd.R_reads' HO328.out).2.2 | (with_reducible refine Kd.C_alloc ?_ _) | (with_reducible refine Kd.C_drewN ?_ _) | (with_reducible refine Kd.C_drew ?_))); (case side2 => exact (Kd.R_reads' HO328.out).2.1); rintro e w22 ⟨v332, rfl, ho0, hb⟩; refine ⟨_, rfl, ?_⟩; have n0_ := Aside0.mk (Kd.R_elder' (by (with_reducible repeat (first | apply Kd.R_alloc | apply Kd.R_drewN | apply Kd.R_drew)); exact HO328.out) (Kd.R_base ho0) hb); have n1_ := Aside0.mk (Kd.R_lower (Kd.R_new' ho0 (Kd.R_lt (by (with_reducible repeat (first | apply Kd.R_alloc | apply Kd.R_drewN | apply Kd.R_drew)); exact HO328.out))) (below_size (by repeat (first | (with_reducible first | exact HB.out | apply below_alloc | apply pw_below_drewN | apply below_drew1) | exact HB.out)))); have n2_ := Aside0.mk (below_step (by repeat (first | (with_reducible first | exact HB.out | apply below_alloc | apply pw_below_drewN | apply below_drew1) | exact HB.out)) hb); clear HO328; clear HB; have HO328 := n0_; have HO333 := n1_; have HB := n2_; clear n0_ n1_ n2_; (try clear hb); (try clear hb2); (try clear hk); (try clear hi); (try clear ho0)))
          (try simp only [Act.put, List.setIfInBounds_toArray, List.set_cons_zero, List.set_cons_succ])
          go_cut [69] (fun v69 wc => ∃ (kq : Nat) (x69_18 : Bool), v69 = .bool x69_18 ∧ Aside0 (gangerlaw05_ProfileBack.j1 kq l0 a1 a2 a3 a4 a5 t325 x69_18 = some r) ∧ Aside0 (kq ≤ kj6) ∧ Aside0 (Kd.R k39 39 wc w.heap.size (fun _ => True) (.slice Ao21 t325.length co21) t325) ∧ Aside0 (Below w.heap.size w wc))
          case first =>
            have H := HC19.out
            clear HC19
            by_cases c23 : t331 = 0
            · rw [if_pos c23] at H
              have c23b0 : (t331 == 0) = true := beq_iff_eq.mpr c23
              have c23b1 : (t331 != 0) = false := bne_eq_false_iff_eq.mpr c23
              clear c23
              (first | rw [c23b0] | (simp only [i64_w, i32_w]; rw [c23b0]) | skip)
              replace H := Option.bind_eq_some_iff.mp H
              obtain ⟨t334, A240, H⟩ := H
              replace H : (if t334 = true then ((profile_Check.f kj6 t325).bind fun t335 => (gangerlaw05_ProfileBack.j1 kj6 l0 a1 a2 a3 a4 a5 t325 (t335 != 0))) else (gangerlaw05_ProfileBack.j1 kj6 l0 a1 a2 a3 a4 a5 t325 true)) = some r := H
              have A24 := Aside0.mk A240
              clear A240
              by_cases c25 : t334 = true
              · subst c25
                have H1 : ((profile_Check.f kj6 t325).bind fun t335 => (gangerlaw05_ProfileBack.j1 kj6 l0 a1 a2 a3 a4 a5 t325 (t335 != 0))) = some r := by rw [if_pos rfl] at H; exact H
                clear H
                have H := H1
                clear H1
                replace H := Option.bind_eq_some_iff.mp H
                obtain ⟨t335, A260, H⟩ := H
                replace H : (gangerlaw05_ProfileBack.j1 kj6 l0 a1 a2 a3 a4 a5 t325 (t335 != 0)) = some r := H
                have A26 := Aside0.mk A260
                clear A260
                have H' := Aside0.mk H
                clear H
                obtain ⟨Ao27, co27, eo27⟩ := Kd.R_slice HO333.out
                subst eo27
                go_wp2_with (first | (go_at_call 18; (with_reducible refine (gangerref05_Same.calls kj6 _ _ t330 _ _ l0 true _ ?side1 ?side2 ?side3 ?side4 A24.out).mono ?_); (case side1 => repeat (first | exact (Kd.R_reads' HO333.out).2.2 | (with_reducible refine Kd.C_alloc ?_ _) | (with_reducible refine Kd.C_drewN ?_ _) | (with_reducible refine Kd.C_drew ?_))); (case side2 => exact (Kd.R_reads' HO333.out).2.1); (case side3 => repeat (first | exact (Kd.C_below HR0.out HB.out) | (with_reducible refine Kd.C_alloc ?_ _) | (with_reducible refine Kd.C_drewN ?_ _) | (with_reducible refine Kd.C_drew ?_))); (case side4 => exact HC0.out); rintro e w' ⟨rfl, ⟨nd, rfl⟩⟩) | (go_at_call 20; (with_reducible refine (profile_Check.calls kj6 _ _ t325 t335 _ ?side1 ?side2 A26.out).mono ?_); (case side1 => repeat (first | exact (Kd.R_reads' HO328.out).2.2 | (with_reducible refine Kd.C_alloc ?_ _) | (with_reducible refine Kd.C_drewN ?_ _) | (with_reducible refine Kd.C_drew ?_))); (case side2 => exact (Kd.R_reads' HO328.out).2.1); rintro e w28 ⟨rfl, hb⟩; have n0_ := Aside0.mk (Kd.R_below (by (with_reducible repeat (first | apply Kd.R_alloc | apply Kd.R_drewN | apply Kd.R_drew)); exact HO328.out) hb); have n1_ := Aside0.mk (Kd.R_below (by (with_reducible repeat (first | apply Kd.R_alloc | apply Kd.R_drewN | apply Kd.R_drew)); exact HO333.out) hb); have n2_ := Aside0.mk (below_step (by repeat (first | (with_reducible first | exact HB.out | apply below_alloc | apply pw_below_drewN | apply below_drew1) | exact HB.out)) hb); clear HO328; clear HO333; clear HB; have HO328 := n0_; have HO333 := n1_; have HB := n2_; clear n0_ n1_ n2_; (try clear hb); (try clear hb2); (try clear hk); (try clear hi)))
                go_meet
                case rel => exact ⟨_, ((t335 != 0)), (by first | rfl | (simp; done) | (simp [*]; done)), H', ⟨by have := HJ6.out; first | omega | exact Nat.le_refl _⟩, ⟨by (with_reducible repeat (first | apply Kd.R_alloc | apply Kd.R_drewN | apply Kd.R_drew)); exact Kd.R_mono HO328.out (fun _ hk => trivial)⟩, ⟨by repeat (first | (with_reducible first | exact HB.out | apply below_alloc | apply pw_below_drewN | apply below_drew1) | exact HB.out)⟩⟩
              · replace c25 := Bool.eq_false_iff.mpr c25
                subst c25
                have H1 : (gangerlaw05_ProfileBack.j1 kj6 l0 a1 a2 a3 a4 a5 t325 true) = some r := by rw [if_neg (show ¬ (false = true) by decide)] at H; exact H
                clear H
                have H := H1
                clear H1
                have H' := Aside0.mk H
                clear H
                obtain ⟨Ao29, co29, eo29⟩ := Kd.R_slice HO333.out
                subst eo29
                go_wp2_with (first | (go_at_call 18; (with_reducible refine (gangerref05_Same.calls kj6 _ _ t330 _ _ l0 false _ ?side1 ?side2 ?side3 ?side4 A24.out).mono ?_); (case side1 => repeat (first | exact (Kd.R_reads' HO333.out).2.2 | (with_reducible refine Kd.C_alloc ?_ _) | (with_reducible refine Kd.C_drewN ?_ _) | (with_reducible refine Kd.C_drew ?_))); (case side2 => exact (Kd.R_reads' HO333.out).2.1); (case side3 => repeat (first | exact (Kd.C_below HR0.out HB.out) | (with_reducible refine Kd.C_alloc ?_ _) | (with_reducible refine Kd.C_drewN ?_ _) | (with_reducible refine Kd.C_drew ?_))); (case side4 => exact HC0.out); rintro e w' ⟨rfl, ⟨nd, rfl⟩⟩))
                go_meet
                case rel => exact ⟨_, (true), (by first | rfl | (simp; done) | (simp [*]; done)), H', ⟨by have := HJ6.out; first | omega | exact Nat.le_refl _⟩, ⟨by (with_reducible repeat (first | apply Kd.R_alloc | apply Kd.R_drewN | apply Kd.R_drew)); exact Kd.R_mono HO328.out (fun _ hk => trivial)⟩, ⟨by repeat (first | (with_reducible first | exact HB.out | apply below_alloc | apply pw_below_drewN | apply below_drew1) | exact HB.out)⟩⟩
            · rw [if_neg c23] at H
              have c23b0 : (t331 == 0) = false := beq_eq_false_iff_ne.mpr c23
              have c23b1 : (t331 != 0) = true := bne_iff_ne.mpr c23
              (first | rw [c23b0] | (simp only [i64_w, i32_w]; rw [c23b0]) | skip)
              have H' := Aside0.mk H
              clear H
              go_wp2
              go_meet
              case rel => exact ⟨_, (true), (by first | rfl | (simp; done) | (simp [*]; done)), H', ⟨by have := HJ6.out; first | omega | exact Nat.le_refl _⟩, ⟨by (with_reducible repeat (first | apply Kd.R_alloc | apply Kd.R_drewN | apply Kd.R_drew)); exact Kd.R_mono HO328.out (fun _ hk => trivial)⟩, ⟨by repeat (first | (with_reducible first | exact HB.out | apply below_alloc | apply pw_below_drewN | apply below_drew1) | exact HB.out)⟩⟩
          case rest =>
            clear HC19
            try clear c1
            try clear c2
            try clear p2
            try clear c5
            try clear p6
            try clear c9
            try clear c10
            try clear c10b0
            try clear c10b1
            try clear c10b2
            try clear c11
            try clear c12
            try clear c13
            try clear c16
            try clear c17
            try clear c17b0
            try clear c17b1
            try clear c23
            try clear c23b0
            try clear c23b1
            try clear c25
            try clear p2
            obtain ⟨kq, x69_18, rfl, HA, HJ18, HO_13, HB⟩ := hcut
            cases kq with
            | zero => exact absurd HA.out (by simp [gangerlaw05_ProfileBack.j1])
            | succ kj18 =>
              have H := HA.out
              clear HA
              simp only [gangerlaw05_ProfileBack.j1] at H
              by_cases c30 : x69_18 = true
              · subst c30
                have H1 : (none) = some r := by rw [if_pos rfl] at H; exact H
                clear H
                have H := H1
                clear H1
                exact absurd H (by simp)
              · replace c30 := Bool.eq_false_iff.mpr c30
                subst c30
                have H1 : (if 0 < (l0.length : Int) then (if a4 ≥ ((rd_T39 l0 0).f0) then ((profile_At.f kj18 l0 a4).bind fun t337 => (if a4 ≥ a1 then (gangerlaw05_ProfileBack.j2 kj18 l0 a1 a2 a3 a4 a5 t325 t337 (decide (a4 < (wrap64 (a1 + a2))))) else (gangerlaw05_ProfileBack.j2 kj18 l0 a1 a2 a3 a4 a5 t325 t337 false))) else (gangerlaw05_ProfileBack.j3 kj18 l0 a1 a2 a3 a5 t325)) else (none)) = some r := by rw [if_neg (show ¬ (false = true) by decide)] at H; exact H
                clear H
                have H := H1
                clear H1
                by_cases c31 : 0 < (l0.length : Int)
                · rw [if_pos c31] at H
                  have c31b0 : decide (0 < (l0.length : Int)) = true := decide_eq_true c31
                  have c31b1 : decide (0 < l0.length) = true := decide_eq_true (by omega)
                  clear c31
                  have HC32 := Aside0.mk H
                  clear H
                  have p336 : 0 ≤ (0 : Int) := (by omega)
                  have q336 : 0 < (l0.length : Int) := of_decide_eq_true (by first | (with_reducible assumption) | assumption)
                  obtain ⟨ad336, e336, hx336_0, hx336_1⟩ := at_T39 HR0.out 0 p336 q336
                  cases e336
                  have qi336 : (0 < l0.length) = True := eq_true (by omega)
                  (try rw [show ((0 : Int)).toNat = 0 from rfl] at hx336_0)
                  (try rw [show 0 * 2 = 0 from rfl] at hx336_0)
                  (try rw [Addr.add_zero'] at hx336_0)
                  (try rw [show ((0 : Int)).toNat = 0 from rfl] at hx336_1)
                  (try rw [show 0 * 2 = 0 from rfl] at hx336_1)
                  (try rw [Addr.add_zero'] at hx336_1)
                  replace hx336_0 := (HB.out.cell (World.block_lt_of_cell? w _ hx336_0)).trans hx336_0
                  replace hx336_1 := (HB.out.cell (World.block_lt_of_cell? w _ hx336_1)).trans hx336_1
                  replace p336 := eq_true p336
                  replace q336 := eq_true q336
                  go_upto_if 75 with (fail)
                  go_cut [] (fun wc => ∃ (kq : Nat), Aside0 (gangerlaw05_ProfileBack.j3 kq l0 a1 a2 a3 a5 t325 = some r) ∧ Aside0 (kq ≤ kj18) ∧ Aside0 (Kd.R k39 39 wc w.heap.size (fun _ => True) (.slice Ao21 t325.length co21) t325) ∧ Aside0 (Below w.heap.size w wc))
                  case first =>
                    have H := HC32.out
                    clear HC32
                    by_cases c33 : a4 ≥ ((rd_T39 l0 0).f0)
                    · rw [if_pos c33] at H
                      have c33b0 : decide (((rd_T39 l0 0).f0) ≤ a4) = true := decide_eq_true c33
                      clear c33
                      (first | rw [c33b0] | (simp only [i64_w, i32_w]; rw [c33b0]) | skip)
                      replace H := Option.bind_eq_some_iff.mp H
                      obtain ⟨t337, A340, H⟩ := H
                      replace H : (if a4 ≥ a1 then (gangerlaw05_ProfileBack.j2 kj18 l0 a1 a2 a3 a4 a5 t325 t337 (decide (a4 < (wrap64 (a1 + a2))))) else (gangerlaw05_ProfileBack.j2 kj18 l0 a1 a2 a3 a4 a5 t325 t337 false)) = some r := H
                      have A34 := Aside0.mk A340
                      clear A340
                      have HC35 := Aside0.mk H
                      clear H
                      go_upto_region 11 with (first | ((with_reducible refine gate_callee (f := 21) rfl ?_); refine goesL_ (some 78) rfl rfl Try.func21 (by kernel_rfl) rfl #[.slice (some ad336) l0.length c0, .int .i64 a4] rfl (by (try simp only [List.map_toArray, List.map_cons, List.map_nil]); first | done | rfl | (simp only [List.length_drop, List.length_take]; rfl)) ?_; (with_reducible refine (profile_At.calls kj18 _ _ l0 a4 t337 _ ?side1 ?side2 A34.out).mono ?_); (case side1 => repeat (first | exact (Kd.C_below HR0.out HB.out) | (with_reducible refine Kd.C_alloc ?_ _) | (with_reducible refine Kd.C_drewN ?_ _) | (with_reducible refine Kd.C_drew ?_))); (case side2 => exact HC0.out); rintro e w36 ⟨rfl, hb⟩; refine ⟨_, rfl, ?_⟩; have n0_ := Aside0.mk (Kd.R_below (by (with_reducible repeat (first | apply Kd.R_alloc | apply Kd.R_drewN | apply Kd.R_drew)); exact HO_13.out) hb); have n1_ := Aside0.mk (below_step (by repeat (first | (with_reducible first | exact HB.out | apply below_alloc | apply pw_below_drewN | apply below_drew1) | exact HB.out)) hb); clear HO_13; clear HB; have HO_13 := n0_; have HB := n1_; clear n0_ n1_; (try clear hb); (try clear hb2); (try clear hk); (try clear hi)))
                      (try simp only [Act.put, List.setIfInBounds_toArray, List.set_cons_zero, List.set_cons_succ])
                      go_cut [88] (fun v88 wc => ∃ (kq : Nat) (x88_34 : Bool), v88 = .bool x88_34 ∧ Aside0 (gangerlaw05_ProfileBack.j2 kq l0 a1 a2 a3 a4 a5 t325 t337 x88_34 = some r) ∧ Aside0 (kq ≤ kj18) ∧ Aside0 (Kd.R k39 39 wc w.heap.size (fun _ => True) (.slice Ao21 t325.length co21) t325) ∧ Aside0 (Below w.heap.size w wc))
                      case first =>
                        have H := HC35.out
                        clear HC35
                        by_cases c37 : a4 ≥ a1
                        · rw [if_pos c37] at H
                          have c37b0 : decide (a1 ≤ a4) = true := decide_eq_true c37
                          clear c37
                          (first | rw [c37b0] | (simp only [i64_w, i32_w]; rw [c37b0]) | skip)
                          have H' := Aside0.mk H
                          clear H
                          go_wp2
                          go_meet
                          case rel => exact ⟨_, (decide (a4 < (wrap64 (a1 + a2)))), (by first | rfl | (simp; done) | (simp [*]; done)), H', ⟨by have := HJ6.out; have := HJ18.out; first | omega | exact Nat.le_refl _⟩, ⟨by (with_reducible repeat (first | apply Kd.R_alloc | apply Kd.R_drewN | apply Kd.R_drew)); exact HO_13.out⟩, ⟨by repeat (first | (with_reducible first | exact HB.out | apply below_alloc | apply pw_below_drewN | apply below_drew1) | exact HB.out)⟩⟩
                        · rw [if_neg c37] at H
                          have c37b0 : decide (a1 ≤ a4) = false := decide_eq_false c37
                          clear c37
                          (first | rw [c37b0] | (simp only [i64_w, i32_w]; rw [c37b0]) | skip)
                          have H' := Aside0.mk H
                          clear H
                          go_wp2
                          go_meet
                          case rel => exact ⟨_, (false), (by first | rfl | (simp; done) | (simp [*]; done)), H', ⟨by have := HJ6.out; have := HJ18.out; first | omega | exact Nat.le_refl _⟩, ⟨by (with_reducible repeat (first | apply Kd.R_alloc | apply Kd.R_drewN | apply Kd.R_drew)); exact HO_13.out⟩, ⟨by repeat (first | (with_reducible first | exact HB.out | apply below_alloc | apply pw_below_drewN | apply below_drew1) | exact HB.out)⟩⟩
                      case rest =>
                        clear HC35
                        try clear c1
                        try clear c2
                        try clear p2
                        try clear c3
                        try clear p3
                        try clear q3
                        try clear hx3
                        try clear qi3
                        try clear c5
                        try clear p6
                        try clear c9
                        try clear c10
                        try clear c10b0
                        try clear c10b1
                        try clear c10b2
                        try clear c11
                        try clear c12
                        try clear c13
                        try clear c16
                        try clear c17
                        try clear c17b0
                        try clear c17b1
                        try clear c21
                        try clear c23
                        try clear c23b0
                        try clear c23b1
                        try clear c25
                        try clear c30
                        try clear c31
                        try clear c31b0
                        try clear c31b1
                        try clear c33
                        try clear c33b0
                        try clear p33
                        try clear q33
                        try clear hx33
                        try clear qi33
                        try clear c37
                        try clear c37b0
                        try clear hx336_0
                        try clear hx336_1
                        try clear p2
                        try clear p336
                        try clear p6
                        try clear q336
                        obtain ⟨kq, x88_34, rfl, HA, HJ34, HO_13, HB⟩ := hcut
                        cases kq with
                        | zero => exact absurd HA.out (by simp [gangerlaw05_ProfileBack.j2])
                        | succ kj34 =>
                          have H := HA.out
                          clear HA
                          simp only [gangerlaw05_ProfileBack.j2] at H
                          by_cases c38 : x88_34 = true
                          · subst c38
                            have H1 : ((profile_At.f kj34 t325 a4).bind fun t338 => (if t338 = (wrap64 (t337 + a3)) then (gangerlaw05_ProfileBack.j3 kj34 l0 a1 a2 a3 a5 t325) else (none))) = some r := by rw [if_pos rfl] at H; exact H
                            clear H
                            have H := H1
                            clear H1
                            replace H := Option.bind_eq_some_iff.mp H
                            obtain ⟨t338, A390, H⟩ := H
                            replace H : (if t338 = (wrap64 (t337 + a3)) then (gangerlaw05_ProfileBack.j3 kj34 l0 a1 a2 a3 a5 t325) else (none)) = some r := H
                            have A39 := Aside0.mk A390
                            clear A390
                            by_cases c40 : t338 = (wrap64 (t337 + a3))
                            · rw [if_pos c40] at H
                              have c40b0 : (t338 == (wrap64 (t337 + a3))) = true := beq_iff_eq.mpr c40
                              have c40b1 : (t338 != (wrap64 (t337 + a3))) = false := bne_eq_false_iff_eq.mpr c40
                              clear c40
                              have H' := Aside0.mk H
                              clear H
                              go_wp2_with (first | ((with_reducible refine gate_callee (f := 21) rfl ?_); refine goesL_ (some 94) rfl rfl Try.func21 (by kernel_rfl) rfl #[.slice Ao21 t325.length co21, .int .i64 a4] rfl (by (try simp only [List.map_toArray, List.map_cons, List.map_nil]); first | done | rfl | (simp only [List.length_drop, List.length_take]; rfl)) ?_; (with_reducible refine (profile_At.calls kj34 _ _ t325 a4 t338 _ ?side1 ?side2 A39.out).mono ?_); (case side1 => repeat (first | exact (Kd.R_reads' HO_13.out).2.2 | (with_reducible refine Kd.C_alloc ?_ _) | (with_reducible refine Kd.C_drewN ?_ _) | (with_reducible refine Kd.C_drew ?_))); (case side2 => exact (Kd.R_reads' HO_13.out).2.1); rintro e w41 ⟨rfl, hb⟩; refine ⟨_, rfl, ?_⟩; have n0_ := Aside0.mk (Kd.R_below (by (with_reducible repeat (first | apply Kd.R_alloc | apply Kd.R_drewN | apply Kd.R_drew)); exact HO_13.out) hb); have n1_ := Aside0.mk (below_step (by repeat (first | (with_reducible first | exact HB.out | apply below_alloc | apply pw_below_drewN | apply below_drew1) | exact HB.out)) hb); clear HO_13; clear HB; have HO_13 := n0_; have HB := n1_; clear n0_ n1_; (try clear hb); (try clear hb2); (try clear hk); (try clear hi)))
                              go_meet
                              case rel => exact ⟨_, H', ⟨by have := HJ6.out; have := HJ18.out; have := HJ34.out; first | omega | exact Nat.le_refl _⟩, ⟨by (with_reducible repeat (first | apply Kd.R_alloc | apply Kd.R_drewN | apply Kd.R_drew)); exact HO_13.out⟩, ⟨by repeat (first | (with_reducible first | exact HB.out | apply below_alloc | apply pw_below_drewN | apply below_drew1) | exact HB.out)⟩⟩
                            · rw [if_neg c40] at H
                              exact absurd H (by simp)
                          · replace c38 := Bool.eq_false_iff.mpr c38
                            subst c38
                            have H1 : ((profile_At.f kj34 t325 a4).bind fun t339 => (if t339 = t337 then (gangerlaw05_ProfileBack.j3 kj34 l0 a1 a2 a3 a5 t325) else (none))) = some r := by rw [if_neg (show ¬ (false = true) by decide)] at H; exact H
                            clear H
                            have H := H1
                            clear H1
                            replace H := Option.bind_eq_some_iff.mp H
                            obtain ⟨t339, A420, H⟩ := H
                            replace H : (if t339 = t337 then (gangerlaw05_ProfileBack.j3 kj34 l0 a1 a2 a3 a5 t325) else (none)) = some r := H
                            have A42 := Aside0.mk A420
                            clear A420
                            by_cases c43 : t339 = t337
                            · rw [if_pos c43] at H
                              have c43b0 : (t339 == t337) = true := beq_iff_eq.mpr c43
                              have c43b1 : (t339 != t337) = false := bne_eq_false_iff_eq.mpr c43
                              clear c43
                              have H' := Aside0.mk H
                              clear H
                              go_wp2_with (first | ((with_reducible refine gate_callee (f := 21) rfl ?_); refine goesL_ (some 94) rfl rfl Try.func21 (by kernel_rfl) rfl #[.slice Ao21 t325.length co21, .int .i64 a4] rfl (by (try simp only [List.map_toArray, List.map_cons, List.map_nil]); first | done | rfl | (simp only [List.length_drop, List.length_take]; rfl)) ?_; (with_reducible refine (profile_At.calls kj34 _ _ t325 a4 t339 _ ?side1 ?side2 A42.out).mono ?_); (case side1 => repeat (first | exact (Kd.R_reads' HO_13.out).2.2 | (with_reducible refine Kd.C_alloc ?_ _) | (with_reducible refine Kd.C_drewN ?_ _) | (with_reducible refine Kd.C_drew ?_))); (case side2 => exact (Kd.R_reads' HO_13.out).2.1); rintro e w44 ⟨rfl, hb⟩; refine ⟨_, rfl, ?_⟩; have n0_ := Aside0.mk (Kd.R_below (by (with_reducible repeat (first | apply Kd.R_alloc | apply Kd.R_drewN | apply Kd.R_drew)); exact HO_13.out) hb); have n1_ := Aside0.mk (below_step (by repeat (first | (with_reducible first | exact HB.out | apply below_alloc | apply pw_below_drewN | apply below_drew1) | exact HB.out)) hb); clear HO_13; clear HB; have HO_13 := n0_; have HB := n1_; clear n0_ n1_; (try clear hb); (try clear hb2); (try clear hk); (try clear hi)))
                              go_meet
                              case rel => exact ⟨_, H', ⟨by have := HJ6.out; have := HJ18.out; have := HJ34.out; first | omega | exact Nat.le_refl _⟩, ⟨by (with_reducible repeat (first | apply Kd.R_alloc | apply Kd.R_drewN | apply Kd.R_drew)); exact HO_13.out⟩, ⟨by repeat (first | (with_reducible first | exact HB.out | apply below_alloc | apply pw_below_drewN | apply below_drew1) | exact HB.out)⟩⟩
                            · rw [if_neg c43] at H
                              exact absurd H (by simp)
                    · rw [if_neg c33] at H
                      have c33b0 : decide (((rd_T39 l0 0).f0) ≤ a4) = false := decide_eq_false c33
                      clear c33
                      (first | rw [c33b0] | (simp only [i64_w, i32_w]; rw [c33b0]) | skip)
                      have H' := Aside0.mk H
                      clear H
                      go_wp2
                      go_meet
                      case rel => exact ⟨_, H', ⟨by have := HJ6.out; have := HJ18.out; first | omega | exact Nat.le_refl _⟩, ⟨by (with_reducible repeat (first | apply Kd.R_alloc | apply Kd.R_drewN | apply Kd.R_drew)); exact HO_13.out⟩, ⟨by repeat (first | (with_reducible first | exact HB.out | apply below_alloc | apply pw_below_drewN | apply below_drew1) | exact HB.out)⟩⟩
                  case rest =>
                    clear HC32
                    try clear c1
                    try clear c2
                    try clear p2
                    try clear c3
                    try clear p3
                    try clear q3
                    try clear hx3
                    try clear qi3
                    try clear c4
                    try clear c5
                    try clear p6
                    try clear c9
                    try clear c10
                    try clear c10b0
                    try clear c10b1
                    try clear c10b2
                    try clear c11
                    try clear c12
                    try clear c13
                    try clear c16
                    try clear c17
                    try clear c17b0
                    try clear c17b1
                    try clear c21
                    try clear c23
                    try clear c23b0
                    try clear c23b1
                    try clear c25
                    try clear c30
                    try clear c31
                    try clear c31b0
                    try clear c31b1
                    try clear c33
                    try clear c33b0
                    try clear p33
                    try clear q33
                    try clear hx33
                    try clear qi33
                    try clear c37
                    try clear c37b0
                    try clear c38
                    try clear c40
                    try clear c40b0
                    try clear c40b1
                    try clear c43
                    try clear c43b0
                    try clear c43b1
                    try clear hx336_0
                    try clear hx336_1
                    try clear p2
                    try clear p3
                    try clear p33
                    try clear p336
                    try clear p6
                    try clear q3
                    try clear q33
                    try clear q336
                    obtain ⟨kq, HA, HJ31, HO_13, HB⟩ := hcut
                    cases kq with
                    | zero => exact absurd HA.out (by simp [gangerlaw05_ProfileBack.j3])
                    | succ kj31 =>
                      have H := HA.out
                      clear HA
                      simp only [gangerlaw05_ProfileBack.j3] at H
                      replace H := Option.bind_eq_some_iff.mp H
                      obtain ⟨⟨t340, t341⟩, A450, H⟩ := H
                      replace H : ((profile_Change.f kj31 l0 a5 a2 1).bind fun bt344 => (if t341 = 0 then (gangerlaw05_ProfileBack.j4 kj31 a1 a2 a3 t340 bt344.1 (bt344.2 != 0)) else (gangerlaw05_ProfileBack.j4 kj31 a1 a2 a3 t340 bt344.1 true))) = some r := H
                      have A45 := Aside0.mk A450
                      clear A450
                      replace H := Option.bind_eq_some_iff.mp H
                      obtain ⟨⟨t344, t345⟩, A460, H⟩ := H
                      replace H : (if t341 = 0 then (gangerlaw05_ProfileBack.j4 kj31 a1 a2 a3 t340 t344 (t345 != 0)) else (gangerlaw05_ProfileBack.j4 kj31 a1 a2 a3 t340 t344 true)) = some r := H
                      have A46 := Aside0.mk A460
                      clear A460
                      have HC47 := Aside0.mk H
                      clear H
                      go_upto_region 17 with (first | ((with_reducible refine gate_callee (f := 16) rfl ?_); refine goesL_ (some 101) rfl rfl Try.func16 (by kernel_rfl) rfl #[.slice Ao21 t325.length co21, .int .i64 a5, .int .i64 a2, .int .i64 1] rfl (by (try simp only [List.map_toArray, List.map_cons, List.map_nil]); first | done | rfl | (simp only [List.length_drop, List.length_take]; rfl)) ?_; (with_reducible refine (profile_Change.calls kj31 _ _ t325 a5 a2 1 t340 t341 _ ?side1 ?side2 A45.out).mono ?_); (case side1 => repeat (first | exact (Kd.R_reads' HO_13.out).2.2 | (with_reducible refine Kd.C_alloc ?_ _) | (with_reducible refine Kd.C_drewN ?_ _) | (with_reducible refine Kd.C_drew ?_))); (case side2 => exact (Kd.R_reads' HO_13.out).2.1); rintro e w48 ⟨v342, rfl, ho0, hb⟩; refine ⟨_, rfl, ?_⟩; have n0_ := Aside0.mk (Kd.R_elder' (by (with_reducible repeat (first | apply Kd.R_alloc | apply Kd.R_drewN | apply Kd.R_drew)); exact HO_13.out) (Kd.R_base ho0) hb); have n1_ := Aside0.mk (Kd.R_lower (Kd.R_new' ho0 (Kd.R_lt (by (with_reducible repeat (first | apply Kd.R_alloc | apply Kd.R_drewN | apply Kd.R_drew)); exact HO_13.out))) (below_size (by repeat (first | (with_reducible first | exact HB.out | apply below_alloc | apply pw_below_drewN | apply below_drew1) | exact HB.out)))); have n2_ := Aside0.mk (below_step (by repeat (first | (with_reducible first | exact HB.out | apply below_alloc | apply pw_below_drewN | apply below_drew1) | exact HB.out)) hb); clear HO_13; clear HB; have HO_13 := n0_; have HO343 := n1_; have HB := n2_; clear n0_ n1_ n2_; (try clear hb); (try clear hb2); (try clear hk); (try clear hi); (try clear ho0)) | ((with_reducible refine gate_callee (f := 16) rfl ?_); refine goesL_ (some 108) rfl rfl Try.func16 (by kernel_rfl) rfl #[.slice (some ad336) l0.length c0, .int .i64 a5, .int .i64 a2, .int .i64 1] rfl (by (try simp only [List.map_toArray, List.map_cons, List.map_nil]); first | done | rfl | (simp only [List.length_drop, List.length_take]; rfl)) ?_; (with_reducible refine (profile_Change.calls kj31 _ _ l0 a5 a2 1 t344 t345 _ ?side1 ?side2 A46.out).mono ?_); (case side1 => repeat (first | exact (Kd.C_below HR0.out HB.out) | (with_reducible refine Kd.C_alloc ?_ _) | (with_reducible refine Kd.C_drewN ?_ _) | (with_reducible refine Kd.C_drew ?_))); (case side2 => exact HC0.out); rintro e w49 ⟨v346, rfl, ho0, hb⟩; refine ⟨_, rfl, ?_⟩; have n0_ := Aside0.mk (Kd.R_elder' (by (with_reducible repeat (first | apply Kd.R_alloc | apply Kd.R_drewN | apply Kd.R_drew)); exact HO_13.out) (Kd.R_base ho0) hb); have n1_ := Aside0.mk (Kd.R_elder' (by (with_reducible repeat (first | apply Kd.R_alloc | apply Kd.R_drewN | apply Kd.R_drew)); exact HO343.out) (Kd.R_base ho0) hb); have n2_ := Aside0.mk (Kd.R_lower (Kd.R_new' (Kd.R_new' ho0 (Kd.R_lt (by (with_reducible repeat (first | apply Kd.R_alloc | apply Kd.R_drewN | apply Kd.R_drew)); exact HO_13.out))) (Kd.R_lt (by (with_reducible repeat (first | apply Kd.R_alloc | apply Kd.R_drewN | apply Kd.R_drew)); exact HO343.out))) (below_size (by repeat (first | (with_reducible first | exact HB.out | apply below_alloc | apply pw_below_drewN | apply below_drew1) | exact HB.out)))); have n3_ := Aside0.mk (below_step (by repeat (first | (with_reducible first | exact HB.out | apply below_alloc | apply pw_below_drewN | apply below_drew1) | exact HB.out)) hb); clear HO_13; clear HO343; clear HB; have HO_13 := n0_; have HO343 := n1_; have HO347 := n2_; have HB := n3_; clear n0_ n1_ n2_ n3_; (try clear hb); (try clear hb2); (try clear hk); (try clear hi); (try clear ho0)))
                      (try simp only [Act.put, List.setIfInBounds_toArray, List.set_cons_zero, List.set_cons_succ])
                      go_cut [116] (fun v116 wc => ∃ (kq : Nat) (x116_46 : Bool), v116 = .bool x116_46 ∧ Aside0 (gangerlaw05_ProfileBack.j4 kq a1 a2 a3 t340 t344 x116_46 = some r) ∧ Aside0 (kq ≤ kj31) ∧ Aside0 (Kd.R k39 39 wc w.heap.size (fun k_ => some k_ ≠ (v346 : Value).ownBlock) v342 t340) ∧ Aside0 (Kd.R k39 39 wc w.heap.size (fun k_ => some k_ ≠ (v342 : Value).ownBlock) v346 t344) ∧ Aside0 (Below w.heap.size w wc))
                      case first =>
                        have H := HC47.out
                        clear HC47
                        by_cases c50 : t341 = 0
                        · rw [if_pos c50] at H
                          have c50b0 : (t341 == 0) = true := beq_iff_eq.mpr c50
                          have c50b1 : (t341 != 0) = false := bne_eq_false_iff_eq.mpr c50
                          clear c50
                          (first | rw [c50b0] | (simp only [i64_w, i32_w]; rw [c50b0]) | skip)
                          have H' := Aside0.mk H
                          clear H
                          go_wp2
                          go_meet
                          case rel => exact ⟨_, ((t345 != 0)), (by first | rfl | (simp; done) | (simp [*]; done)), H', ⟨by have := HJ6.out; have := HJ18.out; have := HJ31.out; first | omega | exact Nat.le_refl _⟩, ⟨by (with_reducible repeat (first | apply Kd.R_alloc | apply Kd.R_drewN | apply Kd.R_drew)); exact Kd.R_mono HO343.out (fun _ hk => hk.2)⟩, ⟨by (with_reducible repeat (first | apply Kd.R_alloc | apply Kd.R_drewN | apply Kd.R_drew)); exact Kd.R_mono HO347.out (fun _ hk => hk.2)⟩, ⟨by repeat (first | (with_reducible first | exact HB.out | apply below_alloc | apply pw_below_drewN | apply below_drew1) | exact HB.out)⟩⟩
                        · rw [if_neg c50] at H
                          have c50b0 : (t341 == 0) = false := beq_eq_false_iff_ne.mpr c50
                          have c50b1 : (t341 != 0) = true := bne_iff_ne.mpr c50
                          (first | rw [c50b0] | (simp only [i64_w, i32_w]; rw [c50b0]) | skip)
                          have H' := Aside0.mk H
                          clear H
                          go_wp2
                          go_meet
                          case rel => exact ⟨_, (true), (by first | rfl | (simp; done) | (simp [*]; done)), H', ⟨by have := HJ6.out; have := HJ18.out; have := HJ31.out; first | omega | exact Nat.le_refl _⟩, ⟨by (with_reducible repeat (first | apply Kd.R_alloc | apply Kd.R_drewN | apply Kd.R_drew)); exact Kd.R_mono HO343.out (fun _ hk => hk.2)⟩, ⟨by (with_reducible repeat (first | apply Kd.R_alloc | apply Kd.R_drewN | apply Kd.R_drew)); exact Kd.R_mono HO347.out (fun _ hk => hk.2)⟩, ⟨by repeat (first | (with_reducible first | exact HB.out | apply below_alloc | apply pw_below_drewN | apply below_drew1) | exact HB.out)⟩⟩
                      case rest =>
                        clear HC47
                        try clear c1
                        try clear c2
                        try clear p2
                        try clear c3
                        try clear p3
                        try clear q3
                        try clear hx3
                        try clear qi3
                        try clear c4
                        try clear c5
                        try clear p6
                        try clear c9
                        try clear c10
                        try clear c10b0
                        try clear c10b1
                        try clear c10b2
                        try clear c11
                        try clear c12
                        try clear c13
                        try clear c16
                        try clear c17
                        try clear c17b0
                        try clear c17b1
                        try clear c21
                        try clear c23
                        try clear c23b0
                        try clear c23b1
                        try clear c25
                        try clear c30
                        try clear c31
                        try clear c31b0
                        try clear c31b1
                        try clear c33
                        try clear c33b0
                        try clear p33
                        try clear q33
                        try clear hx33
                        try clear qi33
                        try clear c37
                        try clear c37b0
                        try clear c38
                        try clear c40
                        try clear c40b0
                        try clear c40b1
                        try clear c43
                        try clear c43b0
                        try clear c43b1
                        try clear c50
                        try clear c50b0
                        try clear c50b1
                        try clear hx336_0
                        try clear hx336_1
                        try clear p2
                        try clear p3
                        try clear p33
                        try clear p336
                        try clear p6
                        try clear q3
                        try clear q33
                        try clear q336
                        obtain ⟨kq, x116_46, rfl, HA, HJ46, HO_18, HO_20, HB⟩ := hcut
                        cases kq with
                        | zero => exact absurd HA.out (by simp [gangerlaw05_ProfileBack.j4])
                        | succ kj46 =>
                          have H := HA.out
                          clear HA
                          simp only [gangerlaw05_ProfileBack.j4] at H
                          by_cases c51 : x116_46 = true
                          · subst c51
                            have H1 : ((gangerlaw05_known.f kj46).bind fun t348 => (some t348)) = some r := by rw [if_pos rfl] at H; exact H
                            clear H
                            have H := H1
                            clear H1
                            replace H := Option.bind_eq_some_iff.mp H
                            obtain ⟨t348, A520, H⟩ := H
                            replace H : (some t348) = some r := H
                            have A52 := Aside0.mk A520
                            clear A520
                            obtain rfl := Option.some.inj H
                            go_wp2_with (first | ((with_reducible refine gate_callee (f := 12) rfl ?_); refine goesL_ (some 117) rfl rfl Try.func12 (by kernel_rfl) rfl #[] rfl (by (try simp only [List.map_toArray, List.map_cons, List.map_nil]); first | done | rfl | (simp only [List.length_drop, List.length_take]; rfl)) ?_; (with_reducible refine (gangerlaw05_known.calls kj46  t348 _ A52.out).mono ?_); rintro e w53 ⟨rfl, hb⟩; refine ⟨_, rfl, ?_⟩; have n0_ := Aside0.mk (Kd.R_below (by (with_reducible repeat (first | apply Kd.R_alloc | apply Kd.R_drewN | apply Kd.R_drew)); exact HO_18.out) hb); have n1_ := Aside0.mk (Kd.R_below (by (with_reducible repeat (first | apply Kd.R_alloc | apply Kd.R_drewN | apply Kd.R_drew)); exact HO_20.out) hb); have n2_ := Aside0.mk (below_step (by repeat (first | (with_reducible first | exact HB.out | apply below_alloc | apply pw_below_drewN | apply below_drew1) | exact HB.out)) hb); clear HO_18; clear HO_20; clear HB; have HO_18 := n0_; have HO_20 := n1_; have HB := n2_; clear n0_ n1_ n2_; (try clear hb); (try clear hb2); (try clear hk); (try clear hi)))
                            go_ret
                            exact ⟨by first | rfl | (simp [errW_none, errW_some] <;> rfl) | (simp [*, errW_none, errW_some] <;> rfl), by repeat (first | (with_reducible first | exact HB.out | apply below_alloc | apply pw_below_drewN | apply below_drew1) | exact HB.out)⟩
                          · replace c51 := Bool.eq_false_iff.mpr c51
                            subst c51
                            have H1 : ((profile_Change.f kj46 t344 a1 a2 a3).bind fun bt349 => (if bt349.2 = 0 then ((gangerref05_Same.f kj46 t340 bt349.1).bind fun t353 => (if t353 = true then ((gangerlaw05_known.f kj46).bind fun t354 => (some t354)) else (none))) else (none))) = some r := by rw [if_neg (show ¬ (false = true) by decide)] at H; exact H
                            clear H
                            have H := H1
                            clear H1
                            replace H := Option.bind_eq_some_iff.mp H
                            obtain ⟨⟨t349, t350⟩, A540, H⟩ := H
                            replace H : (if t350 = 0 then ((gangerref05_Same.f kj46 t340 t349).bind fun t353 => (if t353 = true then ((gangerlaw05_known.f kj46).bind fun t354 => (some t354)) else (none))) else (none)) = some r := H
                            have A54 := Aside0.mk A540
                            clear A540
                            by_cases c55 : t350 = 0
                            · rw [if_pos c55] at H
                              have c55b0 : (t350 == 0) = true := beq_iff_eq.mpr c55
                              have c55b1 : (t350 != 0) = false := bne_eq_false_iff_eq.mpr c55
                              clear c55
                              replace H := Option.bind_eq_some_iff.mp H
                              obtain ⟨t353, A560, H⟩ := H
                              replace H : (if t353 = true then ((gangerlaw05_known.f kj46).bind fun t354 => (some t354)) else (none)) = some r := H
                              have A56 := Aside0.mk A560
                              clear A560
                              by_cases c57 : t353 = true
                              · subst c57
                                have H1 : ((gangerlaw05_known.f kj46).bind fun t354 => (some t354)) = some r := by rw [if_pos rfl] at H; exact H
                                clear H
                                have H := H1
                                clear H1
                                replace H := Option.bind_eq_some_iff.mp H
                                obtain ⟨t354, A580, H⟩ := H
                                replace H : (some t354) = some r := H
                                have A58 := Aside0.mk A580
                                clear A580
                                obtain rfl := Option.some.inj H
                                obtain ⟨Ao59, co59, eo59⟩ := Kd.R_slice HO_20.out
                                subst eo59
                                go_wp2_with (first | ((with_reducible refine gate_callee (f := 16) rfl ?_); refine goesL_ (some 123) rfl rfl Try.func16 (by kernel_rfl) rfl #[.slice Ao59 t344.length co59, .int .i64 a1, .int .i64 a2, .int .i64 a3] rfl (by (try simp only [List.map_toArray, List.map_cons, List.map_nil]); first | done | rfl | (simp only [List.length_drop, List.length_take]; rfl)) ?_; (with_reducible refine (profile_Change.calls kj46 _ _ t344 a1 a2 a3 t349 t350 _ ?side1 ?side2 A54.out).mono ?_); (case side1 => repeat (first | exact (Kd.R_reads' HO_20.out).2.2 | (with_reducible refine Kd.C_alloc ?_ _) | (with_reducible refine Kd.C_drewN ?_ _) | (with_reducible refine Kd.C_drew ?_))); (case side2 => exact (Kd.R_reads' HO_20.out).2.1); rintro e w60 ⟨v351, rfl, ho0, hb⟩; refine ⟨_, rfl, ?_⟩; have n0_ := Aside0.mk (Kd.R_elder' (by (with_reducible repeat (first | apply Kd.R_alloc | apply Kd.R_drewN | apply Kd.R_drew)); exact HO_18.out) (Kd.R_base ho0) hb); have n1_ := Aside0.mk (Kd.R_elder' (by (with_reducible repeat (first | apply Kd.R_alloc | apply Kd.R_drewN | apply Kd.R_drew)); exact HO_20.out) (Kd.R_base ho0) hb); have n2_ := Aside0.mk (Kd.R_lower (Kd.R_new' (Kd.R_new' ho0 (Kd.R_lt (by (with_reducible repeat (first | apply Kd.R_alloc | apply Kd.R_drewN | apply Kd.R_drew)); exact HO_18.out))) (Kd.R_lt (by (with_reducible repeat (first | apply Kd.R_alloc | apply Kd.R_drewN | apply Kd.R_drew)); exact HO_20.out))) (below_size (by repeat (first | (with_reducible first | exact HB.out | apply below_alloc | apply pw_below_drewN | apply below_drew1) | exact HB.out)))); have n3_ := Aside0.mk (below_step (by repeat (first | (with_reducible first | exact HB.out | apply below_alloc | apply pw_below_drewN | apply below_drew1) | exact HB.out)) hb); clear HO_18; clear HO_20; clear HB; have HO_18 := n0_; have HO_20 := n1_; have HO352 := n2_; have HB := n3_; clear n0_ n1_ n2_ n3_; (try clear hb); (try clear hb2); (try clear hk); (try clear hi); (try clear ho0); obtain ⟨Ao61, co61, eo61⟩ := Kd.R_slice HO_18.out; subst eo61; obtain ⟨Ao62, co62, eo62⟩ := Kd.R_slice HO352.out; subst eo62) | (go_at_call 18; (with_reducible refine (gangerref05_Same.calls kj46 _ _ t340 _ _ t349 true _ ?side1 ?side2 ?side3 ?side4 A56.out).mono ?_); (case side1 => repeat (first | exact (Kd.R_reads' HO_18.out).2.2 | (with_reducible refine Kd.C_alloc ?_ _) | (with_reducible refine Kd.C_drewN ?_ _) | (with_reducible refine Kd.C_drew ?_))); (case side2 => exact (Kd.R_reads' HO_18.out).2.1); (case side3 => repeat (first | exact (Kd.R_reads' HO352.out).2.2 | (with_reducible refine Kd.C_alloc ?_ _) | (with_reducible refine Kd.C_drewN ?_ _) | (with_reducible refine Kd.C_drew ?_))); (case side4 => exact (Kd.R_reads' HO352.out).2.1); rintro e w' ⟨rfl, ⟨nd, rfl⟩⟩) | (go_at_call 12; (with_reducible refine (gangerlaw05_known.calls kj46  t354 _ A58.out).mono ?_); rintro e w63 ⟨rfl, hb⟩; have n0_ := Aside0.mk (Kd.R_below (by (with_reducible repeat (first | apply Kd.R_alloc | apply Kd.R_drewN | apply Kd.R_drew)); exact HO_18.out) hb); have n1_ := Aside0.mk (Kd.R_below (by (with_reducible repeat (first | apply Kd.R_alloc | apply Kd.R_drewN | apply Kd.R_drew)); exact HO_20.out) hb); have n2_ := Aside0.mk (Kd.R_below (by (with_reducible repeat (first | apply Kd.R_alloc | apply Kd.R_drewN | apply Kd.R_drew)); exact HO352.out) hb); have n3_ := Aside0.mk (below_step (by repeat (first | (with_reducible first | exact HB.out | apply below_alloc | apply pw_below_drewN | apply below_drew1) | exact HB.out)) hb); clear HO_18; clear HO_20; clear HO352; clear HB; have HO_18 := n0_; have HO_20 := n1_; have HO352 := n2_; have HB := n3_; clear n0_ n1_ n2_ n3_; (try clear hb); (try clear hb2); (try clear hk); (try clear hi)))
                                go_ret
                                exact ⟨by first | rfl | (simp [errW_none, errW_some] <;> rfl) | (simp [*, errW_none, errW_some] <;> rfl), by repeat (first | (with_reducible first | exact HB.out | apply below_alloc | apply pw_below_drewN | apply below_drew1) | exact HB.out)⟩
                              · replace c57 := Bool.eq_false_iff.mpr c57
                                subst c57
                                have H1 : (none) = some r := by rw [if_neg (show ¬ (false = true) by decide)] at H; exact H
                                clear H
                                have H := H1
                                clear H1
                                exact absurd H (by simp)
                            · rw [if_neg c55] at H
                              exact absurd H (by simp)
                · rw [if_neg c31] at H
                  exact absurd H (by simp)
        · rw [if_neg c17] at H
          have c17b0 : (t326 == 0) = false := beq_eq_false_iff_ne.mpr c17
          have c17b1 : (t326 != 0) = true := bne_iff_ne.mpr c17
          replace H := Option.bind_eq_some_iff.mp H
          obtain ⟨t329, A640, H⟩ := H
          replace H : (some t329) = some r := H
          have A64 := Aside0.mk A640
          clear A640
          obtain rfl := Option.some.inj H
          go_wp2_with (first | ((with_reducible refine gate_callee (f := 16) rfl ?_); refine goesL_ (some 42) rfl rfl Try.func16 (by kernel_rfl) rfl #[.slice A0 l0.length c0, .int .i64 a1, .int .i64 a2, .int .i64 a3] rfl (by (try simp only [List.map_toArray, List.map_cons, List.map_nil]); first | done | rfl | (simp only [List.length_drop, List.length_take]; rfl)) ?_; (with_reducible refine (profile_Change.calls kj6 _ _ l0 a1 a2 a3 t325 t326 _ ?side1 ?side2 A16.out).mono ?_); (case side1 => repeat (first | exact (Kd.C_below HR0.out HB.out) | (with_reducible refine Kd.C_alloc ?_ _) | (with_reducible refine Kd.C_drewN ?_ _) | (with_reducible refine Kd.C_drew ?_))); (case side2 => exact HC0.out); rintro e w65 ⟨v327, rfl, ho0, hb⟩; refine ⟨_, rfl, ?_⟩; have n0_ := Aside0.mk (Kd.R_lower ho0 (below_size (by repeat (first | (with_reducible first | exact HB.out | apply below_alloc | apply pw_below_drewN | apply below_drew1) | exact HB.out)))); have n1_ := Aside0.mk (below_step (by repeat (first | (with_reducible first | exact HB.out | apply below_alloc | apply pw_below_drewN | apply below_drew1) | exact HB.out)) hb); clear HB; have HO328 := n0_; have HB := n1_; clear n0_ n1_; (try clear hb); (try clear hb2); (try clear hk); (try clear hi); (try clear ho0)) | ((with_reducible refine gate_callee (f := 12) rfl ?_); refine goesL_ (some 47) rfl rfl Try.func12 (by kernel_rfl) rfl #[] rfl (by (try simp only [List.map_toArray, List.map_cons, List.map_nil]); first | done | rfl | (simp only [List.length_drop, List.length_take]; rfl)) ?_; (with_reducible refine (gangerlaw05_known.calls kj6  t329 _ A64.out).mono ?_); rintro e w66 ⟨rfl, hb⟩; refine ⟨_, rfl, ?_⟩; have n0_ := Aside0.mk (Kd.R_below (by (with_reducible repeat (first | apply Kd.R_alloc | apply Kd.R_drewN | apply Kd.R_drew)); exact HO328.out) hb); have n1_ := Aside0.mk (below_step (by repeat (first | (with_reducible first | exact HB.out | apply below_alloc | apply pw_below_drewN | apply below_drew1) | exact HB.out)) hb); clear HO328; clear HB; have HO328 := n0_; have HB := n1_; clear n0_ n1_; (try clear hb); (try clear hb2); (try clear hk); (try clear hi)))
          go_ret
          exact ⟨by first | rfl | (simp [errW_none, errW_some] <;> rfl) | (simp [*, errW_none, errW_some] <;> rfl), by repeat (first | (with_reducible first | exact HB.out | apply below_alloc | apply pw_below_drewN | apply below_drew1) | exact HB.out)⟩
def gangerlaw05_ProfileBack.Pure : Prop := ∀ (l0 : List (S39)) (a1 : Int) (a2 : Int) (a3 : Int) (a4 : Int) (a5 : Int), (l0.length ≤ maxLen ∧ ∀ x2 ∈ l0, (((Lit.int .i64 x2.f0).wf = true) ∧ ((Lit.int .i64 x2.f1).wf = true))) → ((Lit.int .i64 a1).wf = true) → ((Lit.int .i64 a2).wf = true) → ((Lit.int .i64 a3).wf = true) → ((Lit.int .i64 a4).wf = true) → ((Lit.int .i64 a5).wf = true) → ∃ k, gangerlaw05_ProfileBack.f k l0 a1 a2 a3 a4 a5 = some true

end Go.Proofs.Ytfcmpnajokjaaaa.P
