/- The machine's side of the laws of this seat: each function's plain form and its contract, written by a program of this session out of Lean's print of the loaded functions; no condition beyond what each statement says. -/
import Derived.Test.YtfcmpnajokjaaaaP0
import Derived.Test.YtfcmpnajokjaaaaP2
import Derived.Test.YtfcmpnajokjaaaaP3
import Derived.Test.YtfcmpnajokjaaaaP6
import Derived.Test.YtfcmpnajokjaaaaP15
namespace Go.Proofs.Ytfcmpnajokjaaaa.P
open Go.RowKit Go.Proofs.YtfcmpnajokjaaaaW.PrintWords Go.Proofs.YtfcmpnajokjaaaaW.PrintLast Go.Proofs.YtfcmpnajokjaaaaW.PrintMore
attribute [local go_sem] max2_int min2_int max_two min_two max_three min_three max_four min_four   -- for this text's walks alone
set_option linter.unusedVariables false
set_option linter.unusedSimpArgs false

attribute [local go_sem] isSome_setCell
/-! ### gangerlaw05_ProfileLeast: function 9 -/
mutual
def gangerlaw05_ProfileLeast.j0 : Nat → List (S39) → Int → Int → Int → Int → Int → Int → Bool → Option (Bool)
  | 0, _, _, _, _, _, _, _, _ => none
  | k + 1, x0, x1, x2, x3, x4, x5, x13, x42 => if x42 = true then (none) else ((profile_Least.f k x0 x13 x2).bind fun t452 => (if t452 < x3 then (gangerlaw05_ProfileLeast.j1 k x0 x1 x2 x3 x4 x5 x13 true) else (gangerlaw05_ProfileLeast.j1 k x0 x1 x2 x3 x4 x5 x13 (decide (x13 < x1)))))
def gangerlaw05_ProfileLeast.j1 : Nat → List (S39) → Int → Int → Int → Int → Int → Int → Bool → Option (Bool)
  | 0, _, _, _, _, _, _, _, _ => none
  | k + 1, x0, x1, x2, x3, x4, x5, x13, x53 => if x53 = true then (none) else (gangerlaw05_ProfileLeast.l0 k x0 x1 x2 x3 x4 x5 x13 1)
def gangerlaw05_ProfileLeast.l0 : Nat → List (S39) → Int → Int → Int → Int → Int → Int → Int → Option (Bool)
  | 0, _, _, _, _, _, _, _, _ => none
  | k + 1, x0, x1, x2, x3, x4, x5, x13, x15 => if x15 ≤ 3 then (if (wrap64 (x13 - x15)) ≥ x1 then (if 0 < (x0.length : Int) then (if (wrap64 (x13 - x15)) ≥ ((rd_T39 x0 0).f0) then ((profile_Least.f k x0 (wrap64 (x13 - x15)) x2).bind fun t454 => (if t454 ≥ x3 then (none) else (gangerlaw05_ProfileLeast.l0 k x0 x1 x2 x3 x4 x5 x13 (wrap64 (x15 + 1))))) else (gangerlaw05_ProfileLeast.l0 k x0 x1 x2 x3 x4 x5 x13 (wrap64 (x15 + 1)))) else (none)) else (gangerlaw05_ProfileLeast.l0 k x0 x1 x2 x3 x4 x5 x13 (wrap64 (x15 + 1)))) else (if (IntKind.u64.wrap (x2)) = 0 then (none) else ((profile_Fit.f k x0 x1 (wrap64 (1 + (wrap64 (Int.tmod (IntKind.u64.wrap (x4)) (IntKind.u64.wrap (x2)))))) x3).bind fun bt455 => ((profile_Fit.f k x0 x1 x2 (mn (mx x4 0) x3)).bind fun bt457 => (if bt455.2 = 0 then (if bt455.1 > x13 then (gangerlaw05_ProfileLeast.j3 k x0 x1 x2 x3 x5 x13 true) else (if bt457.2 = 0 then (gangerlaw05_ProfileLeast.j3 k x0 x1 x2 x3 x5 x13 (decide (bt457.1 > x13))) else (gangerlaw05_ProfileLeast.j3 k x0 x1 x2 x3 x5 x13 true))) else (gangerlaw05_ProfileLeast.j3 k x0 x1 x2 x3 x5 x13 true)))))
def gangerlaw05_ProfileLeast.j3 : Nat → List (S39) → Int → Int → Int → Int → Int → Bool → Option (Bool)
  | 0, _, _, _, _, _, _, _ => none
  | k + 1, x0, x1, x2, x3, x5, x13, x123 => if x123 = true then (none) else ((profile_Fit.f k x0 x5 x2 x3).bind fun bt459 => (if bt459.2 = 0 then (if x5 ≥ x1 then (if bt459.1 < x13 then (none) else (if x5 ≤ x1 then (if x5 ≥ 0 then (if bt459.1 > x13 then (none) else ((gangerlaw05_known.f k).bind fun t461 => (some t461))) else ((gangerlaw05_known.f k).bind fun t462 => (some t462))) else ((gangerlaw05_known.f k).bind fun t463 => (some t463)))) else (if x5 ≤ x1 then (if x5 ≥ 0 then (if bt459.1 > x13 then (none) else ((gangerlaw05_known.f k).bind fun t464 => (some t464))) else ((gangerlaw05_known.f k).bind fun t465 => (some t465))) else ((gangerlaw05_known.f k).bind fun t466 => (some t466)))) else ((gangerlaw05_known.f k).bind fun t467 => (some t467))))
end
def gangerlaw05_ProfileLeast.f (k : Nat) (l0 : List (S39)) (a1 : Int) (a2 : Int) (a3 : Int) (a4 : Int) (a5 : Int) : Option (Bool) := (gangerlaw05_many.f l0 ([] : List (S39))).bind fun t447 => (if t447 = true then ((gangerlaw05_known.f k).bind fun t448 => (some t448)) else ((profile_Fit.f k l0 a1 a2 a3).bind fun bt449 => (if bt449.2 = 0 then (if (l0.length : Int) = 0 then (gangerlaw05_ProfileLeast.j0 k l0 a1 a2 a3 a4 a5 bt449.1 true) else (gangerlaw05_ProfileLeast.j0 k l0 a1 a2 a3 a4 a5 bt449.1 (decide (a2 < 1)))) else ((gangerlaw05_known.f k).bind fun t451 => (some t451)))))
theorem gangerlaw05_ProfileLeast.mono_l : ∀ k, (∀ y0 y1 y2 y3 y4 y5 y6 y7, LeO (gangerlaw05_ProfileLeast.j0 k y0 y1 y2 y3 y4 y5 y6 y7) (gangerlaw05_ProfileLeast.j0 (k + 1) y0 y1 y2 y3 y4 y5 y6 y7)) ∧ (∀ y0 y1 y2 y3 y4 y5 y6 y7, LeO (gangerlaw05_ProfileLeast.j1 k y0 y1 y2 y3 y4 y5 y6 y7) (gangerlaw05_ProfileLeast.j1 (k + 1) y0 y1 y2 y3 y4 y5 y6 y7)) ∧ (∀ y0 y1 y2 y3 y4 y5 y6 y7, LeO (gangerlaw05_ProfileLeast.l0 k y0 y1 y2 y3 y4 y5 y6 y7) (gangerlaw05_ProfileLeast.l0 (k + 1) y0 y1 y2 y3 y4 y5 y6 y7)) ∧ (∀ y0 y1 y2 y3 y4 y5 y6, LeO (gangerlaw05_ProfileLeast.j3 k y0 y1 y2 y3 y4 y5 y6) (gangerlaw05_ProfileLeast.j3 (k + 1) y0 y1 y2 y3 y4 y5 y6))
  | 0 => ⟨fun _ _ _ _ _ _ _ _ r h => by simp [gangerlaw05_ProfileLeast.j0] at h, fun _ _ _ _ _ _ _ _ r h => by simp [gangerlaw05_ProfileLeast.j1] at h, fun _ _ _ _ _ _ _ _ r h => by simp [gangerlaw05_ProfileLeast.l0] at h, fun _ _ _ _ _ _ _ r h => by simp [gangerlaw05_ProfileLeast.j3] at h⟩
  | k + 1 => by
    obtain ⟨ih0, ih1, ih2, ih3⟩ := gangerlaw05_ProfileLeast.mono_l k
    refine ⟨?_, ?_, ?_, ?_⟩
    · intro y0 y1 y2 y3 y4 y5 y6 y7
      unfold gangerlaw05_ProfileLeast.j0
      repeat' first
      | (with_reducible exact ih0 _ _ _ _ _ _ _ _)
      | (with_reducible exact ih1 _ _ _ _ _ _ _ _)
      | (with_reducible exact ih2 _ _ _ _ _ _ _ _)
      | (with_reducible exact ih3 _ _ _ _ _ _ _)
      | (with_reducible exact gangerlaw05_known.mono _)
      | (with_reducible exact profile_Fit.mono _ _ _ _ _)
      | (with_reducible exact profile_Least.mono _ _ _ _)
      | (with_reducible exact LeO.refl _)
      | (with_reducible exact LeO.none _)
      | (with_reducible refine LeO.ite ?_ ?_)
      | (with_reducible refine LeO.bind ?_ (fun _ => ?_))
      | exact ih0 _ _ _ _ _ _ _ _
      | exact ih1 _ _ _ _ _ _ _ _
      | exact ih2 _ _ _ _ _ _ _ _
      | exact ih3 _ _ _ _ _ _ _
      | exact gangerlaw05_known.mono _
      | exact profile_Fit.mono _ _ _ _ _
      | exact profile_Least.mono _ _ _ _
      | exact LeO.none _
      | refine LeO.ite ?_ ?_
      | refine LeO.bind ?_ (fun _ => ?_)
    · intro y0 y1 y2 y3 y4 y5 y6 y7
      unfold gangerlaw05_ProfileLeast.j1
      repeat' first
      | (with_reducible exact ih0 _ _ _ _ _ _ _ _)
      | (with_reducible exact ih1 _ _ _ _ _ _ _ _)
      | (with_reducible exact ih2 _ _ _ _ _ _ _ _)
      | (with_reducible exact ih3 _ _ _ _ _ _ _)
      | (with_reducible exact gangerlaw05_known.mono _)
      | (with_reducible exact profile_Fit.mono _ _ _ _ _)
      | (with_reducible exact profile_Least.mono _ _ _ _)
      | (with_reducible exact LeO.refl _)
      | (with_reducible exact LeO.none _)
      | (with_reducible refine LeO.ite ?_ ?_)
      | (with_reducible refine LeO.bind ?_ (fun _ => ?_))
      | exact ih0 _ _ _ _ _ _ _ _
      | exact ih1 _ _ _ _ _ _ _ _
      | exact ih2 _ _ _ _ _ _ _ _
      | exact ih3 _ _ _ _ _ _ _
      | exact gangerlaw05_known.mono _
      | exact profile_Fit.mono _ _ _ _ _
      | exact profile_Least.mono _ _ _ _
      | exact LeO.none _
      | refine LeO.ite ?_ ?_
      | refine LeO.bind ?_ (fun _ => ?_)
    · intro y0 y1 y2 y3 y4 y5 y6 y7
      unfold gangerlaw05_ProfileLeast.l0
      repeat' first
      | (with_reducible exact ih0 _ _ _ _ _ _ _ _)
      | (with_reducible exact ih1 _ _ _ _ _ _ _ _)
      | (with_reducible exact ih2 _ _ _ _ _ _ _ _)
      | (with_reducible exact ih3 _ _ _ _ _ _ _)
      | (with_reducible exact gangerlaw05_known.mono _)
      | (with_reducible exact profile_Fit.mono _ _ _ _ _)
      | (with_reducible exact profile_Least.mono _ _ _ _)
      | (with_reducible exact LeO.refl _)
      | (with_reducible exact LeO.none _)
      | (with_reducible refine LeO.ite ?_ ?_)
      | (with_reducible refine LeO.bind ?_ (fun _ => ?_))
      | exact ih0 _ _ _ _ _ _ _ _
      | exact ih1 _ _ _ _ _ _ _ _
      | exact ih2 _ _ _ _ _ _ _ _
      | exact ih3 _ _ _ _ _ _ _
      | exact gangerlaw05_known.mono _
      | exact profile_Fit.mono _ _ _ _ _
      | exact profile_Least.mono _ _ _ _
      | exact LeO.none _
      | refine LeO.ite ?_ ?_
      | refine LeO.bind ?_ (fun _ => ?_)
    · intro y0 y1 y2 y3 y4 y5 y6
      unfold gangerlaw05_ProfileLeast.j3
      repeat' first
      | (with_reducible exact ih0 _ _ _ _ _ _ _ _)
      | (with_reducible exact ih1 _ _ _ _ _ _ _ _)
      | (with_reducible exact ih2 _ _ _ _ _ _ _ _)
      | (with_reducible exact ih3 _ _ _ _ _ _ _)
      | (with_reducible exact gangerlaw05_known.mono _)
      | (with_reducible exact profile_Fit.mono _ _ _ _ _)
      | (with_reducible exact profile_Least.mono _ _ _ _)
      | (with_reducible exact LeO.refl _)
      | (with_reducible exact LeO.none _)
      | (with_reducible refine LeO.ite ?_ ?_)
      | (with_reducible refine LeO.bind ?_ (fun _ => ?_))
      | exact ih0 _ _ _ _ _ _ _ _
      | exact ih1 _ _ _ _ _ _ _ _
      | exact ih2 _ _ _ _ _ _ _ _
      | exact ih3 _ _ _ _ _ _ _
      | exact gangerlaw05_known.mono _
      | exact profile_Fit.mono _ _ _ _ _
      | exact profile_Least.mono _ _ _ _
      | exact LeO.none _
      | refine LeO.ite ?_ ?_
      | refine LeO.bind ?_ (fun _ => ?_)
theorem gangerlaw05_ProfileLeast.mono : ∀ a0 a1 a2 a3 a4 a5 k, LeO (gangerlaw05_ProfileLeast.f k a0 a1 a2 a3 a4 a5) (gangerlaw05_ProfileLeast.f (k + 1) a0 a1 a2 a3 a4 a5) := by
  intro a0 a1 a2 a3 a4 a5 k
  obtain ⟨ih0, ih1, ih2, ih3⟩ := gangerlaw05_ProfileLeast.mono_l k
  unfold gangerlaw05_ProfileLeast.f
  repeat' first
      | (with_reducible exact ih0 _ _ _ _ _ _ _ _)
      | (with_reducible exact ih1 _ _ _ _ _ _ _ _)
      | (with_reducible exact ih2 _ _ _ _ _ _ _ _)
      | (with_reducible exact ih3 _ _ _ _ _ _ _)
      | (with_reducible exact gangerlaw05_known.mono _)
      | (with_reducible exact profile_Fit.mono _ _ _ _ _)
      | (with_reducible exact profile_Least.mono _ _ _ _)
      | (with_reducible exact LeO.refl _)
      | (with_reducible exact LeO.none _)
      | (with_reducible refine LeO.ite ?_ ?_)
      | (with_reducible refine LeO.bind ?_ (fun _ => ?_))
      | exact ih0 _ _ _ _ _ _ _ _
      | exact ih1 _ _ _ _ _ _ _ _
      | exact ih2 _ _ _ _ _ _ _ _
      | exact ih3 _ _ _ _ _ _ _
      | exact gangerlaw05_known.mono _
      | exact profile_Fit.mono _ _ _ _ _
      | exact profile_Least.mono _ _ _ _
      | exact LeO.none _
      | refine LeO.ite ?_ ?_
      | refine LeO.bind ?_ (fun _ => ?_)
set_option maxHeartbeats 8000000 in
set_option maxRecDepth 100000 in
theorem gangerlaw05_ProfileLeast.calls (k : Nat) (A0 : Option Addr) (c0 : Nat) (l0 : List (S39)) (a1 : Int) (a2 : Int) (a3 : Int) (a4 : Int) (a5 : Int) (r : Bool) (w : World) (hr0 : Kd.C k39 w A0 l0.length l0) (hc0 : l0.length ≤ c0) (h : gangerlaw05_ProfileLeast.f k l0 a1 a2 a3 a4 a5 = some r) :
    Calls Try.prog 9 #[.slice A0 l0.length c0, .int .i64 a1, .int .i64 a2, .int .i64 a3, .int .i64 a4, .int .i64 a5] w fun e w' => e = .returned (.bool r) ∧ Below w.heap.size w w' := by
  have HR0 := Aside0.mk hr0
  have HC0 := Aside0.mk hc0
  clear hr0 hc0
  have HB := Aside0.mk (Below.refl w.heap.size w)
  have H : ((gangerlaw05_many.f l0 ([] : List (S39))).bind fun t447 => (if t447 = true then ((gangerlaw05_known.f k).bind fun t448 => (some t448)) else ((profile_Fit.f k l0 a1 a2 a3).bind fun bt449 => (if bt449.2 = 0 then (if (l0.length : Int) = 0 then (gangerlaw05_ProfileLeast.j0 k l0 a1 a2 a3 a4 a5 bt449.1 true) else (gangerlaw05_ProfileLeast.j0 k l0 a1 a2 a3 a4 a5 bt449.1 (decide (a2 < 1)))) else ((gangerlaw05_known.f k).bind fun t451 => (some t451)))))) = some r := h
  clear h
  replace H := Option.bind_eq_some_iff.mp H
  obtain ⟨t447, A70, H⟩ := H
  replace H : (if t447 = true then ((gangerlaw05_known.f k).bind fun t448 => (some t448)) else ((profile_Fit.f k l0 a1 a2 a3).bind fun bt449 => (if bt449.2 = 0 then (if (l0.length : Int) = 0 then (gangerlaw05_ProfileLeast.j0 k l0 a1 a2 a3 a4 a5 bt449.1 true) else (gangerlaw05_ProfileLeast.j0 k l0 a1 a2 a3 a4 a5 bt449.1 (decide (a2 < 1)))) else ((gangerlaw05_known.f k).bind fun t451 => (some t451))))) = some r := H
  have A7 := Aside0.mk A70
  clear A70
  by_cases c8 : t447 = true
  · subst c8
    have H1 : ((gangerlaw05_known.f k).bind fun t448 => (some t448)) = some r := by rw [if_pos rfl] at H; exact H
    clear H
    have H := H1
    clear H1
    replace H := Option.bind_eq_some_iff.mp H
    obtain ⟨t448, A90, H⟩ := H
    replace H : (some t448) = some r := H
    have A9 := Aside0.mk A90
    clear A90
    obtain rfl := Option.some.inj H
    go_enter Try.func9, Try.ntmps9
    go_wp2_with (first | ((with_reducible refine gate_callee (f := 11) rfl ?_); refine goesL_ (some 23) rfl rfl Try.func11 (by kernel_rfl) rfl #[.slice A0 l0.length c0, .slice none 0 0] rfl (by (try simp only [List.map_toArray, List.map_cons, List.map_nil]); first | done | rfl | (simp only [List.length_drop, List.length_take]; rfl)) ?_; (refine (gangerlaw05_many.calls _ _ l0 _ _ ([] : List (S39)) true _ ?side1 ?side2 ?side3 ?side4 A7.out).mono ?_); (case side1 => repeat (first | exact HR0.out | (with_reducible refine Kd.C_alloc ?_ _) | (with_reducible refine Kd.C_drewN ?_ _) | (with_reducible refine Kd.C_drew ?_))); (case side2 => exact HC0.out); (case side3 => exact Kd.C_nil _ _); (case side4 => exact Nat.le_refl _); rintro e w' ⟨rfl, ⟨nd, rfl⟩⟩; refine ⟨_, rfl, ?_⟩) | ((with_reducible refine gate_callee (f := 12) rfl ?_); refine goesL_ (some 24) rfl rfl Try.func12 (by kernel_rfl) rfl #[] rfl (by (try simp only [List.map_toArray, List.map_cons, List.map_nil]); first | done | rfl | (simp only [List.length_drop, List.length_take]; rfl)) ?_; (with_reducible refine (gangerlaw05_known.calls k  t448 _ A9.out).mono ?_); rintro e w10 ⟨rfl, hb⟩; refine ⟨_, rfl, ?_⟩; have n0_ := Aside0.mk (below_step (by repeat (first | (with_reducible first | exact HB.out | apply below_alloc | apply pw_below_drewN | apply below_drew1) | exact HB.out)) hb); clear HB; have HB := n0_; clear n0_; (try clear hb); (try clear hb2); (try clear hk); (try clear hi)))
    go_ret
    exact ⟨by first | rfl | (simp [errW_none, errW_some] <;> rfl) | (simp [*, errW_none, errW_some] <;> rfl), by repeat (first | (with_reducible first | exact HB.out | apply below_alloc | apply pw_below_drewN | apply below_drew1) | exact HB.out)⟩
  · replace c8 := Bool.eq_false_iff.mpr c8
    subst c8
    have H1 : ((profile_Fit.f k l0 a1 a2 a3).bind fun bt449 => (if bt449.2 = 0 then (if (l0.length : Int) = 0 then (gangerlaw05_ProfileLeast.j0 k l0 a1 a2 a3 a4 a5 bt449.1 true) else (gangerlaw05_ProfileLeast.j0 k l0 a1 a2 a3 a4 a5 bt449.1 (decide (a2 < 1)))) else ((gangerlaw05_known.f k).bind fun t451 => (some t451)))) = some r := by rw [if_neg (show ¬ (false = true) by decide)] at H; exact H
    clear H
    have H := H1
    clear H1
    replace H := Option.bind_eq_some_iff.mp H
    obtain ⟨⟨t449, t450⟩, A110, H⟩ := H
    replace H : (if t450 = 0 then (if (l0.length : Int) = 0 then (gangerlaw05_ProfileLeast.j0 k l0 a1 a2 a3 a4 a5 t449 true) else (gangerlaw05_ProfileLeast.j0 k l0 a1 a2 a3 a4 a5 t449 (decide (a2 < 1)))) else ((gangerlaw05_known.f k).bind fun t451 => (some t451))) = some r := H
    have A11 := Aside0.mk A110
    clear A110
    by_cases c12 : t450 = 0
    · rw [if_pos c12] at H
      have c12b0 : (t450 == 0) = true := beq_iff_eq.mpr c12
      have c12b1 : (t450 != 0) = false := bne_eq_false_iff_eq.mpr c12
      clear c12
      have HC13 := Aside0.mk H
      clear H
      go_enter Try.func9, Try.ntmps9
      go_upto_region 6 with (first | ((with_reducible refine gate_callee (f := 11) rfl ?_); refine goesL_ (some 23) rfl rfl Try.func11 (by kernel_rfl) rfl #[.slice A0 l0.length c0, .slice none 0 0] rfl (by (try simp only [List.map_toArray, List.map_cons, List.map_nil]); first | done | rfl | (simp only [List.length_drop, List.length_take]; rfl)) ?_; (refine (gangerlaw05_many.calls _ _ l0 _ _ ([] : List (S39)) false _ ?side1 ?side2 ?side3 ?side4 A7.out).mono ?_); (case side1 => repeat (first | exact HR0.out | (with_reducible refine Kd.C_alloc ?_ _) | (with_reducible refine Kd.C_drewN ?_ _) | (with_reducible refine Kd.C_drew ?_))); (case side2 => exact HC0.out); (case side3 => exact Kd.C_nil _ _); (case side4 => exact Nat.le_refl _); rintro e w' ⟨rfl, ⟨nd, rfl⟩⟩; refine ⟨_, rfl, ?_⟩) | ((with_reducible refine gate_callee (f := 13) rfl ?_); refine goesL_ (some 30) rfl rfl Try.func13 (by kernel_rfl) rfl #[.slice A0 l0.length c0, .int .i64 a1, .int .i64 a2, .int .i64 a3] rfl (by (try simp only [List.map_toArray, List.map_cons, List.map_nil]); first | done | rfl | (simp only [List.length_drop, List.length_take]; rfl)) ?_; (with_reducible refine (profile_Fit.calls k _ _ l0 a1 a2 a3 t449 t450 _ ?side1 ?side2 A11.out).mono ?_); (case side1 => repeat (first | exact HR0.out | (with_reducible refine Kd.C_alloc ?_ _) | (with_reducible refine Kd.C_drewN ?_ _) | (with_reducible refine Kd.C_drew ?_))); (case side2 => exact HC0.out); rintro e w14 ⟨rfl, hb⟩; refine ⟨_, rfl, ?_⟩; have n0_ := Aside0.mk (below_step (by repeat (first | (with_reducible first | exact HB.out | apply below_alloc | apply pw_below_drewN | apply below_drew1) | exact HB.out)) hb); clear HB; have HB := n0_; clear n0_; (try clear hb); (try clear hb2); (try clear hk); (try clear hi)))
      (try simp only [Act.put, List.setIfInBounds_toArray, List.set_cons_zero, List.set_cons_succ])
      go_cut [42] (fun v42 wc => ∃ (kq : Nat) (x42_12 : Bool), v42 = .bool x42_12 ∧ Aside0 (gangerlaw05_ProfileLeast.j0 kq l0 a1 a2 a3 a4 a5 t449 x42_12 = some r) ∧ Aside0 (kq ≤ k) ∧ Aside0 (Below w.heap.size w wc))
      case first =>
        have H := HC13.out
        clear HC13
        by_cases c15 : (l0.length : Int) = 0
        · rw [if_pos c15] at H
          have c15b0 : ((l0.length : Int) == 0) = true := beq_iff_eq.mpr c15
          have c15b1 : ((l0.length : Int) != 0) = false := bne_eq_false_iff_eq.mpr c15
          clear c15
          (first | rw [c15b0] | (simp only [i64_w, i32_w]; rw [c15b0]) | skip)
          have H' := Aside0.mk H
          clear H
          go_wp2
          go_meet
          case rel => exact ⟨_, (true), (by first | rfl | (simp; done) | (simp [*]; done)), H', ⟨by first | omega | exact Nat.le_refl _⟩, ⟨by repeat (first | (with_reducible first | exact HB.out | apply below_alloc | apply pw_below_drewN | apply below_drew1) | exact HB.out)⟩⟩
        · rw [if_neg c15] at H
          have c15b0 : ((l0.length : Int) == 0) = false := beq_eq_false_iff_ne.mpr c15
          have c15b1 : ((l0.length : Int) != 0) = true := bne_iff_ne.mpr c15
          have c15b2 : ¬ (l0 = []) := fun h_ => c15 (by rw [h_]; rfl)
          (first | rw [c15b0] | (simp only [i64_w, i32_w]; rw [c15b0]) | skip)
          have H' := Aside0.mk H
          clear H
          go_wp2
          go_meet
          case rel => exact ⟨_, (decide (a2 < 1)), (by first | rfl | (simp; done) | (simp [*]; done)), H', ⟨by first | omega | exact Nat.le_refl _⟩, ⟨by repeat (first | (with_reducible first | exact HB.out | apply below_alloc | apply pw_below_drewN | apply below_drew1) | exact HB.out)⟩⟩
      case rest =>
        clear HC13
        try clear c1
        try clear p2
        try clear c8
        try clear c9
        try clear c11
        try clear c12
        try clear c12b0
        try clear c12b1
        try clear c13
        try clear c15
        try clear c15b0
        try clear c15b1
        try clear c15b2
        obtain ⟨kq, x42_12, rfl, HA, HJ12, HB⟩ := hcut
        cases kq with
        | zero => exact absurd HA.out (by simp [gangerlaw05_ProfileLeast.j0])
        | succ kj12 =>
          have H := HA.out
          clear HA
          simp only [gangerlaw05_ProfileLeast.j0] at H
          by_cases c16 : x42_12 = true
          · subst c16
            have H1 : (none) = some r := by rw [if_pos rfl] at H; exact H
            clear H
            have H := H1
            clear H1
            exact absurd H (by simp)
          · replace c16 := Bool.eq_false_iff.mpr c16
            subst c16
            have H1 : ((profile_Least.f kj12 l0 t449 a2).bind fun t452 => (if t452 < a3 then (gangerlaw05_ProfileLeast.j1 kj12 l0 a1 a2 a3 a4 a5 t449 true) else (gangerlaw05_ProfileLeast.j1 kj12 l0 a1 a2 a3 a4 a5 t449 (decide (t449 < a1))))) = some r := by rw [if_neg (show ¬ (false = true) by decide)] at H; exact H
            clear H
            have H := H1
            clear H1
            have HC17 := Aside0.mk H
            clear H
            go_upto_region 8 with (fail)
            go_cut [53] (fun v53 wc => ∃ (kq : Nat) (x53_16 : Bool), v53 = .bool x53_16 ∧ Aside0 (gangerlaw05_ProfileLeast.j1 kq l0 a1 a2 a3 a4 a5 t449 x53_16 = some r) ∧ Aside0 (kq ≤ kj12) ∧ Aside0 (Below w.heap.size w wc))
            case first =>
              have H := HC17.out
              clear HC17
              replace H := Option.bind_eq_some_iff.mp H
              obtain ⟨t452, A180, H⟩ := H
              replace H : (if t452 < a3 then (gangerlaw05_ProfileLeast.j1 kj12 l0 a1 a2 a3 a4 a5 t449 true) else (gangerlaw05_ProfileLeast.j1 kj12 l0 a1 a2 a3 a4 a5 t449 (decide (t449 < a1)))) = some r := H
              have A18 := Aside0.mk A180
              clear A180
              by_cases c19 : t452 < a3
              · rw [if_pos c19] at H
                have c19b0 : decide (t452 < a3) = true := decide_eq_true c19
                clear c19
                (first | rw [c19b0] | (simp only [i64_w, i32_w]; rw [c19b0]) | skip)
                have H' := Aside0.mk H
                clear H
                go_wp2_with (first | ((with_reducible refine gate_callee (f := 24) rfl ?_); refine goesL_ (some 46) rfl rfl Try.func24 (by kernel_rfl) rfl #[.slice A0 l0.length c0, .int .i64 t449, .int .i64 a2] rfl (by (try simp only [List.map_toArray, List.map_cons, List.map_nil]); first | done | rfl | (simp only [List.length_drop, List.length_take]; rfl)) ?_; (with_reducible refine (profile_Least.calls kj12 _ _ l0 t449 a2 t452 _ ?side1 ?side2 A18.out).mono ?_); (case side1 => repeat (first | exact (Kd.C_below HR0.out HB.out) | (with_reducible refine Kd.C_alloc ?_ _) | (with_reducible refine Kd.C_drewN ?_ _) | (with_reducible refine Kd.C_drew ?_))); (case side2 => exact HC0.out); rintro e w20 ⟨rfl, hb⟩; refine ⟨_, rfl, ?_⟩; have n0_ := Aside0.mk (below_step (by repeat (first | (with_reducible first | exact HB.out | apply below_alloc | apply pw_below_drewN | apply below_drew1) | exact HB.out)) hb); clear HB; have HB := n0_; clear n0_; (try clear hb); (try clear hb2); (try clear hk); (try clear hi)))
                go_meet
                case rel => exact ⟨_, (true), (by first | rfl | (simp; done) | (simp [*]; done)), H', ⟨by have := HJ12.out; first | omega | exact Nat.le_refl _⟩, ⟨by repeat (first | (with_reducible first | exact HB.out | apply below_alloc | apply pw_below_drewN | apply below_drew1) | exact HB.out)⟩⟩
              · rw [if_neg c19] at H
                have c19b0 : decide (t452 < a3) = false := decide_eq_false c19
                clear c19
                (first | rw [c19b0] | (simp only [i64_w, i32_w]; rw [c19b0]) | skip)
                have H' := Aside0.mk H
                clear H
                go_wp2_with (first | ((with_reducible refine gate_callee (f := 24) rfl ?_); refine goesL_ (some 46) rfl rfl Try.func24 (by kernel_rfl) rfl #[.slice A0 l0.length c0, .int .i64 t449, .int .i64 a2] rfl (by (try simp only [List.map_toArray, List.map_cons, List.map_nil]); first | done | rfl | (simp only [List.length_drop, List.length_take]; rfl)) ?_; (with_reducible refine (profile_Least.calls kj12 _ _ l0 t449 a2 t452 _ ?side1 ?side2 A18.out).mono ?_); (case side1 => repeat (first | exact (Kd.C_below HR0.out HB.out) | (with_reducible refine Kd.C_alloc ?_ _) | (with_reducible refine Kd.C_drewN ?_ _) | (with_reducible refine Kd.C_drew ?_))); (case side2 => exact HC0.out); rintro e w21 ⟨rfl, hb⟩; refine ⟨_, rfl, ?_⟩; have n0_ := Aside0.mk (below_step (by repeat (first | (with_reducible first | exact HB.out | apply below_alloc | apply pw_below_drewN | apply below_drew1) | exact HB.out)) hb); clear HB; have HB := n0_; clear n0_; (try clear hb); (try clear hb2); (try clear hk); (try clear hi)))
                go_meet
                case rel => exact ⟨_, (decide (t449 < a1)), (by first | rfl | (simp; done) | (simp [*]; done)), H', ⟨by have := HJ12.out; first | omega | exact Nat.le_refl _⟩, ⟨by repeat (first | (with_reducible first | exact HB.out | apply below_alloc | apply pw_below_drewN | apply below_drew1) | exact HB.out)⟩⟩
            case rest =>
              clear HC17
              try clear c1
              try clear c2
              try clear p2
              try clear c8
              try clear c9
              try clear c11
              try clear c12
              try clear c12b0
              try clear c12b1
              try clear c13
              try clear c15
              try clear c15b0
              try clear c15b1
              try clear c15b2
              try clear c16
              try clear c19
              try clear c19b0
              try clear p2
              obtain ⟨kq, x53_16, rfl, HA, HJ16, HB⟩ := hcut
              cases kq with
              | zero => exact absurd HA.out (by simp [gangerlaw05_ProfileLeast.j1])
              | succ kj16 =>
                have H := HA.out
                clear HA
                simp only [gangerlaw05_ProfileLeast.j1] at H
                by_cases c22 : x53_16 = true
                · subst c22
                  have H1 : (none) = some r := by rw [if_pos rfl] at H; exact H
                  clear H
                  have H := H1
                  clear H1
                  exact absurd H (by simp)
                · replace c22 := Bool.eq_false_iff.mpr c22
                  subst c22
                  have H1 : (gangerlaw05_ProfileLeast.l0 kj16 l0 a1 a2 a3 a4 a5 t449 1) = some r := by rw [if_neg (show ¬ (false = true) by decide)] at H; exact H
                  clear H
                  have H := H1
                  clear H1
                  have H' := Aside0.mk H
                  clear H
                  go_wp2
                  go_loopg [15] kj16 (fun kq v15 w' => ∃ (x15_3 : Int), v15 = .int .i64 x15_3 ∧ Aside0 (gangerlaw05_ProfileLeast.l0 kq l0 a1 a2 a3 a4 a5 t449 x15_3 = some r) ∧ Aside0 (kq ≤ kj16) ∧ Aside0 (Below w.heap.size w w'))
                  case atStart => exact ⟨(1), (by first | rfl | (simp; done) | (simp [*]; done)), H', ⟨Nat.le_refl _⟩, ⟨by repeat (first | (with_reducible first | exact HB.out | apply below_alloc | apply pw_below_drewN | apply below_drew1) | exact HB.out)⟩⟩
                  case round =>
                    clear H'
                    try clear c1
                    try clear c2
                    try clear p2
                    try clear c8
                    try clear c9
                    try clear c11
                    try clear c12
                    try clear c12b0
                    try clear c12b1
                    try clear c13
                    try clear c15
                    try clear c15b0
                    try clear c15b1
                    try clear c15b2
                    try clear c16
                    try clear c19
                    try clear c19b0
                    try clear c22
                    try clear p2
                    obtain ⟨x15_3, rfl, HA, HK3, HB⟩ := hrel
                    cases gk with
                    | zero => exact absurd HA.out (by simp [gangerlaw05_ProfileLeast.l0])
                    | succ k3 =>
                      have H := HA.out
                      clear HA
                      simp only [gangerlaw05_ProfileLeast.l0] at H
                      by_cases c23 : x15_3 ≤ 3
                      · rw [if_pos c23] at H
                        have c23b0 : decide (x15_3 ≤ 3) = true := decide_eq_true c23
                        clear c23
                        by_cases c24 : (wrap64 (t449 - x15_3)) ≥ a1
                        · rw [if_pos c24] at H
                          have c24b0 : decide (a1 ≤ (wrap64 (t449 - x15_3))) = true := decide_eq_true c24
                          clear c24
                          by_cases c25 : 0 < (l0.length : Int)
                          · rw [if_pos c25] at H
                            have c25b0 : decide (0 < (l0.length : Int)) = true := decide_eq_true c25
                            have c25b1 : decide (0 < l0.length) = true := decide_eq_true (by omega)
                            clear c25
                            by_cases c26 : (wrap64 (t449 - x15_3)) ≥ ((rd_T39 l0 0).f0)
                            · rw [if_pos c26] at H
                              have c26b0 : decide (((rd_T39 l0 0).f0) ≤ (wrap64 (t449 - x15_3))) = true := decide_eq_true c26
                              clear c26
                              replace H := Option.bind_eq_some_iff.mp H
                              obtain ⟨t454, A270, H⟩ := H
                              replace H : (if t454 ≥ a3 then (none) else (gangerlaw05_ProfileLeast.l0 k3 l0 a1 a2 a3 a4 a5 t449 (wrap64 (x15_3 + 1)))) = some r := H
                              have A27 := Aside0.mk A270
                              clear A270
                              by_cases c28 : t454 ≥ a3
                              · rw [if_pos c28] at H
                                exact absurd H (by simp)
                              · rw [if_neg c28] at H
                                have c28b0 : decide (a3 ≤ t454) = false := decide_eq_false c28
                                clear c28
                                have H' := Aside0.mk H
                                clear H
                                have p453 : 0 ≤ (0 : Int) := (by omega)
                                have q453 : 0 < (l0.length : Int) := of_decide_eq_true (by first | (with_reducible assumption) | assumption)
                                obtain ⟨ad453, e453, hx453_0, hx453_1⟩ := at_T39 HR0.out 0 p453 q453
                                cases e453
                                have qi453 : (0 < l0.length) = True := eq_true (by omega)
                                (try rw [show ((0 : Int)).toNat = 0 from rfl] at hx453_0)
                                (try rw [show 0 * 2 = 0 from rfl] at hx453_0)
                                (try rw [Addr.add_zero'] at hx453_0)
                                (try rw [show ((0 : Int)).toNat = 0 from rfl] at hx453_1)
                                (try rw [show 0 * 2 = 0 from rfl] at hx453_1)
                                (try rw [Addr.add_zero'] at hx453_1)
                                replace hx453_0 := (HB.out.cell (World.block_lt_of_cell? w _ hx453_0)).trans hx453_0
                                replace hx453_1 := (HB.out.cell (World.block_lt_of_cell? w _ hx453_1)).trans hx453_1
                                replace p453 := eq_true p453
                                replace q453 := eq_true q453
                                go_wp2_with (first | (go_at_call 24; (with_reducible refine (profile_Least.calls k3 _ _ l0 (wrap64 (t449 - x15_3)) a2 t454 _ ?side1 ?side2 A27.out).mono ?_); (case side1 => repeat (first | exact (Kd.C_below HR0.out HB.out) | (with_reducible refine Kd.C_alloc ?_ _) | (with_reducible refine Kd.C_drewN ?_ _) | (with_reducible refine Kd.C_drew ?_))); (case side2 => exact HC0.out); rintro e w29 ⟨rfl, hb⟩; have n0_ := Aside0.mk (below_step (by repeat (first | (with_reducible first | exact HB.out | apply below_alloc | apply pw_below_drewN | apply below_drew1) | exact HB.out)) hb); clear HB; have HB := n0_; clear n0_; (try clear hb); (try clear hb2); (try clear hk); (try clear hi)))
                                go_roundg k3
                                case measure => have := HJ12.out; have := HJ16.out; have := HK3.out; omega
                                case rel => exact ⟨(wrap64 (x15_3 + 1)), (by first | rfl | (simp; done) | (simp [*]; done)), H', ⟨by have := HJ12.out; have := HJ16.out; have := HK3.out; omega⟩, ⟨by repeat (first | (with_reducible first | exact HB.out | apply below_alloc | apply pw_below_drewN | apply below_drew1) | exact HB.out)⟩⟩
                            · rw [if_neg c26] at H
                              have c26b0 : decide (((rd_T39 l0 0).f0) ≤ (wrap64 (t449 - x15_3))) = false := decide_eq_false c26
                              clear c26
                              have H' := Aside0.mk H
                              clear H
                              have p453 : 0 ≤ (0 : Int) := (by omega)
                              have q453 : 0 < (l0.length : Int) := of_decide_eq_true (by first | (with_reducible assumption) | assumption)
                              obtain ⟨ad453, e453, hx453_0, hx453_1⟩ := at_T39 HR0.out 0 p453 q453
                              cases e453
                              have qi453 : (0 < l0.length) = True := eq_true (by omega)
                              (try rw [show ((0 : Int)).toNat = 0 from rfl] at hx453_0)
                              (try rw [show 0 * 2 = 0 from rfl] at hx453_0)
                              (try rw [Addr.add_zero'] at hx453_0)
                              (try rw [show ((0 : Int)).toNat = 0 from rfl] at hx453_1)
                              (try rw [show 0 * 2 = 0 from rfl] at hx453_1)
                              (try rw [Addr.add_zero'] at hx453_1)
                              replace hx453_0 := (HB.out.cell (World.block_lt_of_cell? w _ hx453_0)).trans hx453_0
                              replace hx453_1 := (HB.out.cell (World.block_lt_of_cell? w _ hx453_1)).trans hx453_1
                              replace p453 := eq_true p453
                              replace q453 := eq_true q453
                              go_wp2
                              go_roundg k3
                              case measure => have := HJ12.out; have := HJ16.out; have := HK3.out; omega
                              case rel => exact ⟨(wrap64 (x15_3 + 1)), (by first | rfl | (simp; done) | (simp [*]; done)), H', ⟨by have := HJ12.out; have := HJ16.out; have := HK3.out; omega⟩, ⟨by repeat (first | (with_reducible first | exact HB.out | apply below_alloc | apply pw_below_drewN | apply below_drew1) | exact HB.out)⟩⟩
                          · rw [if_neg c25] at H
                            exact absurd H (by simp)
                        · rw [if_neg c24] at H
                          have c24b0 : decide (a1 ≤ (wrap64 (t449 - x15_3))) = false := decide_eq_false c24
                          clear c24
                          have H' := Aside0.mk H
                          clear H
                          go_wp2
                          go_roundg k3
                          case measure => have := HJ12.out; have := HJ16.out; have := HK3.out; omega
                          case rel => exact ⟨(wrap64 (x15_3 + 1)), (by first | rfl | (simp; done) | (simp [*]; done)), H', ⟨by have := HJ12.out; have := HJ16.out; have := HK3.out; omega⟩, ⟨by repeat (first | (with_reducible first | exact HB.out | apply below_alloc | apply pw_below_drewN | apply below_drew1) | exact HB.out)⟩⟩
                      · rw [if_neg c23] at H
                        have c23b0 : decide (x15_3 ≤ 3) = false := decide_eq_false c23
                        clear c23
                        by_cases c30 : (IntKind.u64.wrap (a2)) = 0
                        · rw [if_pos c30] at H
                          exact absurd H (by simp)
                        · rw [if_neg c30] at H
                          have c30b0 : ((IntKind.u64.wrap (a2)) == 0) = false := beq_eq_false_iff_ne.mpr c30
                          have c30b1 : ((IntKind.u64.wrap (a2)) != 0) = true := bne_iff_ne.mpr c30
                          replace H := Option.bind_eq_some_iff.mp H
                          obtain ⟨⟨t455, t456⟩, A310, H⟩ := H
                          replace H : ((profile_Fit.f k3 l0 a1 a2 (mn (mx a4 0) a3)).bind fun bt457 => (if t456 = 0 then (if t455 > t449 then (gangerlaw05_ProfileLeast.j3 k3 l0 a1 a2 a3 a5 t449 true) else (if bt457.2 = 0 then (gangerlaw05_ProfileLeast.j3 k3 l0 a1 a2 a3 a5 t449 (decide (bt457.1 > t449))) else (gangerlaw05_ProfileLeast.j3 k3 l0 a1 a2 a3 a5 t449 true))) else (gangerlaw05_ProfileLeast.j3 k3 l0 a1 a2 a3 a5 t449 true))) = some r := H
                          have A31 := Aside0.mk A310
                          clear A310
                          obtain ⟨ji32, hji32⟩ : ∃ j_ : Int, (mx a4 0) = j_ := ⟨_, rfl⟩
                          replace H : ((profile_Fit.f k3 l0 a1 a2 (mn (ji32) a3)).bind fun bt457 => (if t456 = 0 then (if t455 > t449 then (gangerlaw05_ProfileLeast.j3 k3 l0 a1 a2 a3 a5 t449 true) else (if bt457.2 = 0 then (gangerlaw05_ProfileLeast.j3 k3 l0 a1 a2 a3 a5 t449 (decide (bt457.1 > t449))) else (gangerlaw05_ProfileLeast.j3 k3 l0 a1 a2 a3 a5 t449 true))) else (gangerlaw05_ProfileLeast.j3 k3 l0 a1 a2 a3 a5 t449 true))) = some r := by first | (rw [hji32] at H; exact H) | (simp only [hji32] at H ⊢; exact H)
                          (try rw [hji32] at A31)
                          have hji32_ : (if a4 < 0 then 0 else a4) = ji32 := hji32
                          obtain ⟨ji33, hji33⟩ : ∃ j_ : Int, (mn (ji32) a3) = j_ := ⟨_, rfl⟩
                          replace H : ((profile_Fit.f k3 l0 a1 a2 (ji33)).bind fun bt457 => (if t456 = 0 then (if t455 > t449 then (gangerlaw05_ProfileLeast.j3 k3 l0 a1 a2 a3 a5 t449 true) else (if bt457.2 = 0 then (gangerlaw05_ProfileLeast.j3 k3 l0 a1 a2 a3 a5 t449 (decide (bt457.1 > t449))) else (gangerlaw05_ProfileLeast.j3 k3 l0 a1 a2 a3 a5 t449 true))) else (gangerlaw05_ProfileLeast.j3 k3 l0 a1 a2 a3 a5 t449 true))) = some r := by first | (rw [hji33] at H; exact H) | (simp only [hji33] at H ⊢; exact H)
                          (try rw [hji33] at A31)
                          have hji33_ : (if a3 < (ji32) then a3 else (ji32)) = ji33 := hji33
                          replace H := Option.bind_eq_some_iff.mp H
                          obtain ⟨⟨t457, t458⟩, A340, H⟩ := H
                          replace H : (if t456 = 0 then (if t455 > t449 then (gangerlaw05_ProfileLeast.j3 k3 l0 a1 a2 a3 a5 t449 true) else (if t458 = 0 then (gangerlaw05_ProfileLeast.j3 k3 l0 a1 a2 a3 a5 t449 (decide (t457 > t449))) else (gangerlaw05_ProfileLeast.j3 k3 l0 a1 a2 a3 a5 t449 true))) else (gangerlaw05_ProfileLeast.j3 k3 l0 a1 a2 a3 a5 t449 true)) = some r := H
                          have A34 := Aside0.mk A340
                          clear A340
                          have HC35 := Aside0.mk H
                          clear H
                          go_upto_region 17 with (first | ((with_reducible refine gate_callee (f := 13) rfl ?_); refine goesL_ (some 94) rfl rfl Try.func13 (by kernel_rfl) rfl #[.slice A0 l0.length c0, .int .i64 a1, .int .i64 (wrap64 (1 + (wrap64 (Int.tmod (IntKind.u64.wrap (a4)) (IntKind.u64.wrap (a2)))))), .int .i64 a3] rfl (by (try simp only [List.map_toArray, List.map_cons, List.map_nil]); first | done | rfl | (simp only [List.length_drop, List.length_take]; rfl)) ?_; (with_reducible refine (profile_Fit.calls k3 _ _ l0 a1 (wrap64 (1 + (wrap64 (Int.tmod (IntKind.u64.wrap (a4)) (IntKind.u64.wrap (a2)))))) a3 t455 t456 _ ?side1 ?side2 A31.out).mono ?_); (case side1 => repeat (first | exact (Kd.C_below HR0.out HB.out) | (with_reducible refine Kd.C_alloc ?_ _) | (with_reducible refine Kd.C_drewN ?_ _) | (with_reducible refine Kd.C_drew ?_))); (case side2 => exact HC0.out); rintro e w36 ⟨rfl, hb⟩; refine ⟨_, rfl, ?_⟩; have n0_ := Aside0.mk (below_step (by repeat (first | (with_reducible first | exact HB.out | apply below_alloc | apply pw_below_drewN | apply below_drew1) | exact HB.out)) hb); clear HB; have HB := n0_; clear n0_; (try clear hb); (try clear hb2); (try clear hk); (try clear hi)) | ((with_reducible refine gate_callee (f := 13) rfl ?_); refine goesL_ (some 105) rfl rfl Try.func13 (by kernel_rfl) rfl #[.slice A0 l0.length c0, .int .i64 a1, .int .i64 a2, .int .i64 ji33] rfl (by (try simp only [List.map_toArray, List.map_cons, List.map_nil]); first | done | (simp only [hji33]; rfl) | rfl | (simp only [List.length_drop, List.length_take]; rfl)) ?_; (with_reducible refine (profile_Fit.calls k3 _ _ l0 a1 a2 ji33 t457 t458 _ ?side1 ?side2 A34.out).mono ?_); (case side1 => repeat (first | exact (Kd.C_below HR0.out HB.out) | (with_reducible refine Kd.C_alloc ?_ _) | (with_reducible refine Kd.C_drewN ?_ _) | (with_reducible refine Kd.C_drew ?_))); (case side2 => exact HC0.out); rintro e w37 ⟨rfl, hb⟩; refine ⟨_, rfl, ?_⟩; have n0_ := Aside0.mk (below_step (by repeat (first | (with_reducible first | exact HB.out | apply below_alloc | apply pw_below_drewN | apply below_drew1) | exact HB.out)) hb); clear HB; have HB := n0_; clear n0_; (try clear hb); (try clear hb2); (try clear hk); (try clear hi)))
                          (try simp only [Act.put, List.setIfInBounds_toArray, List.set_cons_zero, List.set_cons_succ])
                          go_cut [123] (fun v123 wc => ∃ (kq : Nat) (x123_34 : Bool), v123 = .bool x123_34 ∧ Aside0 (gangerlaw05_ProfileLeast.j3 kq l0 a1 a2 a3 a5 t449 x123_34 = some r) ∧ Aside0 (kq ≤ k3) ∧ Aside0 (Below w.heap.size w wc))
                          case first =>
                            have H := HC35.out
                            clear HC35
                            by_cases c38 : t456 = 0
                            · rw [if_pos c38] at H
                              have c38b0 : (t456 == 0) = true := beq_iff_eq.mpr c38
                              have c38b1 : (t456 != 0) = false := bne_eq_false_iff_eq.mpr c38
                              clear c38
                              (first | rw [c38b0] | (simp only [i64_w, i32_w]; rw [c38b0]) | skip)
                              by_cases c39 : t455 > t449
                              · rw [if_pos c39] at H
                                have c39b0 : decide (t449 < t455) = true := decide_eq_true c39
                                clear c39
                                have H' := Aside0.mk H
                                clear H
                                go_wp2
                                go_meet
                                case rel => exact ⟨_, (true), (by first | rfl | (simp; done) | (simp [*]; done)), H', ⟨by have := HJ12.out; have := HJ16.out; have := HK3.out; first | omega | exact Nat.le_refl _⟩, ⟨by repeat (first | (with_reducible first | exact HB.out | apply below_alloc | apply pw_below_drewN | apply below_drew1) | exact HB.out)⟩⟩
                              · rw [if_neg c39] at H
                                have c39b0 : decide (t449 < t455) = false := decide_eq_false c39
                                clear c39
                                by_cases c40 : t458 = 0
                                · rw [if_pos c40] at H
                                  have c40b0 : (t458 == 0) = true := beq_iff_eq.mpr c40
                                  have c40b1 : (t458 != 0) = false := bne_eq_false_iff_eq.mpr c40
                                  clear c40
                                  have H' := Aside0.mk H
                                  clear H
                                  go_wp2
                                  go_meet
                                  case rel => exact ⟨_, (decide (t457 > t449)), (by first | rfl | (simp; done) | (simp [*]; done)), H', ⟨by have := HJ12.out; have := HJ16.out; have := HK3.out; first | omega | exact Nat.le_refl _⟩, ⟨by repeat (first | (with_reducible first | exact HB.out | apply below_alloc | apply pw_below_drewN | apply below_drew1) | exact HB.out)⟩⟩
                                · rw [if_neg c40] at H
                                  have c40b0 : (t458 == 0) = false := beq_eq_false_iff_ne.mpr c40
                                  have c40b1 : (t458 != 0) = true := bne_iff_ne.mpr c40
                                  have H' := Aside0.mk H
                                  clear H
                                  go_wp2
                                  go_meet
                                  case rel => exact ⟨_, (true), (by first | rfl | (simp; done) | (simp [*]; done)), H', ⟨by have := HJ12.out; have := HJ16.out; have := HK3.out; first | omega | exact Nat.le_refl _⟩, ⟨by repeat (first | (with_reducible first | exact HB.out | apply below_alloc | apply pw_below_drewN | apply below_drew1) | exact HB.out)⟩⟩
                            · rw [if_neg c38] at H
                              have c38b0 : (t456 == 0) = false := beq_eq_false_iff_ne.mpr c38
                              have c38b1 : (t456 != 0) = true := bne_iff_ne.mpr c38
                              (first | rw [c38b0] | (simp only [i64_w, i32_w]; rw [c38b0]) | skip)
                              have H' := Aside0.mk H
                              clear H
                              go_wp2
                              go_meet
                              case rel => exact ⟨_, (true), (by first | rfl | (simp; done) | (simp [*]; done)), H', ⟨by have := HJ12.out; have := HJ16.out; have := HK3.out; first | omega | exact Nat.le_refl _⟩, ⟨by repeat (first | (with_reducible first | exact HB.out | apply below_alloc | apply pw_below_drewN | apply below_drew1) | exact HB.out)⟩⟩
                          case rest =>
                            clear HC35
                            try clear c1
                            try clear c2
                            try clear p2
                            try clear c3
                            try clear c4
                            try clear p4
                            try clear q4
                            try clear hx4
                            try clear qi4
                            try clear p6
                            try clear c8
                            try clear c9
                            try clear c11
                            try clear c12
                            try clear c12b0
                            try clear c12b1
                            try clear c13
                            try clear c15
                            try clear c15b0
                            try clear c15b1
                            try clear c15b2
                            try clear c16
                            try clear c19
                            try clear c19b0
                            try clear c22
                            try clear c23
                            try clear c23b0
                            try clear c24
                            try clear c24b0
                            try clear c25
                            try clear c25b0
                            try clear c25b1
                            try clear c26
                            try clear c26b0
                            try clear c28
                            try clear c28b0
                            try clear c30
                            try clear c30b0
                            try clear c30b1
                            try clear c38
                            try clear c38b0
                            try clear c38b1
                            try clear c39
                            try clear c39b0
                            try clear c40
                            try clear c40b0
                            try clear c40b1
                            try clear hx453_0
                            try clear hx453_1
                            try clear p2
                            try clear p453
                            try clear q453
                            obtain ⟨kq, x123_34, rfl, HA, HJ34, HB⟩ := hcut
                            cases kq with
                            | zero => exact absurd HA.out (by simp [gangerlaw05_ProfileLeast.j3])
                            | succ kj34 =>
                              have H := HA.out
                              clear HA
                              simp only [gangerlaw05_ProfileLeast.j3] at H
                              by_cases c41 : x123_34 = true
                              · subst c41
                                have H1 : (none) = some r := by rw [if_pos rfl] at H; exact H
                                clear H
                                have H := H1
                                clear H1
                                exact absurd H (by simp)
                              · replace c41 := Bool.eq_false_iff.mpr c41
                                subst c41
                                have H1 : ((profile_Fit.f kj34 l0 a5 a2 a3).bind fun bt459 => (if bt459.2 = 0 then (if a5 ≥ a1 then (if bt459.1 < t449 then (none) else (if a5 ≤ a1 then (if a5 ≥ 0 then (if bt459.1 > t449 then (none) else ((gangerlaw05_known.f kj34).bind fun t461 => (some t461))) else ((gangerlaw05_known.f kj34).bind fun t462 => (some t462))) else ((gangerlaw05_known.f kj34).bind fun t463 => (some t463)))) else (if a5 ≤ a1 then (if a5 ≥ 0 then (if bt459.1 > t449 then (none) else ((gangerlaw05_known.f kj34).bind fun t464 => (some t464))) else ((gangerlaw05_known.f kj34).bind fun t465 => (some t465))) else ((gangerlaw05_known.f kj34).bind fun t466 => (some t466)))) else ((gangerlaw05_known.f kj34).bind fun t467 => (some t467)))) = some r := by rw [if_neg (show ¬ (false = true) by decide)] at H; exact H
                                clear H
                                have H := H1
                                clear H1
                                replace H := Option.bind_eq_some_iff.mp H
                                obtain ⟨⟨t459, t460⟩, A420, H⟩ := H
                                replace H : (if t460 = 0 then (if a5 ≥ a1 then (if t459 < t449 then (none) else (if a5 ≤ a1 then (if a5 ≥ 0 then (if t459 > t449 then (none) else ((gangerlaw05_known.f kj34).bind fun t461 => (some t461))) else ((gangerlaw05_known.f kj34).bind fun t462 => (some t462))) else ((gangerlaw05_known.f kj34).bind fun t463 => (some t463)))) else (if a5 ≤ a1 then (if a5 ≥ 0 then (if t459 > t449 then (none) else ((gangerlaw05_known.f kj34).bind fun t464 => (some t464))) else ((gangerlaw05_known.f kj34).bind fun t465 => (some t465))) else ((gangerlaw05_known.f kj34).bind fun t466 => (some t466)))) else ((gangerlaw05_known.f kj34).bind fun t467 => (some t467))) = some r := H
                                have A42 := Aside0.mk A420
                                clear A420
                                by_cases c43 : t460 = 0
                                · rw [if_pos c43] at H
                                  have c43b0 : (t460 == 0) = true := beq_iff_eq.mpr c43
                                  have c43b1 : (t460 != 0) = false := bne_eq_false_iff_eq.mpr c43
                                  clear c43
                                  by_cases c44 : a5 ≥ a1
                                  · rw [if_pos c44] at H
                                    have c44b0 : decide (a1 ≤ a5) = true := decide_eq_true c44
                                    clear c44
                                    by_cases c45 : t459 < t449
                                    · rw [if_pos c45] at H
                                      exact absurd H (by simp)
                                    · rw [if_neg c45] at H
                                      have c45b0 : decide (t459 < t449) = false := decide_eq_false c45
                                      clear c45
                                      by_cases c46 : a5 ≤ a1
                                      · rw [if_pos c46] at H
                                        have c46b0 : decide (a5 ≤ a1) = true := decide_eq_true c46
                                        clear c46
                                        by_cases c47 : a5 ≥ 0
                                        · rw [if_pos c47] at H
                                          have c47b0 : decide (0 ≤ a5) = true := decide_eq_true c47
                                          clear c47
                                          by_cases c48 : t459 > t449
                                          · rw [if_pos c48] at H
                                            exact absurd H (by simp)
                                          · rw [if_neg c48] at H
                                            have c48b0 : decide (t449 < t459) = false := decide_eq_false c48
                                            clear c48
                                            replace H := Option.bind_eq_some_iff.mp H
                                            obtain ⟨t461, A490, H⟩ := H
                                            replace H : (some t461) = some r := H
                                            have A49 := Aside0.mk A490
                                            clear A490
                                            obtain rfl := Option.some.inj H
                                            go_wp2_with (first | ((with_reducible refine gate_callee (f := 13) rfl ?_); refine goesL_ (some 129) rfl rfl Try.func13 (by kernel_rfl) rfl #[.slice A0 l0.length c0, .int .i64 a5, .int .i64 a2, .int .i64 a3] rfl (by (try simp only [List.map_toArray, List.map_cons, List.map_nil]); first | done | rfl | (simp only [List.length_drop, List.length_take]; rfl)) ?_; (with_reducible refine (profile_Fit.calls kj34 _ _ l0 a5 a2 a3 t459 t460 _ ?side1 ?side2 A42.out).mono ?_); (case side1 => repeat (first | exact (Kd.C_below HR0.out HB.out) | (with_reducible refine Kd.C_alloc ?_ _) | (with_reducible refine Kd.C_drewN ?_ _) | (with_reducible refine Kd.C_drew ?_))); (case side2 => exact HC0.out); rintro e w50 ⟨rfl, hb⟩; refine ⟨_, rfl, ?_⟩; have n0_ := Aside0.mk (below_step (by repeat (first | (with_reducible first | exact HB.out | apply below_alloc | apply pw_below_drewN | apply below_drew1) | exact HB.out)) hb); clear HB; have HB := n0_; clear n0_; (try clear hb); (try clear hb2); (try clear hk); (try clear hi)) | ((with_reducible refine gate_callee (f := 12) rfl ?_); refine goesL_ (some 158) rfl rfl Try.func12 (by kernel_rfl) rfl #[] rfl (by (try simp only [List.map_toArray, List.map_cons, List.map_nil]); first | done | rfl | (simp only [List.length_drop, List.length_take]; rfl)) ?_; (with_reducible refine (gangerlaw05_known.calls kj34  t461 _ A49.out).mono ?_); rintro e w51 ⟨rfl, hb⟩; refine ⟨_, rfl, ?_⟩; have n0_ := Aside0.mk (below_step (by repeat (first | (with_reducible first | exact HB.out | apply below_alloc | apply pw_below_drewN | apply below_drew1) | exact HB.out)) hb); clear HB; have HB := n0_; clear n0_; (try clear hb); (try clear hb2); (try clear hk); (try clear hi)))
                                            go_ret
                                            exact ⟨by first | rfl | (simp [errW_none, errW_some] <;> rfl) | (simp only [← hji32, ← hji33]; first | rfl | (simp [errW_none, errW_some] <;> rfl)) | (simp [*, errW_none, errW_some] <;> rfl), by repeat (first | (with_reducible first | exact HB.out | apply below_alloc | apply pw_below_drewN | apply below_drew1) | exact HB.out)⟩
                                        · rw [if_neg c47] at H
                                          have c47b0 : decide (0 ≤ a5) = false := decide_eq_false c47
                                          clear c47
                                          replace H := Option.bind_eq_some_iff.mp H
                                          obtain ⟨t462, A520, H⟩ := H
                                          replace H : (some t462) = some r := H
                                          have A52 := Aside0.mk A520
                                          clear A520
                                          obtain rfl := Option.some.inj H
                                          go_wp2_with (first | ((with_reducible refine gate_callee (f := 13) rfl ?_); refine goesL_ (some 129) rfl rfl Try.func13 (by kernel_rfl) rfl #[.slice A0 l0.length c0, .int .i64 a5, .int .i64 a2, .int .i64 a3] rfl (by (try simp only [List.map_toArray, List.map_cons, List.map_nil]); first | done | rfl | (simp only [List.length_drop, List.length_take]; rfl)) ?_; (with_reducible refine (profile_Fit.calls kj34 _ _ l0 a5 a2 a3 t459 t460 _ ?side1 ?side2 A42.out).mono ?_); (case side1 => repeat (first | exact (Kd.C_below HR0.out HB.out) | (with_reducible refine Kd.C_alloc ?_ _) | (with_reducible refine Kd.C_drewN ?_ _) | (with_reducible refine Kd.C_drew ?_))); (case side2 => exact HC0.out); rintro e w53 ⟨rfl, hb⟩; refine ⟨_, rfl, ?_⟩; have n0_ := Aside0.mk (below_step (by repeat (first | (with_reducible first | exact HB.out | apply below_alloc | apply pw_below_drewN | apply below_drew1) | exact HB.out)) hb); clear HB; have HB := n0_; clear n0_; (try clear hb); (try clear hb2); (try clear hk); (try clear hi)) | ((with_reducible refine gate_callee (f := 12) rfl ?_); refine goesL_ (some 158) rfl rfl Try.func12 (by kernel_rfl) rfl #[] rfl (by (try simp only [List.map_toArray, List.map_cons, List.map_nil]); first | done | rfl | (simp only [List.length_drop, List.length_take]; rfl)) ?_; (with_reducible refine (gangerlaw05_known.calls kj34  t462 _ A52.out).mono ?_); rintro e w54 ⟨rfl, hb⟩; refine ⟨_, rfl, ?_⟩; have n0_ := Aside0.mk (below_step (by repeat (first | (with_reducible first | exact HB.out | apply below_alloc | apply pw_below_drewN | apply below_drew1) | exact HB.out)) hb); clear HB; have HB := n0_; clear n0_; (try clear hb); (try clear hb2); (try clear hk); (try clear hi)))
                                          go_ret
                                          exact ⟨by first | rfl | (simp [errW_none, errW_some] <;> rfl) | (simp only [← hji32, ← hji33]; first | rfl | (simp [errW_none, errW_some] <;> rfl)) | (simp [*, errW_none, errW_some] <;> rfl), by repeat (first | (with_reducible first | exact HB.out | apply below_alloc | apply pw_below_drewN | apply below_drew1) | exact HB.out)⟩
                                      · rw [if_neg c46] at H
                                        have c46b0 : decide (a5 ≤ a1) = false := decide_eq_false c46
                                        clear c46
                                        replace H := Option.bind_eq_some_iff.mp H
                                        obtain ⟨t463, A550, H⟩ := H
                                        replace H : (some t463) = some r := H
                                        have A55 := Aside0.mk A550
                                        clear A550
                                        obtain rfl := Option.some.inj H
                                        go_wp2_with (first | ((with_reducible refine gate_callee (f := 13) rfl ?_); refine goesL_ (some 129) rfl rfl Try.func13 (by kernel_rfl) rfl #[.slice A0 l0.length c0, .int .i64 a5, .int .i64 a2, .int .i64 a3] rfl (by (try simp only [List.map_toArray, List.map_cons, List.map_nil]); first | done | rfl | (simp only [List.length_drop, List.length_take]; rfl)) ?_; (with_reducible refine (profile_Fit.calls kj34 _ _ l0 a5 a2 a3 t459 t460 _ ?side1 ?side2 A42.out).mono ?_); (case side1 => repeat (first | exact (Kd.C_below HR0.out HB.out) | (with_reducible refine Kd.C_alloc ?_ _) | (with_reducible refine Kd.C_drewN ?_ _) | (with_reducible refine Kd.C_drew ?_))); (case side2 => exact HC0.out); rintro e w56 ⟨rfl, hb⟩; refine ⟨_, rfl, ?_⟩; have n0_ := Aside0.mk (below_step (by repeat (first | (with_reducible first | exact HB.out | apply below_alloc | apply pw_below_drewN | apply below_drew1) | exact HB.out)) hb); clear HB; have HB := n0_; clear n0_; (try clear hb); (try clear hb2); (try clear hk); (try clear hi)) | ((with_reducible refine gate_callee (f := 12) rfl ?_); refine goesL_ (some 158) rfl rfl Try.func12 (by kernel_rfl) rfl #[] rfl (by (try simp only [List.map_toArray, List.map_cons, List.map_nil]); first | done | rfl | (simp only [List.length_drop, List.length_take]; rfl)) ?_; (with_reducible refine (gangerlaw05_known.calls kj34  t463 _ A55.out).mono ?_); rintro e w57 ⟨rfl, hb⟩; refine ⟨_, rfl, ?_⟩; have n0_ := Aside0.mk (below_step (by repeat (first | (with_reducible first | exact HB.out | apply below_alloc | apply pw_below_drewN | apply below_drew1) | exact HB.out)) hb); clear HB; have HB := n0_; clear n0_; (try clear hb); (try clear hb2); (try clear hk); (try clear hi)))
                                        go_ret
                                        exact ⟨by first | rfl | (simp [errW_none, errW_some] <;> rfl) | (simp only [← hji32, ← hji33]; first | rfl | (simp [errW_none, errW_some] <;> rfl)) | (simp [*, errW_none, errW_some] <;> rfl), by repeat (first | (with_reducible first | exact HB.out | apply below_alloc | apply pw_below_drewN | apply below_drew1) | exact HB.out)⟩
                                  · rw [if_neg c44] at H
                                    have c44b0 : decide (a1 ≤ a5) = false := decide_eq_false c44
                                    clear c44
                                    by_cases c58 : a5 ≤ a1
                                    · rw [if_pos c58] at H
                                      have c58b0 : decide (a5 ≤ a1) = true := decide_eq_true c58
                                      clear c58
                                      by_cases c59 : a5 ≥ 0
                                      · rw [if_pos c59] at H
                                        have c59b0 : decide (0 ≤ a5) = true := decide_eq_true c59
                                        clear c59
                                        by_cases c60 : t459 > t449
                                        · rw [if_pos c60] at H
                                          exact absurd H (by simp)
                                        · rw [if_neg c60] at H
                                          have c60b0 : decide (t449 < t459) = false := decide_eq_false c60
                                          clear c60
                                          replace H := Option.bind_eq_some_iff.mp H
                                          obtain ⟨t464, A610, H⟩ := H
                                          replace H : (some t464) = some r := H
                                          have A61 := Aside0.mk A610
                                          clear A610
                                          obtain rfl := Option.some.inj H
                                          go_wp2_with (first | ((with_reducible refine gate_callee (f := 13) rfl ?_); refine goesL_ (some 129) rfl rfl Try.func13 (by kernel_rfl) rfl #[.slice A0 l0.length c0, .int .i64 a5, .int .i64 a2, .int .i64 a3] rfl (by (try simp only [List.map_toArray, List.map_cons, List.map_nil]); first | done | rfl | (simp only [List.length_drop, List.length_take]; rfl)) ?_; (with_reducible refine (profile_Fit.calls kj34 _ _ l0 a5 a2 a3 t459 t460 _ ?side1 ?side2 A42.out).mono ?_); (case side1 => repeat (first | exact (Kd.C_below HR0.out HB.out) | (with_reducible refine Kd.C_alloc ?_ _) | (with_reducible refine Kd.C_drewN ?_ _) | (with_reducible refine Kd.C_drew ?_))); (case side2 => exact HC0.out); rintro e w62 ⟨rfl, hb⟩; refine ⟨_, rfl, ?_⟩; have n0_ := Aside0.mk (below_step (by repeat (first | (with_reducible first | exact HB.out | apply below_alloc | apply pw_below_drewN | apply below_drew1) | exact HB.out)) hb); clear HB; have HB := n0_; clear n0_; (try clear hb); (try clear hb2); (try clear hk); (try clear hi)) | ((with_reducible refine gate_callee (f := 12) rfl ?_); refine goesL_ (some 158) rfl rfl Try.func12 (by kernel_rfl) rfl #[] rfl (by (try simp only [List.map_toArray, List.map_cons, List.map_nil]); first | done | rfl | (simp only [List.length_drop, List.length_take]; rfl)) ?_; (with_reducible refine (gangerlaw05_known.calls kj34  t464 _ A61.out).mono ?_); rintro e w63 ⟨rfl, hb⟩; refine ⟨_, rfl, ?_⟩; have n0_ := Aside0.mk (below_step (by repeat (first | (with_reducible first | exact HB.out | apply below_alloc | apply pw_below_drewN | apply below_drew1) | exact HB.out)) hb); clear HB; have HB := n0_; clear n0_; (try clear hb); (try clear hb2); (try clear hk); (try clear hi)))
                                          go_ret
                                          exact ⟨by first | rfl | (simp [errW_none, errW_some] <;> rfl) | (simp only [← hji32, ← hji33]; first | rfl | (simp [errW_none, errW_some] <;> rfl)) | (simp [*, errW_none, errW_some] <;> rfl), by repeat (first | (with_reducible first | exact HB.out | apply below_alloc | apply pw_below_drewN | apply below_drew1) | exact HB.out)⟩
                                      · rw [if_neg c59] at H
                                        have c59b0 : decide (0 ≤ a5) = false := decide_eq_false c59
                                        clear c59
                                        replace H := Option.bind_eq_some_iff.mp H
                                        obtain ⟨t465, A640, H⟩ := H
                                        replace H : (some t465) = some r := H
                                        have A64 := Aside0.mk A640
                                        clear A640
                                        obtain rfl := Option.some.inj H
                                        go_wp2_with (first | ((with_reducible refine gate_callee (f := 13) rfl ?_); refine goesL_ (some 129) rfl rfl Try.func13 (by kernel_rfl) rfl #[.slice A0 l0.length c0, .int .i64 a5, .int .i64 a2, .int .i64 a3] rfl (by (try simp only [List.map_toArray, List.map_cons, List.map_nil]); first | done | rfl | (simp only [List.length_drop, List.length_take]; rfl)) ?_; (with_reducible refine (profile_Fit.calls kj34 _ _ l0 a5 a2 a3 t459 t460 _ ?side1 ?side2 A42.out).mono ?_); (case side1 => repeat (first | exact (Kd.C_below HR0.out HB.out) | (with_reducible refine Kd.C_alloc ?_ _) | (with_reducible refine Kd.C_drewN ?_ _) | (with_reducible refine Kd.C_drew ?_))); (case side2 => exact HC0.out); rintro e w65 ⟨rfl, hb⟩; refine ⟨_, rfl, ?_⟩; have n0_ := Aside0.mk (below_step (by repeat (first | (with_reducible first | exact HB.out | apply below_alloc | apply pw_below_drewN | apply below_drew1) | exact HB.out)) hb); clear HB; have HB := n0_; clear n0_; (try clear hb); (try clear hb2); (try clear hk); (try clear hi)) | ((with_reducible refine gate_callee (f := 12) rfl ?_); refine goesL_ (some 158) rfl rfl Try.func12 (by kernel_rfl) rfl #[] rfl (by (try simp only [List.map_toArray, List.map_cons, List.map_nil]); first | done | rfl | (simp only [List.length_drop, List.length_take]; rfl)) ?_; (with_reducible refine (gangerlaw05_known.calls kj34  t465 _ A64.out).mono ?_); rintro e w66 ⟨rfl, hb⟩; refine ⟨_, rfl, ?_⟩; have n0_ := Aside0.mk (below_step (by repeat (first | (with_reducible first | exact HB.out | apply below_alloc | apply pw_below_drewN | apply below_drew1) | exact HB.out)) hb); clear HB; have HB := n0_; clear n0_; (try clear hb); (try clear hb2); (try clear hk); (try clear hi)))
                                        go_ret
                                        exact ⟨by first | rfl | (simp [errW_none, errW_some] <;> rfl) | (simp only [← hji32, ← hji33]; first | rfl | (simp [errW_none, errW_some] <;> rfl)) | (simp [*, errW_none, errW_some] <;> rfl), by repeat (first | (with_reducible first | exact HB.out | apply below_alloc | apply pw_below_drewN | apply below_drew1) | exact HB.out)⟩
                                    · rw [if_neg c58] at H
                                      have c58b0 : decide (a5 ≤ a1) = false := decide_eq_false c58
                                      clear c58
                                      replace H := Option.bind_eq_some_iff.mp H
                                      obtain ⟨t466, A670, H⟩ := H
                                      replace H : (some t466) = some r := H
                                      have A67 := Aside0.mk A670
                                      clear A670
                                      obtain rfl := Option.some.inj H
                                      go_wp2_with (first | ((with_reducible refine gate_callee (f := 13) rfl ?_); refine goesL_ (some 129) rfl rfl Try.func13 (by kernel_rfl) rfl #[.slice A0 l0.length c0, .int .i64 a5, .int .i64 a2, .int .i64 a3] rfl (by (try simp only [List.map_toArray, List.map_cons, List.map_nil]); first | done | rfl | (simp only [List.length_drop, List.length_take]; rfl)) ?_; (with_reducible refine (profile_Fit.calls kj34 _ _ l0 a5 a2 a3 t459 t460 _ ?side1 ?side2 A42.out).mono ?_); (case side1 => repeat (first | exact (Kd.C_below HR0.out HB.out) | (with_reducible refine Kd.C_alloc ?_ _) | (with_reducible refine Kd.C_drewN ?_ _) | (with_reducible refine Kd.C_drew ?_))); (case side2 => exact HC0.out); rintro e w68 ⟨rfl, hb⟩; refine ⟨_, rfl, ?_⟩; have n0_ := Aside0.mk (below_step (by repeat (first | (with_reducible first | exact HB.out | apply below_alloc | apply pw_below_drewN | apply below_drew1) | exact HB.out)) hb); clear HB; have HB := n0_; clear n0_; (try clear hb); (try clear hb2); (try clear hk); (try clear hi)) | ((with_reducible refine gate_callee (f := 12) rfl ?_); refine goesL_ (some 158) rfl rfl Try.func12 (by kernel_rfl) rfl #[] rfl (by (try simp only [List.map_toArray, List.map_cons, List.map_nil]); first | done | rfl | (simp only [List.length_drop, List.length_take]; rfl)) ?_; (with_reducible refine (gangerlaw05_known.calls kj34  t466 _ A67.out).mono ?_); rintro e w69 ⟨rfl, hb⟩; refine ⟨_, rfl, ?_⟩; have n0_ := Aside0.mk (below_step (by repeat (first | (with_reducible first | exact HB.out | apply below_alloc | apply pw_below_drewN | apply below_drew1) | exact HB.out)) hb); clear HB; have HB := n0_; clear n0_; (try clear hb); (try clear hb2); (try clear hk); (try clear hi)))
                                      go_ret
                                      exact ⟨by first | rfl | (simp [errW_none, errW_some] <;> rfl) | (simp only [← hji32, ← hji33]; first | rfl | (simp [errW_none, errW_some] <;> rfl)) | (simp [*, errW_none, errW_some] <;> rfl), by repeat (first | (with_reducible first | exact HB.out | apply below_alloc | apply pw_below_drewN | apply below_drew1) | exact HB.out)⟩
                                · rw [if_neg c43] at H
                                  have c43b0 : (t460 == 0) = false := beq_eq_false_iff_ne.mpr c43
                                  have c43b1 : (t460 != 0) = true := bne_iff_ne.mpr c43
                                  replace H := Option.bind_eq_some_iff.mp H
                                  obtain ⟨t467, A700, H⟩ := H
                                  replace H : (some t467) = some r := H
                                  have A70 := Aside0.mk A700
                                  clear A700
                                  obtain rfl := Option.some.inj H
                                  go_wp2_with (first | ((with_reducible refine gate_callee (f := 13) rfl ?_); refine goesL_ (some 129) rfl rfl Try.func13 (by kernel_rfl) rfl #[.slice A0 l0.length c0, .int .i64 a5, .int .i64 a2, .int .i64 a3] rfl (by (try simp only [List.map_toArray, List.map_cons, List.map_nil]); first | done | rfl | (simp only [List.length_drop, List.length_take]; rfl)) ?_; (with_reducible refine (profile_Fit.calls kj34 _ _ l0 a5 a2 a3 t459 t460 _ ?side1 ?side2 A42.out).mono ?_); (case side1 => repeat (first | exact (Kd.C_below HR0.out HB.out) | (with_reducible refine Kd.C_alloc ?_ _) | (with_reducible refine Kd.C_drewN ?_ _) | (with_reducible refine Kd.C_drew ?_))); (case side2 => exact HC0.out); rintro e w71 ⟨rfl, hb⟩; refine ⟨_, rfl, ?_⟩; have n0_ := Aside0.mk (below_step (by repeat (first | (with_reducible first | exact HB.out | apply below_alloc | apply pw_below_drewN | apply below_drew1) | exact HB.out)) hb); clear HB; have HB := n0_; clear n0_; (try clear hb); (try clear hb2); (try clear hk); (try clear hi)) | ((with_reducible refine gate_callee (f := 12) rfl ?_); refine goesL_ (some 158) rfl rfl Try.func12 (by kernel_rfl) rfl #[] rfl (by (try simp only [List.map_toArray, List.map_cons, List.map_nil]); first | done | rfl | (simp only [List.length_drop, List.length_take]; rfl)) ?_; (with_reducible refine (gangerlaw05_known.calls kj34  t467 _ A70.out).mono ?_); rintro e w72 ⟨rfl, hb⟩; refine ⟨_, rfl, ?_⟩; have n0_ := Aside0.mk (below_step (by repeat (first | (with_reducible first | exact HB.out | apply below_alloc | apply pw_below_drewN | apply below_drew1) | exact HB.out)) hb); clear HB; have HB := n0_; clear n0_; (try clear hb); (try clear hb2); (try clear hk); (try clear hi)))
                                  go_ret
                                  exact ⟨by first | rfl | (simp [errW_none, errW_some] <;> rfl) | (simp only [← hji32, ← hji33]; first | rfl | (simp [errW_none, errW_some] <;> rfl)) | (simp [*, errW_none, errW_some] <;> rfl), by repeat (first | (with_reducible first | exact HB.out | apply below_alloc | apply pw_below_drewN | apply below_drew1) | exact HB.out)⟩
    · rw [if_neg c12] at H
      have c12b0 : (t450 == 0) = false := beq_eq_false_iff_ne.mpr c12
      have c12b1 : (t450 != 0) = true := bne_iff_ne.mpr c12
      replace H := Option.bind_eq_some_iff.mp H
      obtain ⟨t451, A730, H⟩ := H
      replace H : (some t451) = some r := H
      have A73 := Aside0.mk A730
      clear A730
      obtain rfl := Option.some.inj H
      go_enter Try.func9, Try.ntmps9
      go_wp2_with (first | ((with_reducible refine gate_callee (f := 11) rfl ?_); refine goesL_ (some 23) rfl rfl Try.func11 (by kernel_rfl) rfl #[.slice A0 l0.length c0, .slice none 0 0] rfl (by (try simp only [List.map_toArray, List.map_cons, List.map_nil]); first | done | rfl | (simp only [List.length_drop, List.length_take]; rfl)) ?_; (refine (gangerlaw05_many.calls _ _ l0 _ _ ([] : List (S39)) false _ ?side1 ?side2 ?side3 ?side4 A7.out).mono ?_); (case side1 => repeat (first | exact HR0.out | (with_reducible refine Kd.C_alloc ?_ _) | (with_reducible refine Kd.C_drewN ?_ _) | (with_reducible refine Kd.C_drew ?_))); (case side2 => exact HC0.out); (case side3 => exact Kd.C_nil _ _); (case side4 => exact Nat.le_refl _); rintro e w' ⟨rfl, ⟨nd, rfl⟩⟩; refine ⟨_, rfl, ?_⟩) | ((with_reducible refine gate_callee (f := 13) rfl ?_); refine goesL_ (some 30) rfl rfl Try.func13 (by kernel_rfl) rfl #[.slice A0 l0.length c0, .int .i64 a1, .int .i64 a2, .int .i64 a3] rfl (by (try simp only [List.map_toArray, List.map_cons, List.map_nil]); first | done | rfl | (simp only [List.length_drop, List.length_take]; rfl)) ?_; (with_reducible refine (profile_Fit.calls k _ _ l0 a1 a2 a3 t449 t450 _ ?side1 ?side2 A11.out).mono ?_); (case side1 => repeat (first | exact HR0.out | (with_reducible refine Kd.C_alloc ?_ _) | (with_reducible refine Kd.C_drewN ?_ _) | (with_reducible refine Kd.C_drew ?_))); (case side2 => exact HC0.out); rintro e w74 ⟨rfl, hb⟩; refine ⟨_, rfl, ?_⟩; have n0_ := Aside0.mk (below_step (by repeat (first | (with_reducible first | exact HB.out | apply below_alloc | apply pw_below_drewN | apply below_drew1) | exact HB.out)) hb); clear HB; have HB := n0_; clear n0_; (try clear hb); (try clear hb2); (try clear hk); (try clear hi)) | ((with_reducible refine gate_callee (f := 12) rfl ?_); refine goesL_ (some 35) rfl rfl Try.func12 (by kernel_rfl) rfl #[] rfl (by (try simp only [List.map_toArray, List.map_cons, List.map_nil]); first | done | rfl | (simp only [List.length_drop, List.length_take]; rfl)) ?_; (with_reducible refine (gangerlaw05_known.calls k  t451 _ A73.out).mono ?_); rintro e w75 ⟨rfl, hb⟩; refine ⟨_, rfl, ?_⟩; have n0_ := Aside0.mk (below_step (by repeat (first | (with_reducible first | exact HB.out | apply below_alloc | apply pw_below_drewN | apply below_drew1) | exact HB.out)) hb); clear HB; have HB := n0_; clear n0_; (try clear hb); (try clear hb2); (try clear hk); (try clear hi)))
      go_ret
      exact ⟨by first | rfl | (simp [errW_none, errW_some] <;> rfl) | (simp [*, errW_none, errW_some] <;> rfl), by repeat (first | (with_reducible first | exact HB.out | apply below_alloc | apply pw_below_drewN | apply below_drew1) | exact HB.out)⟩
def gangerlaw05_ProfileLeast.Pure : Prop := ∀ (l0 : List (S39)) (a1 : Int) (a2 : Int) (a3 : Int) (a4 : Int) (a5 : Int), (l0.length ≤ maxLen ∧ ∀ x2 ∈ l0, (((Lit.int .i64 x2.f0).wf = true) ∧ ((Lit.int .i64 x2.f1).wf = true))) → ((Lit.int .i64 a1).wf = true) → ((Lit.int .i64 a2).wf = true) → ((Lit.int .i64 a3).wf = true) → ((Lit.int .i64 a4).wf = true) → ((Lit.int .i64 a5).wf = true) → ∃ k, gangerlaw05_ProfileLeast.f k l0 a1 a2 a3 a4 a5 = some true

end Go.Proofs.Ytfcmpnajokjaaaa.P
