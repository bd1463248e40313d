/- The machine's side of the laws of this seat: each function's plain form and its contract, written by a program of this session out of Lean's print of the loaded functions; no condition beyond what each statement says. -/
import Derived.Test.YtfccdngejfnmkaaDoorP0
import Derived.Test.YtfccdngejfnmkaaDoorP1
import Derived.Test.YtfccdngejfnmkaaDoorP4
import Derived.Test.YtfccdngejfnmkaaDoorP6
import Derived.Test.YtfccdngejfnmkaaDoorP7
namespace Go.Proofs.YtfccdngejfnmkaaDoor.P
open Go.RowKit Go.Proofs.YtfccdngejfnmkaaDoorW.PrintWords Go.Proofs.YtfccdngejfnmkaaDoorW.PrintLast Go.Proofs.YtfccdngejfnmkaaDoorW.PrintMore
attribute [local go_sem] max2_int min2_int max_two min_two max_three min_three max_four min_four   -- for this text's walks alone
set_option linter.unusedVariables false
set_option linter.unusedSimpArgs false

attribute [local go_sem] isSome_setCell
/-! ### gangerlaw11_ShareChildren: function 6 -/
mutual
def gangerlaw11_ShareChildren.j0 : Nat → List (S37) → List Int → List Int → Int → List Int → Bool → Option (Bool)
  | 0, _, _, _, _, _, _ => none
  | k + 1, x0, x1, x5, x6, x7, x33 => if x33 = true then (if ((x6 == 0) == (decide ((x5.length : Int) > 0))) = true then ((gangerlaw11_known.f k).bind fun t505 => (some t505)) else (none)) else (if (x5.length : Int) = (x0.length : Int) then (gangerlaw11_ShareChildren.j1 k x0 x1 x5 x7 ((x7.length : Int) != (x0.length : Int))) else (gangerlaw11_ShareChildren.j1 k x0 x1 x5 x7 true))
def gangerlaw11_ShareChildren.j1 : Nat → List (S37) → List Int → List Int → List Int → Bool → Option (Bool)
  | 0, _, _, _, _, _ => none
  | k + 1, x0, x1, x5, x7, x54 => if x54 = true then (none) else (gangerlaw11_ShareChildren.l0 k x0 x1 x5 x7 0)
def gangerlaw11_ShareChildren.l0 : Nat → List (S37) → List Int → List Int → List Int → Int → Option (Bool)
  | 0, _, _, _, _, _ => none
  | k + 1, x0, x1, x5, x7, x9 => if x9 < (x0.length : Int) then (gangerlaw11_ShareChildren.l1 k x0 x1 x5 x7 x9 0 0 0) else ((gangerlaw11_known.f k).bind fun t506 => (some t506))
def gangerlaw11_ShareChildren.l1 : Nat → List (S37) → List Int → List Int → List Int → Int → Int → Int → Int → Option (Bool)
  | 0, _, _, _, _, _, _, _, _ => none
  | k + 1, x0, x1, x5, x7, x9, x10, x11, x12 => if x12 < (x0.length : Int) then (if 0 ≤ x12 then (if 0 ≤ x9 then (if x9 < (x0.length : Int) then (if ((rd_T37 x0 x12).f1).toList = ((rd_T37 x0 x9).f0).toList then (if x12 < (x5.length : Int) then (if x12 < (x7.length : Int) then (if x9 < (x7.length : Int) then (if (rd x7 x12) > (rd x7 x9) then (none) else (gangerlaw11_ShareChildren.l1 k x0 x1 x5 x7 x9 (wrap64 (x10 + (rd x5 x12))) (wrap64 (x11 + 1)) (wrap64 (x12 + 1)))) else (none)) else (none)) else (none)) else (gangerlaw11_ShareChildren.l1 k x0 x1 x5 x7 x9 x10 x11 (wrap64 (x12 + 1)))) else (none)) else (none)) else (none)) else (if 0 ≤ x9 then (if x9 < (x5.length : Int) then (if x10 > (rd x5 x9) then (none) else (if x11 > 0 then (if (wrap64 (x10 + x11)) ≤ (rd x5 x9) then (none) else (if x9 < (x7.length : Int) then (if x9 < (x1.length : Int) then (if (rd x7 x9) < (rd x1 x9) then (none) else (if 0 < (x7.length : Int) then (if (rd x7 x9) > (rd x7 0) then (none) else (gangerlaw11_ShareChildren.l0 k x0 x1 x5 x7 (wrap64 (x9 + 1)))) else (none))) else (none)) else (none))) else (if x9 < (x7.length : Int) then (if x9 < (x1.length : Int) then (if (rd x7 x9) < (rd x1 x9) then (none) else (if 0 < (x7.length : Int) then (if (rd x7 x9) > (rd x7 0) then (none) else (gangerlaw11_ShareChildren.l0 k x0 x1 x5 x7 (wrap64 (x9 + 1)))) else (none))) else (none)) else (none)))) else (none)) else (none))
end
def gangerlaw11_ShareChildren.f (k : Nat) (l0 : List (S37)) (l1 : List Int) : Option (Bool) := (gangerlaw11_many.f k l0 l1).bind fun t495 => (if t495 = true then ((gangerlaw11_known.f k).bind fun t496 => (some t496)) else ((share_Norms.f k l0).bind fun bt497 => ((share_Sums.f k l0 l1).bind fun bt501 => (if bt497.2 = 0 then (gangerlaw11_ShareChildren.j0 k l0 l1 bt497.1 bt497.2 bt501.1 (bt501.2 != 0)) else (gangerlaw11_ShareChildren.j0 k l0 l1 bt497.1 bt497.2 bt501.1 true)))))
theorem gangerlaw11_ShareChildren.mono_l : ∀ k, (∀ y0 y1 y2 y3 y4 y5, LeO (gangerlaw11_ShareChildren.j0 k y0 y1 y2 y3 y4 y5) (gangerlaw11_ShareChildren.j0 (k + 1) y0 y1 y2 y3 y4 y5)) ∧ (∀ y0 y1 y2 y3 y4, LeO (gangerlaw11_ShareChildren.j1 k y0 y1 y2 y3 y4) (gangerlaw11_ShareChildren.j1 (k + 1) y0 y1 y2 y3 y4)) ∧ (∀ y0 y1 y2 y3 y4, LeO (gangerlaw11_ShareChildren.l0 k y0 y1 y2 y3 y4) (gangerlaw11_ShareChildren.l0 (k + 1) y0 y1 y2 y3 y4)) ∧ (∀ y0 y1 y2 y3 y4 y5 y6 y7, LeO (gangerlaw11_ShareChildren.l1 k y0 y1 y2 y3 y4 y5 y6 y7) (gangerlaw11_ShareChildren.l1 (k + 1) y0 y1 y2 y3 y4 y5 y6 y7))
  | 0 => ⟨fun _ _ _ _ _ _ r h => by simp [gangerlaw11_ShareChildren.j0] at h, fun _ _ _ _ _ r h => by simp [gangerlaw11_ShareChildren.j1] at h, fun _ _ _ _ _ r h => by simp [gangerlaw11_ShareChildren.l0] at h, fun _ _ _ _ _ _ _ _ r h => by simp [gangerlaw11_ShareChildren.l1] at h⟩
  | k + 1 => by
    obtain ⟨ih0, ih1, ih2, ih3⟩ := gangerlaw11_ShareChildren.mono_l k
    refine ⟨?_, ?_, ?_, ?_⟩
    · intro y0 y1 y2 y3 y4 y5
      unfold gangerlaw11_ShareChildren.j0
      repeat' first
      | (with_reducible exact ih0 _ _ _ _ _ _)
      | (with_reducible exact ih1 _ _ _ _ _)
      | (with_reducible exact ih2 _ _ _ _ _)
      | (with_reducible exact ih3 _ _ _ _ _ _ _ _)
      | (with_reducible exact gangerlaw11_known.mono _)
      | (with_reducible exact gangerlaw11_many.mono _ _ _)
      | (with_reducible exact share_Norms.mono _ _)
      | (with_reducible exact share_Sums.mono _ _ _)
      | (with_reducible exact LeO.refl _)
      | (with_reducible exact LeO.none _)
      | (with_reducible refine LeO.ite ?_ ?_)
      | (with_reducible refine LeO.bind ?_ (fun _ => ?_))
      | exact ih0 _ _ _ _ _ _
      | exact ih1 _ _ _ _ _
      | exact ih2 _ _ _ _ _
      | exact ih3 _ _ _ _ _ _ _ _
      | exact gangerlaw11_known.mono _
      | exact gangerlaw11_many.mono _ _ _
      | exact share_Norms.mono _ _
      | exact share_Sums.mono _ _ _
      | exact LeO.none _
      | refine LeO.ite ?_ ?_
      | refine LeO.bind ?_ (fun _ => ?_)
    · intro y0 y1 y2 y3 y4
      unfold gangerlaw11_ShareChildren.j1
      repeat' first
      | (with_reducible exact ih0 _ _ _ _ _ _)
      | (with_reducible exact ih1 _ _ _ _ _)
      | (with_reducible exact ih2 _ _ _ _ _)
      | (with_reducible exact ih3 _ _ _ _ _ _ _ _)
      | (with_reducible exact gangerlaw11_known.mono _)
      | (with_reducible exact gangerlaw11_many.mono _ _ _)
      | (with_reducible exact share_Norms.mono _ _)
      | (with_reducible exact share_Sums.mono _ _ _)
      | (with_reducible exact LeO.refl _)
      | (with_reducible exact LeO.none _)
      | (with_reducible refine LeO.ite ?_ ?_)
      | (with_reducible refine LeO.bind ?_ (fun _ => ?_))
      | exact ih0 _ _ _ _ _ _
      | exact ih1 _ _ _ _ _
      | exact ih2 _ _ _ _ _
      | exact ih3 _ _ _ _ _ _ _ _
      | exact gangerlaw11_known.mono _
      | exact gangerlaw11_many.mono _ _ _
      | exact share_Norms.mono _ _
      | exact share_Sums.mono _ _ _
      | exact LeO.none _
      | refine LeO.ite ?_ ?_
      | refine LeO.bind ?_ (fun _ => ?_)
    · intro y0 y1 y2 y3 y4
      unfold gangerlaw11_ShareChildren.l0
      repeat' first
      | (with_reducible exact ih0 _ _ _ _ _ _)
      | (with_reducible exact ih1 _ _ _ _ _)
      | (with_reducible exact ih2 _ _ _ _ _)
      | (with_reducible exact ih3 _ _ _ _ _ _ _ _)
      | (with_reducible exact gangerlaw11_known.mono _)
      | (with_reducible exact gangerlaw11_many.mono _ _ _)
      | (with_reducible exact share_Norms.mono _ _)
      | (with_reducible exact share_Sums.mono _ _ _)
      | (with_reducible exact LeO.refl _)
      | (with_reducible exact LeO.none _)
      | (with_reducible refine LeO.ite ?_ ?_)
      | (with_reducible refine LeO.bind ?_ (fun _ => ?_))
      | exact ih0 _ _ _ _ _ _
      | exact ih1 _ _ _ _ _
      | exact ih2 _ _ _ _ _
      | exact ih3 _ _ _ _ _ _ _ _
      | exact gangerlaw11_known.mono _
      | exact gangerlaw11_many.mono _ _ _
      | exact share_Norms.mono _ _
      | exact share_Sums.mono _ _ _
      | exact LeO.none _
      | refine LeO.ite ?_ ?_
      | refine LeO.bind ?_ (fun _ => ?_)
    · intro y0 y1 y2 y3 y4 y5 y6 y7
      unfold gangerlaw11_ShareChildren.l1
      repeat' first
      | (with_reducible exact ih0 _ _ _ _ _ _)
      | (with_reducible exact ih1 _ _ _ _ _)
      | (with_reducible exact ih2 _ _ _ _ _)
      | (with_reducible exact ih3 _ _ _ _ _ _ _ _)
      | (with_reducible exact gangerlaw11_known.mono _)
      | (with_reducible exact gangerlaw11_many.mono _ _ _)
      | (with_reducible exact share_Norms.mono _ _)
      | (with_reducible exact share_Sums.mono _ _ _)
      | (with_reducible exact LeO.refl _)
      | (with_reducible exact LeO.none _)
      | (with_reducible refine LeO.ite ?_ ?_)
      | (with_reducible refine LeO.bind ?_ (fun _ => ?_))
      | exact ih0 _ _ _ _ _ _
      | exact ih1 _ _ _ _ _
      | exact ih2 _ _ _ _ _
      | exact ih3 _ _ _ _ _ _ _ _
      | exact gangerlaw11_known.mono _
      | exact gangerlaw11_many.mono _ _ _
      | exact share_Norms.mono _ _
      | exact share_Sums.mono _ _ _
      | exact LeO.none _
      | refine LeO.ite ?_ ?_
      | refine LeO.bind ?_ (fun _ => ?_)
theorem gangerlaw11_ShareChildren.mono : ∀ a0 a1 k, LeO (gangerlaw11_ShareChildren.f k a0 a1) (gangerlaw11_ShareChildren.f (k + 1) a0 a1) := by
  intro a0 a1 k
  obtain ⟨ih0, ih1, ih2, ih3⟩ := gangerlaw11_ShareChildren.mono_l k
  unfold gangerlaw11_ShareChildren.f
  repeat' first
      | (with_reducible exact ih0 _ _ _ _ _ _)
      | (with_reducible exact ih1 _ _ _ _ _)
      | (with_reducible exact ih2 _ _ _ _ _)
      | (with_reducible exact ih3 _ _ _ _ _ _ _ _)
      | (with_reducible exact gangerlaw11_known.mono _)
      | (with_reducible exact gangerlaw11_many.mono _ _ _)
      | (with_reducible exact share_Norms.mono _ _)
      | (with_reducible exact share_Sums.mono _ _ _)
      | (with_reducible exact LeO.refl _)
      | (with_reducible exact LeO.none _)
      | (with_reducible refine LeO.ite ?_ ?_)
      | (with_reducible refine LeO.bind ?_ (fun _ => ?_))
      | exact ih0 _ _ _ _ _ _
      | exact ih1 _ _ _ _ _
      | exact ih2 _ _ _ _ _
      | exact ih3 _ _ _ _ _ _ _ _
      | exact gangerlaw11_known.mono _
      | exact gangerlaw11_many.mono _ _ _
      | exact share_Norms.mono _ _
      | exact share_Sums.mono _ _ _
      | exact LeO.none _
      | refine LeO.ite ?_ ?_
      | refine LeO.bind ?_ (fun _ => ?_)
set_option maxHeartbeats 8000000 in
set_option maxRecDepth 100000 in
theorem gangerlaw11_ShareChildren.calls (k : Nat) (A0 : Option Addr) (c0 : Nat) (l0 : List (S37)) (A1 : Option Addr) (c1 : Nat) (l1 : List Int) (r : Bool) (w : World) (hG : Glob w) (hr0 : Kd.C k37 w A0 l0.length l0) (hc0 : l0.length ≤ c0) (hr1 : Kd.C (Kd.int .i64) w A1 l1.length l1) (hc1 : l1.length ≤ c1) (h : gangerlaw11_ShareChildren.f k l0 l1 = some r) :
    Calls Tryd.prog 6 #[.slice A0 l0.length c0, .slice A1 l1.length c1] w fun e w' => e = .returned (.bool r) ∧ Below w.heap.size w w' := by
  have HG := Aside0.mk hG
  clear hG
  have HR0 := Aside0.mk hr0
  have HC0 := Aside0.mk hc0
  clear hr0 hc0
  have HR1 := Aside0.mk hr1
  have HC1 := Aside0.mk hc1
  clear hr1 hc1
  have HB := Aside0.mk (Below.refl w.heap.size w)
  have H : ((gangerlaw11_many.f k l0 l1).bind fun t495 => (if t495 = true then ((gangerlaw11_known.f k).bind fun t496 => (some t496)) else ((share_Norms.f k l0).bind fun bt497 => ((share_Sums.f k l0 l1).bind fun bt501 => (if bt497.2 = 0 then (gangerlaw11_ShareChildren.j0 k l0 l1 bt497.1 bt497.2 bt501.1 (bt501.2 != 0)) else (gangerlaw11_ShareChildren.j0 k l0 l1 bt497.1 bt497.2 bt501.1 true)))))) = some r := h
  clear h
  replace H := Option.bind_eq_some_iff.mp H
  obtain ⟨t495, A30, H⟩ := H
  replace H : (if t495 = true then ((gangerlaw11_known.f k).bind fun t496 => (some t496)) else ((share_Norms.f k l0).bind fun bt497 => ((share_Sums.f k l0 l1).bind fun bt501 => (if bt497.2 = 0 then (gangerlaw11_ShareChildren.j0 k l0 l1 bt497.1 bt497.2 bt501.1 (bt501.2 != 0)) else (gangerlaw11_ShareChildren.j0 k l0 l1 bt497.1 bt497.2 bt501.1 true))))) = some r := H
  have A3 := Aside0.mk A30
  clear A30
  by_cases c4 : t495 = true
  · subst c4
    have H1 : ((gangerlaw11_known.f k).bind fun t496 => (some t496)) = some r := by rw [if_pos rfl] at H; exact H
    clear H
    have H := H1
    clear H1
    replace H := Option.bind_eq_some_iff.mp H
    obtain ⟨t496, A50, H⟩ := H
    replace H : (some t496) = some r := H
    have A5 := Aside0.mk A50
    clear A50
    obtain rfl := Option.some.inj H
    go_enter Tryd.func6, Tryd.ntmps6
    go_wp2_with (first | (go_at_call 10; (with_reducible refine (gangerlaw11_many.calls k _ _ l0 _ _ l1 true _ ?side1 ?side2 ?side3 ?side4 A3.out).mono ?_); (case side1 => repeat (first | exact HR0.out | (with_reducible refine Kd.C_alloc ?_ _) | (with_reducible refine Kd.C_drewN ?_ _) | (with_reducible refine Kd.C_drew ?_))); (case side2 => exact HC0.out); (case side3 => repeat (first | exact HR1.out | (with_reducible refine Kd.C_alloc ?_ _) | (with_reducible refine Kd.C_drewN ?_ _) | (with_reducible refine Kd.C_drew ?_))); (case side4 => exact HC1.out); rintro e w' ⟨rfl, ⟨nd, rfl⟩⟩; (try first | exact ⟨rfl, _, World.drewN_drewN _ _ _⟩ | exact ⟨rfl, _, Eq.trans (World.drewN_drewN _ _ _) (congrArg (World.drewN _) (Nat.add_assoc _ _ _))⟩)) | (go_at_call 11; (with_reducible refine (gangerlaw11_known.calls k  t496 _ ?side1 A5.out).mono ?_); (case side1 => exact Glob.below HG.out (by repeat (first | (with_reducible first | exact HB.out | apply below_alloc | apply pw_below_drewN | apply below_drew1) | exact HB.out))); rintro e w6 ⟨rfl, hb⟩; have n0_ := Aside0.mk (below_step (by repeat (first | (with_reducible first | exact HB.out | apply below_alloc | apply pw_below_drewN | apply below_drew1) | exact HB.out)) hb); clear HB; have HB := n0_; clear n0_; (try clear hb); (try clear hb2); (try clear hk); (try clear hi)))
    repeat (go_quiet (first | (go_at_call 10; (with_reducible refine (gangerlaw11_many.calls k _ _ l0 _ _ l1 true _ ?side1 ?side2 ?side3 ?side4 A3.out).mono ?_); (case side1 => repeat (first | exact HR0.out | (with_reducible refine Kd.C_alloc ?_ _) | (with_reducible refine Kd.C_drewN ?_ _) | (with_reducible refine Kd.C_drew ?_))); (case side2 => exact HC0.out); (case side3 => repeat (first | exact HR1.out | (with_reducible refine Kd.C_alloc ?_ _) | (with_reducible refine Kd.C_drewN ?_ _) | (with_reducible refine Kd.C_drew ?_))); (case side4 => exact HC1.out); rintro e w' ⟨rfl, ⟨nd, rfl⟩⟩; (try first | exact ⟨rfl, _, World.drewN_drewN _ _ _⟩ | exact ⟨rfl, _, Eq.trans (World.drewN_drewN _ _ _) (congrArg (World.drewN _) (Nat.add_assoc _ _ _))⟩)) | (go_at_call 11; (with_reducible refine (gangerlaw11_known.calls k  t496 _ ?side1 A5.out).mono ?_); (case side1 => exact Glob.below HG.out (by repeat (first | (with_reducible first | exact HB.out | apply below_alloc | apply pw_below_drewN | apply below_drew1) | exact HB.out))); rintro e w6 ⟨rfl, hb⟩; have n0_ := Aside0.mk (below_step (by repeat (first | (with_reducible first | exact HB.out | apply below_alloc | apply pw_below_drewN | apply below_drew1) | exact HB.out)) hb); clear HB; have HB := n0_; clear n0_; (try clear hb); (try clear hb2); (try clear hk); (try clear hi))); try go_wp2_with (first | (go_at_call 10; (with_reducible refine (gangerlaw11_many.calls k _ _ l0 _ _ l1 true _ ?side1 ?side2 ?side3 ?side4 A3.out).mono ?_); (case side1 => repeat (first | exact HR0.out | (with_reducible refine Kd.C_alloc ?_ _) | (with_reducible refine Kd.C_drewN ?_ _) | (with_reducible refine Kd.C_drew ?_))); (case side2 => exact HC0.out); (case side3 => repeat (first | exact HR1.out | (with_reducible refine Kd.C_alloc ?_ _) | (with_reducible refine Kd.C_drewN ?_ _) | (with_reducible refine Kd.C_drew ?_))); (case side4 => exact HC1.out); rintro e w' ⟨rfl, ⟨nd, rfl⟩⟩; (try first | exact ⟨rfl, _, World.drewN_drewN _ _ _⟩ | exact ⟨rfl, _, Eq.trans (World.drewN_drewN _ _ _) (congrArg (World.drewN _) (Nat.add_assoc _ _ _))⟩)) | (go_at_call 11; (with_reducible refine (gangerlaw11_known.calls k  t496 _ ?side1 A5.out).mono ?_); (case side1 => exact Glob.below HG.out (by repeat (first | (with_reducible first | exact HB.out | apply below_alloc | apply pw_below_drewN | apply below_drew1) | exact HB.out))); rintro e w6 ⟨rfl, hb⟩; have n0_ := Aside0.mk (below_step (by repeat (first | (with_reducible first | exact HB.out | apply below_alloc | apply pw_below_drewN | apply below_drew1) | exact HB.out)) hb); clear HB; have HB := n0_; clear n0_; (try clear hb); (try clear hb2); (try clear hk); (try clear hi))))
    go_ret
    exact ⟨by first | rfl | (simp [errW_none, errW_some] <;> rfl) | (simp [*, errW_none, errW_some] <;> rfl), by repeat (first | (with_reducible first | exact HB.out | apply below_alloc | apply pw_below_drewN | apply below_drew1) | exact HB.out)⟩
  · replace c4 := Bool.eq_false_iff.mpr c4
    subst c4
    have H1 : ((share_Norms.f k l0).bind fun bt497 => ((share_Sums.f k l0 l1).bind fun bt501 => (if bt497.2 = 0 then (gangerlaw11_ShareChildren.j0 k l0 l1 bt497.1 bt497.2 bt501.1 (bt501.2 != 0)) else (gangerlaw11_ShareChildren.j0 k l0 l1 bt497.1 bt497.2 bt501.1 true)))) = some r := by rw [if_neg (show ¬ (false = true) by decide)] at H; exact H
    clear H
    have H := H1
    clear H1
    replace H := Option.bind_eq_some_iff.mp H
    obtain ⟨⟨t497, t498⟩, A70, H⟩ := H
    replace H : ((share_Sums.f k l0 l1).bind fun bt501 => (if t498 = 0 then (gangerlaw11_ShareChildren.j0 k l0 l1 t497 t498 bt501.1 (bt501.2 != 0)) else (gangerlaw11_ShareChildren.j0 k l0 l1 t497 t498 bt501.1 true))) = some r := H
    have A7 := Aside0.mk A70
    clear A70
    replace H := Option.bind_eq_some_iff.mp H
    obtain ⟨⟨t501, t502⟩, A80, H⟩ := H
    replace H : (if t498 = 0 then (gangerlaw11_ShareChildren.j0 k l0 l1 t497 t498 t501 (t502 != 0)) else (gangerlaw11_ShareChildren.j0 k l0 l1 t497 t498 t501 true)) = some r := H
    have A8 := Aside0.mk A80
    clear A80
    have HC9 := Aside0.mk H
    clear H
    go_enter Tryd.func6, Tryd.ntmps6
    go_upto_region 5 with (first | (go_at_call 10; (with_reducible refine (gangerlaw11_many.calls k _ _ l0 _ _ l1 false _ ?side1 ?side2 ?side3 ?side4 A3.out).mono ?_); (case side1 => repeat (first | exact HR0.out | (with_reducible refine Kd.C_alloc ?_ _) | (with_reducible refine Kd.C_drewN ?_ _) | (with_reducible refine Kd.C_drew ?_))); (case side2 => exact HC0.out); (case side3 => repeat (first | exact HR1.out | (with_reducible refine Kd.C_alloc ?_ _) | (with_reducible refine Kd.C_drewN ?_ _) | (with_reducible refine Kd.C_drew ?_))); (case side4 => exact HC1.out); rintro e w' ⟨rfl, ⟨nd, rfl⟩⟩; (try first | exact ⟨rfl, _, World.drewN_drewN _ _ _⟩ | exact ⟨rfl, _, Eq.trans (World.drewN_drewN _ _ _) (congrArg (World.drewN _) (Nat.add_assoc _ _ _))⟩)) | (go_at_call 16; (with_reducible refine (share_Norms.calls k _ _ l0 t497 t498 _ ?side1 ?side2 ?side3 A7.out).mono ?_); (case side1 => exact Glob.below HG.out (by repeat (first | (with_reducible first | exact HB.out | apply below_alloc | apply pw_below_drewN | apply below_drew1) | exact HB.out))); (case side2 => repeat (first | exact HR0.out | (with_reducible refine Kd.C_alloc ?_ _) | (with_reducible refine Kd.C_drewN ?_ _) | (with_reducible refine Kd.C_drew ?_))); (case side3 => exact HC0.out); rintro e w10 ⟨v499, rfl, ho0, hb⟩; have n0_ := Aside0.mk (Kd.R_lower ho0 (below_size (by repeat (first | (with_reducible first | exact HB.out | apply below_alloc | apply pw_below_drewN | apply below_drew1) | exact HB.out)))); have n1_ := Aside0.mk (below_step (by repeat (first | (with_reducible first | exact HB.out | apply below_alloc | apply pw_below_drewN | apply below_drew1) | exact HB.out)) hb); clear HB; have HO500 := n0_; have HB := n1_; clear n0_ n1_; (try clear hb); (try clear hb2); (try clear hk); (try clear hi); (try clear ho0)) | (go_at_call 13; (with_reducible refine (share_Sums.calls k _ _ l0 _ _ l1 t501 t502 _ ?side1 ?side2 ?side3 ?side4 ?side5 A8.out).mono ?_); (case side1 => exact Glob.below HG.out (by repeat (first | (with_reducible first | exact HB.out | apply below_alloc | apply pw_below_drewN | apply below_drew1) | exact HB.out))); (case side2 => repeat (first | exact (Kd.C_below HR0.out HB.out) | (with_reducible refine Kd.C_alloc ?_ _) | (with_reducible refine Kd.C_drewN ?_ _) | (with_reducible refine Kd.C_drew ?_))); (case side3 => exact HC0.out); (case side4 => repeat (first | exact (Kd.C_below HR1.out HB.out) | (with_reducible refine Kd.C_alloc ?_ _) | (with_reducible refine Kd.C_drewN ?_ _) | (with_reducible refine Kd.C_drew ?_))); (case side5 => exact HC1.out); rintro e w11 ⟨v503, rfl, ho0, hb⟩; have n0_ := Aside0.mk (Kd.R_elder' (by (with_reducible repeat (first | apply Kd.R_alloc | apply Kd.R_drewN | apply Kd.R_drew)); exact HO500.out) (Kd.R_base ho0) hb); have n1_ := Aside0.mk (Kd.R_lower (Kd.R_new' ho0 (Kd.R_lt (by (with_reducible repeat (first | apply Kd.R_alloc | apply Kd.R_drewN | apply Kd.R_drew)); exact HO500.out))) (below_size (by repeat (first | (with_reducible first | exact HB.out | apply below_alloc | apply pw_below_drewN | apply below_drew1) | exact HB.out)))); have n2_ := Aside0.mk (below_step (by repeat (first | (with_reducible first | exact HB.out | apply below_alloc | apply pw_below_drewN | apply below_drew1) | exact HB.out)) hb); clear HO500; clear HB; have HO500 := n0_; have HO504 := n1_; have HB := n2_; clear n0_ n1_ n2_; (try clear hb); (try clear hb2); (try clear hk); (try clear hi); (try clear ho0)))
    repeat (go_quiet (first | (go_at_call 10; (with_reducible refine (gangerlaw11_many.calls k _ _ l0 _ _ l1 false _ ?side1 ?side2 ?side3 ?side4 A3.out).mono ?_); (case side1 => repeat (first | exact HR0.out | (with_reducible refine Kd.C_alloc ?_ _) | (with_reducible refine Kd.C_drewN ?_ _) | (with_reducible refine Kd.C_drew ?_))); (case side2 => exact HC0.out); (case side3 => repeat (first | exact HR1.out | (with_reducible refine Kd.C_alloc ?_ _) | (with_reducible refine Kd.C_drewN ?_ _) | (with_reducible refine Kd.C_drew ?_))); (case side4 => exact HC1.out); rintro e w' ⟨rfl, ⟨nd, rfl⟩⟩; (try first | exact ⟨rfl, _, World.drewN_drewN _ _ _⟩ | exact ⟨rfl, _, Eq.trans (World.drewN_drewN _ _ _) (congrArg (World.drewN _) (Nat.add_assoc _ _ _))⟩)) | (go_at_call 16; (with_reducible refine (share_Norms.calls k _ _ l0 t497 t498 _ ?side1 ?side2 ?side3 A7.out).mono ?_); (case side1 => exact Glob.below HG.out (by repeat (first | (with_reducible first | exact HB.out | apply below_alloc | apply pw_below_drewN | apply below_drew1) | exact HB.out))); (case side2 => repeat (first | exact HR0.out | (with_reducible refine Kd.C_alloc ?_ _) | (with_reducible refine Kd.C_drewN ?_ _) | (with_reducible refine Kd.C_drew ?_))); (case side3 => exact HC0.out); rintro e w10 ⟨v499, rfl, ho0, hb⟩; have n0_ := Aside0.mk (Kd.R_lower ho0 (below_size (by repeat (first | (with_reducible first | exact HB.out | apply below_alloc | apply pw_below_drewN | apply below_drew1) | exact HB.out)))); have n1_ := Aside0.mk (below_step (by repeat (first | (with_reducible first | exact HB.out | apply below_alloc | apply pw_below_drewN | apply below_drew1) | exact HB.out)) hb); clear HB; have HO500 := n0_; have HB := n1_; clear n0_ n1_; (try clear hb); (try clear hb2); (try clear hk); (try clear hi); (try clear ho0)) | (go_at_call 13; (with_reducible refine (share_Sums.calls k _ _ l0 _ _ l1 t501 t502 _ ?side1 ?side2 ?side3 ?side4 ?side5 A8.out).mono ?_); (case side1 => exact Glob.below HG.out (by repeat (first | (with_reducible first | exact HB.out | apply below_alloc | apply pw_below_drewN | apply below_drew1) | exact HB.out))); (case side2 => repeat (first | exact (Kd.C_below HR0.out HB.out) | (with_reducible refine Kd.C_alloc ?_ _) | (with_reducible refine Kd.C_drewN ?_ _) | (with_reducible refine Kd.C_drew ?_))); (case side3 => exact HC0.out); (case side4 => repeat (first | exact (Kd.C_below HR1.out HB.out) | (with_reducible refine Kd.C_alloc ?_ _) | (with_reducible refine Kd.C_drewN ?_ _) | (with_reducible refine Kd.C_drew ?_))); (case side5 => exact HC1.out); rintro e w11 ⟨v503, rfl, ho0, hb⟩; have n0_ := Aside0.mk (Kd.R_elder' (by (with_reducible repeat (first | apply Kd.R_alloc | apply Kd.R_drewN | apply Kd.R_drew)); exact HO500.out) (Kd.R_base ho0) hb); have n1_ := Aside0.mk (Kd.R_lower (Kd.R_new' ho0 (Kd.R_lt (by (with_reducible repeat (first | apply Kd.R_alloc | apply Kd.R_drewN | apply Kd.R_drew)); exact HO500.out))) (below_size (by repeat (first | (with_reducible first | exact HB.out | apply below_alloc | apply pw_below_drewN | apply below_drew1) | exact HB.out)))); have n2_ := Aside0.mk (below_step (by repeat (first | (with_reducible first | exact HB.out | apply below_alloc | apply pw_below_drewN | apply below_drew1) | exact HB.out)) hb); clear HO500; clear HB; have HO500 := n0_; have HO504 := n1_; have HB := n2_; clear n0_ n1_ n2_; (try clear hb); (try clear hb2); (try clear hk); (try clear hi); (try clear ho0))); go_upto_region 5 with (first | (go_at_call 10; (with_reducible refine (gangerlaw11_many.calls k _ _ l0 _ _ l1 false _ ?side1 ?side2 ?side3 ?side4 A3.out).mono ?_); (case side1 => repeat (first | exact HR0.out | (with_reducible refine Kd.C_alloc ?_ _) | (with_reducible refine Kd.C_drewN ?_ _) | (with_reducible refine Kd.C_drew ?_))); (case side2 => exact HC0.out); (case side3 => repeat (first | exact HR1.out | (with_reducible refine Kd.C_alloc ?_ _) | (with_reducible refine Kd.C_drewN ?_ _) | (with_reducible refine Kd.C_drew ?_))); (case side4 => exact HC1.out); rintro e w' ⟨rfl, ⟨nd, rfl⟩⟩; (try first | exact ⟨rfl, _, World.drewN_drewN _ _ _⟩ | exact ⟨rfl, _, Eq.trans (World.drewN_drewN _ _ _) (congrArg (World.drewN _) (Nat.add_assoc _ _ _))⟩)) | (go_at_call 16; (with_reducible refine (share_Norms.calls k _ _ l0 t497 t498 _ ?side1 ?side2 ?side3 A7.out).mono ?_); (case side1 => exact Glob.below HG.out (by repeat (first | (with_reducible first | exact HB.out | apply below_alloc | apply pw_below_drewN | apply below_drew1) | exact HB.out))); (case side2 => repeat (first | exact HR0.out | (with_reducible refine Kd.C_alloc ?_ _) | (with_reducible refine Kd.C_drewN ?_ _) | (with_reducible refine Kd.C_drew ?_))); (case side3 => exact HC0.out); rintro e w10 ⟨v499, rfl, ho0, hb⟩; have n0_ := Aside0.mk (Kd.R_lower ho0 (below_size (by repeat (first | (with_reducible first | exact HB.out | apply below_alloc | apply pw_below_drewN | apply below_drew1) | exact HB.out)))); have n1_ := Aside0.mk (below_step (by repeat (first | (with_reducible first | exact HB.out | apply below_alloc | apply pw_below_drewN | apply below_drew1) | exact HB.out)) hb); clear HB; have HO500 := n0_; have HB := n1_; clear n0_ n1_; (try clear hb); (try clear hb2); (try clear hk); (try clear hi); (try clear ho0)) | (go_at_call 13; (with_reducible refine (share_Sums.calls k _ _ l0 _ _ l1 t501 t502 _ ?side1 ?side2 ?side3 ?side4 ?side5 A8.out).mono ?_); (case side1 => exact Glob.below HG.out (by repeat (first | (with_reducible first | exact HB.out | apply below_alloc | apply pw_below_drewN | apply below_drew1) | exact HB.out))); (case side2 => repeat (first | exact (Kd.C_below HR0.out HB.out) | (with_reducible refine Kd.C_alloc ?_ _) | (with_reducible refine Kd.C_drewN ?_ _) | (with_reducible refine Kd.C_drew ?_))); (case side3 => exact HC0.out); (case side4 => repeat (first | exact (Kd.C_below HR1.out HB.out) | (with_reducible refine Kd.C_alloc ?_ _) | (with_reducible refine Kd.C_drewN ?_ _) | (with_reducible refine Kd.C_drew ?_))); (case side5 => exact HC1.out); rintro e w11 ⟨v503, rfl, ho0, hb⟩; have n0_ := Aside0.mk (Kd.R_elder' (by (with_reducible repeat (first | apply Kd.R_alloc | apply Kd.R_drewN | apply Kd.R_drew)); exact HO500.out) (Kd.R_base ho0) hb); have n1_ := Aside0.mk (Kd.R_lower (Kd.R_new' ho0 (Kd.R_lt (by (with_reducible repeat (first | apply Kd.R_alloc | apply Kd.R_drewN | apply Kd.R_drew)); exact HO500.out))) (below_size (by repeat (first | (with_reducible first | exact HB.out | apply below_alloc | apply pw_below_drewN | apply below_drew1) | exact HB.out)))); have n2_ := Aside0.mk (below_step (by repeat (first | (with_reducible first | exact HB.out | apply below_alloc | apply pw_below_drewN | apply below_drew1) | exact HB.out)) hb); clear HO500; clear HB; have HO500 := n0_; have HO504 := n1_; have HB := n2_; clear n0_ n1_ n2_; (try clear hb); (try clear hb2); (try clear hk); (try clear hi); (try clear ho0))))
    (try simp only [Act.put, List.setIfInBounds_toArray, List.set_cons_zero, List.set_cons_succ])
    go_cut [33] (fun v33 wc => ∃ (kq : Nat) (x33_8 : Bool), v33 = .bool x33_8 ∧ Aside0 (gangerlaw11_ShareChildren.j0 kq l0 l1 t497 t498 t501 x33_8 = some r) ∧ Aside0 (kq ≤ k) ∧ Aside0 (Kd.R (Kd.int .i64) 3 wc w.heap.size (fun k_ => some k_ ≠ (v503 : Value).ownBlock) v499 t497) ∧ Aside0 (Kd.R (Kd.int .i64) 3 wc w.heap.size (fun k_ => some k_ ≠ (v499 : Value).ownBlock) v503 t501) ∧ Aside0 (Below w.heap.size w wc))
    case first =>
      have H := HC9.out
      clear HC9
      by_cases c12 : t498 = 0
      · rw [if_pos c12] at H
        have c12b0 : (t498 == 0) = true := beq_iff_eq.mpr c12
        have c12b1 : (t498 != 0) = false := bne_eq_false_iff_eq.mpr c12
        clear c12
        (first | rw [c12b0] | (simp only [i64_w, i32_w]; rw [c12b0]) | skip)
        have H' := Aside0.mk H
        clear H
        go_wp2
        repeat (go_quiet (fail); try go_wp2)
        go_meet
        case rel => exact ⟨_, ((t502 != 0)), (by first | rfl | (simp; done) | (simp [*]; done)), H', ⟨by first | omega | exact Nat.le_refl _⟩, ⟨by (with_reducible repeat (first | apply Kd.R_alloc | apply Kd.R_drewN | apply Kd.R_drew)); exact Kd.R_mono HO500.out (fun _ hk => hk.2)⟩, ⟨by (with_reducible repeat (first | apply Kd.R_alloc | apply Kd.R_drewN | apply Kd.R_drew)); exact Kd.R_mono HO504.out (fun _ hk => hk.2)⟩, ⟨by repeat (first | (with_reducible first | exact HB.out | apply below_alloc | apply pw_below_drewN | apply below_drew1) | exact HB.out)⟩⟩
      · rw [if_neg c12] at H
        have c12b0 : (t498 == 0) = false := beq_eq_false_iff_ne.mpr c12
        have c12b1 : (t498 != 0) = true := bne_iff_ne.mpr c12
        (first | rw [c12b0] | (simp only [i64_w, i32_w]; rw [c12b0]) | skip)
        have H' := Aside0.mk H
        clear H
        go_wp2
        repeat (go_quiet (fail); try go_wp2)
        go_meet
        case rel => exact ⟨_, (true), (by first | rfl | (simp; done) | (simp [*]; done)), H', ⟨by first | omega | exact Nat.le_refl _⟩, ⟨by (with_reducible repeat (first | apply Kd.R_alloc | apply Kd.R_drewN | apply Kd.R_drew)); exact Kd.R_mono HO500.out (fun _ hk => hk.2)⟩, ⟨by (with_reducible repeat (first | apply Kd.R_alloc | apply Kd.R_drewN | apply Kd.R_drew)); exact Kd.R_mono HO504.out (fun _ hk => hk.2)⟩, ⟨by repeat (first | (with_reducible first | exact HB.out | apply below_alloc | apply pw_below_drewN | apply below_drew1) | exact HB.out)⟩⟩
    case rest =>
      clear HC9
      try clear c1
      try clear p2
      try clear c4
      try clear c6
      try clear c12
      try clear c12b0
      try clear c12b1
      obtain ⟨kq, x33_8, rfl, HA, HJ8, HO_5, HO_7, HB⟩ := hcut
      cases kq with
      | zero => exact absurd HA.out (by simp [gangerlaw11_ShareChildren.j0])
      | succ kj8 =>
        have H := HA.out
        clear HA
        simp only [gangerlaw11_ShareChildren.j0] at H
        by_cases c13 : x33_8 = true
        · subst c13
          have H1 : (if ((t498 == 0) == (decide ((t497.length : Int) > 0))) = true then ((gangerlaw11_known.f kj8).bind fun t505 => (some t505)) else (none)) = some r := by rw [if_pos rfl] at H; exact H
          clear H
          have H := H1
          clear H1
          by_cases c14 : ((t498 == 0) == (decide ((t497.length : Int) > 0))) = true
          · rw [if_pos c14] at H
            have c14b0 : ((t498 == 0) == (decide ((t497.length : Int) > 0))) = true := c14
            (try (have c14b1 : decide ((t498 == 0) = (decide ((t497.length : Int) > 0))) = true := by simpa using c14))
            (try (have c14b2 : ((t498 == 0) == (decide ((t497.length : Int) > 0))) = true := by simpa using c14))
            (try (have c14N0 := c14b0; simp only [gt_iff_lt, Int.natCast_pos] at c14N0))
            (try (have c14N1 := c14b1; simp only [gt_iff_lt, Int.natCast_pos] at c14N1))
            (try (have c14N2 := c14b2; simp only [gt_iff_lt, Int.natCast_pos] at c14N2))
            (try (have c14N3 := c14b3; simp only [gt_iff_lt, Int.natCast_pos] at c14N3))
            clear c14
            replace H := Option.bind_eq_some_iff.mp H
            obtain ⟨t505, A150, H⟩ := H
            replace H : (some t505) = some r := H
            have A15 := Aside0.mk A150
            clear A150
            obtain rfl := Option.some.inj H
            obtain ⟨Ao16, co16, eo16⟩ := Kd.R_slice HO_5.out
            subst eo16
            go_wp2_with (first | (go_at_call 11; (with_reducible refine (gangerlaw11_known.calls kj8  t505 _ ?side1 A15.out).mono ?_); (case side1 => exact Glob.below HG.out (by repeat (first | (with_reducible first | exact HB.out | apply below_alloc | apply pw_below_drewN | apply below_drew1) | exact HB.out))); rintro e w17 ⟨rfl, hb⟩; have n0_ := Aside0.mk (Kd.R_below (by (with_reducible repeat (first | apply Kd.R_alloc | apply Kd.R_drewN | apply Kd.R_drew)); exact HO_5.out) hb); have n1_ := Aside0.mk (Kd.R_below (by (with_reducible repeat (first | apply Kd.R_alloc | apply Kd.R_drewN | apply Kd.R_drew)); exact HO_7.out) hb); have n2_ := Aside0.mk (below_step (by repeat (first | (with_reducible first | exact HB.out | apply below_alloc | apply pw_below_drewN | apply below_drew1) | exact HB.out)) hb); clear HO_5; clear HO_7; clear HB; have HO_5 := n0_; have HO_7 := n1_; have HB := n2_; clear n0_ n1_ n2_; (try clear hb); (try clear hb2); (try clear hk); (try clear hi)))
            repeat (go_quiet (first | (go_at_call 11; (with_reducible refine (gangerlaw11_known.calls kj8  t505 _ ?side1 A15.out).mono ?_); (case side1 => exact Glob.below HG.out (by repeat (first | (with_reducible first | exact HB.out | apply below_alloc | apply pw_below_drewN | apply below_drew1) | exact HB.out))); rintro e w17 ⟨rfl, hb⟩; have n0_ := Aside0.mk (Kd.R_below (by (with_reducible repeat (first | apply Kd.R_alloc | apply Kd.R_drewN | apply Kd.R_drew)); exact HO_5.out) hb); have n1_ := Aside0.mk (Kd.R_below (by (with_reducible repeat (first | apply Kd.R_alloc | apply Kd.R_drewN | apply Kd.R_drew)); exact HO_7.out) hb); have n2_ := Aside0.mk (below_step (by repeat (first | (with_reducible first | exact HB.out | apply below_alloc | apply pw_below_drewN | apply below_drew1) | exact HB.out)) hb); clear HO_5; clear HO_7; clear HB; have HO_5 := n0_; have HO_7 := n1_; have HB := n2_; clear n0_ n1_ n2_; (try clear hb); (try clear hb2); (try clear hk); (try clear hi))); try go_wp2_with (first | (go_at_call 11; (with_reducible refine (gangerlaw11_known.calls kj8  t505 _ ?side1 A15.out).mono ?_); (case side1 => exact Glob.below HG.out (by repeat (first | (with_reducible first | exact HB.out | apply below_alloc | apply pw_below_drewN | apply below_drew1) | exact HB.out))); rintro e w17 ⟨rfl, hb⟩; have n0_ := Aside0.mk (Kd.R_below (by (with_reducible repeat (first | apply Kd.R_alloc | apply Kd.R_drewN | apply Kd.R_drew)); exact HO_5.out) hb); have n1_ := Aside0.mk (Kd.R_below (by (with_reducible repeat (first | apply Kd.R_alloc | apply Kd.R_drewN | apply Kd.R_drew)); exact HO_7.out) hb); have n2_ := Aside0.mk (below_step (by repeat (first | (with_reducible first | exact HB.out | apply below_alloc | apply pw_below_drewN | apply below_drew1) | exact HB.out)) hb); clear HO_5; clear HO_7; clear HB; have HO_5 := n0_; have HO_7 := n1_; have HB := n2_; clear n0_ n1_ n2_; (try clear hb); (try clear hb2); (try clear hk); (try clear hi))))
            go_ret
            exact ⟨by first | rfl | (simp [errW_none, errW_some] <;> rfl) | (simp [*, errW_none, errW_some] <;> rfl), by repeat (first | (with_reducible first | exact HB.out | apply below_alloc | apply pw_below_drewN | apply below_drew1) | exact HB.out)⟩
          · rw [if_neg c14] at H
            exact absurd H (by simp)
        · replace c13 := Bool.eq_false_iff.mpr c13
          subst c13
          have H1 : (if (t497.length : Int) = (l0.length : Int) then (gangerlaw11_ShareChildren.j1 kj8 l0 l1 t497 t501 ((t501.length : Int) != (l0.length : Int))) else (gangerlaw11_ShareChildren.j1 kj8 l0 l1 t497 t501 true)) = some r := by rw [if_neg (show ¬ (false = true) by decide)] at H; exact H
          clear H
          have H := H1
          clear H1
          have HC18 := Aside0.mk H
          clear H
          go_upto_region 7 with (fail)
          repeat (go_quiet (fail); go_upto_region 7 with (fail))
          go_cut [54] (fun v54 wc => ∃ (kq : Nat) (x54_17 : Bool), v54 = .bool x54_17 ∧ Aside0 (gangerlaw11_ShareChildren.j1 kq l0 l1 t497 t501 x54_17 = some r) ∧ Aside0 (kq ≤ kj8) ∧ Aside0 (Kd.R (Kd.int .i64) 3 wc w.heap.size (fun k_ => some k_ ≠ (v503 : Value).ownBlock) v499 t497) ∧ Aside0 (Kd.R (Kd.int .i64) 3 wc w.heap.size (fun k_ => some k_ ≠ (v499 : Value).ownBlock) v503 t501) ∧ Aside0 (Below w.heap.size w wc))
          case first =>
            have H := HC18.out
            clear HC18
            by_cases c19 : (t497.length : Int) = (l0.length : Int)
            · rw [if_pos c19] at H
              have c19b0 : ((t497.length : Int) == (l0.length : Int)) = true := beq_iff_eq.mpr c19
              have c19b1 : ((t497.length : Int) != (l0.length : Int)) = false := bne_eq_false_iff_eq.mpr c19
              have c19b2 : (t497.length == l0.length) = true := by first | simpa using c19 | (simp at c19 ⊢; omega)
              clear c19
              (first | rw [c19b0] | (simp only [i64_w, i32_w]; rw [c19b0]) | skip)
              have H' := Aside0.mk H
              clear H
              obtain ⟨Ao20, co20, eo20⟩ := Kd.R_slice HO_5.out
              subst eo20
              obtain ⟨Ao21, co21, eo21⟩ := Kd.R_slice HO_7.out
              subst eo21
              go_wp2
              repeat (go_quiet (fail); try go_wp2)
              go_meet
              case rel => exact ⟨_, (((t501.length : Int) != (l0.length : Int))), (by first | rfl | (simp; done) | (simp [*]; done)), H', ⟨by have := HJ8.out; first | omega | exact Nat.le_refl _⟩, ⟨by (with_reducible repeat (first | apply Kd.R_alloc | apply Kd.R_drewN | apply Kd.R_drew)); exact HO_5.out⟩, ⟨by (with_reducible repeat (first | apply Kd.R_alloc | apply Kd.R_drewN | apply Kd.R_drew)); exact HO_7.out⟩, ⟨by repeat (first | (with_reducible first | exact HB.out | apply below_alloc | apply pw_below_drewN | apply below_drew1) | exact HB.out)⟩⟩
            · rw [if_neg c19] at H
              have c19b0 : ((t497.length : Int) == (l0.length : Int)) = false := beq_eq_false_iff_ne.mpr c19
              have c19b1 : ((t497.length : Int) != (l0.length : Int)) = true := bne_iff_ne.mpr c19
              have c19b2 : (t497.length == l0.length) = false := by first | simpa using c19 | (simp at c19 ⊢; omega)
              (first | rw [c19b0] | (simp only [i64_w, i32_w]; rw [c19b0]) | skip)
              have H' := Aside0.mk H
              clear H
              obtain ⟨Ao22, co22, eo22⟩ := Kd.R_slice HO_5.out
              subst eo22
              go_wp2
              repeat (go_quiet (fail); try go_wp2)
              go_meet
              case rel => exact ⟨_, (true), (by first | rfl | (simp; done) | (simp [*]; done)), H', ⟨by have := HJ8.out; first | omega | exact Nat.le_refl _⟩, ⟨by (with_reducible repeat (first | apply Kd.R_alloc | apply Kd.R_drewN | apply Kd.R_drew)); exact HO_5.out⟩, ⟨by (with_reducible repeat (first | apply Kd.R_alloc | apply Kd.R_drewN | apply Kd.R_drew)); exact HO_7.out⟩, ⟨by repeat (first | (with_reducible first | exact HB.out | apply below_alloc | apply pw_below_drewN | apply below_drew1) | exact HB.out)⟩⟩
          case rest =>
            clear HC18
            try clear c1
            try clear p2
            try clear c4
            try clear c6
            try clear c12
            try clear c12b0
            try clear c12b1
            try clear c13
            try clear c14
            try clear c14b0
            try clear c14b1
            try clear c14b2
            try clear c19
            try clear c19b0
            try clear c19b1
            try clear c19b2
            try clear p2
            obtain ⟨kq, x54_17, rfl, HA, HJ17, HO_5, HO_7, HB⟩ := hcut
            cases kq with
            | zero => exact absurd HA.out (by simp [gangerlaw11_ShareChildren.j1])
            | succ kj17 =>
              have H := HA.out
              clear HA
              simp only [gangerlaw11_ShareChildren.j1] at H
              by_cases c23 : x54_17 = true
              · subst c23
                have H1 : (none) = some r := by rw [if_pos rfl] at H; exact H
                clear H
                have H := H1
                clear H1
                exact absurd H (by simp)
              · replace c23 := Bool.eq_false_iff.mpr c23
                subst c23
                have H1 : (gangerlaw11_ShareChildren.l0 kj17 l0 l1 t497 t501 0) = some r := by rw [if_neg (show ¬ (false = true) by decide)] at H; exact H
                clear H
                have H := H1
                clear H1
                have H' := Aside0.mk H
                clear H
                go_wp2
                repeat (go_quiet (fail); try go_wp2)
                go_loopg [9] kj17 (fun kq v9 w' => ∃ (x9_3 : Int), v9 = .int .i64 x9_3 ∧ Aside0 (gangerlaw11_ShareChildren.l0 kq l0 l1 t497 t501 x9_3 = some r) ∧ Aside0 (kq ≤ kj17) ∧ Aside0 (Kd.R (Kd.int .i64) 3 w' w.heap.size (fun k_ => some k_ ≠ (v503 : Value).ownBlock) v499 t497) ∧ Aside0 (Kd.R (Kd.int .i64) 3 w' w.heap.size (fun k_ => some k_ ≠ (v499 : Value).ownBlock) v503 t501) ∧ Aside0 (Below w.heap.size w w'))
                case atStart => exact ⟨(0), (by first | rfl | (simp; done) | (simp [*]; done)), H', ⟨Nat.le_refl _⟩, ⟨by (with_reducible repeat (first | apply Kd.R_alloc | apply Kd.R_drewN | apply Kd.R_drew)); exact HO_5.out⟩, ⟨by (with_reducible repeat (first | apply Kd.R_alloc | apply Kd.R_drewN | apply Kd.R_drew)); exact HO_7.out⟩, ⟨by repeat (first | (with_reducible first | exact HB.out | apply below_alloc | apply pw_below_drewN | apply below_drew1) | exact HB.out)⟩⟩
                case round =>
                  clear H'
                  try clear c1
                  try clear c2
                  try clear p2
                  try clear c4
                  try clear c6
                  try clear c12
                  try clear c12b0
                  try clear c12b1
                  try clear c13
                  try clear c14
                  try clear c14b0
                  try clear c14b1
                  try clear c14b2
                  try clear c19
                  try clear c19b0
                  try clear c19b1
                  try clear c19b2
                  try clear c23
                  try clear p2
                  obtain ⟨x9_3, rfl, HA, HK3, HO_5, HO_7, HB⟩ := hrel
                  cases gk with
                  | zero => exact absurd HA.out (by simp [gangerlaw11_ShareChildren.l0])
                  | succ k3 =>
                    have H := HA.out
                    clear HA
                    simp only [gangerlaw11_ShareChildren.l0] at H
                    by_cases c24 : x9_3 < (l0.length : Int)
                    · rw [if_pos c24] at H
                      have c24b0 : decide (x9_3 < (l0.length : Int)) = true := decide_eq_true c24
                      clear c24
                      have H' := Aside0.mk H
                      clear H
                      go_wp2
                      repeat (go_quiet (fail); try go_wp2)
                      go_loopg [10, 11, 12] k3 (fun kq v10 v11 v12 w' => ∃ (x10_4 : Int) (x11_4 : Int) (x12_4 : Int), v10 = .int .i64 x10_4 ∧ v11 = .int .i64 x11_4 ∧ v12 = .int .i64 x12_4 ∧ Aside0 (gangerlaw11_ShareChildren.l1 kq l0 l1 t497 t501 x9_3 x10_4 x11_4 x12_4 = some r) ∧ Aside0 (kq ≤ k3) ∧ Aside0 (Kd.R (Kd.int .i64) 3 w' w.heap.size (fun k_ => some k_ ≠ (v503 : Value).ownBlock) v499 t497) ∧ Aside0 (Kd.R (Kd.int .i64) 3 w' w.heap.size (fun k_ => some k_ ≠ (v499 : Value).ownBlock) v503 t501) ∧ Aside0 (Below w.heap.size w w'))
                      case atStart => exact ⟨(0), (0), (0), (by first | rfl | (simp; done) | (simp [*]; done)), (by first | rfl | (simp; done) | (simp [*]; done)), (by first | rfl | (simp; done) | (simp [*]; done)), H', ⟨Nat.le_refl _⟩, ⟨by (with_reducible repeat (first | apply Kd.R_alloc | apply Kd.R_drewN | apply Kd.R_drew)); exact HO_5.out⟩, ⟨by (with_reducible repeat (first | apply Kd.R_alloc | apply Kd.R_drewN | apply Kd.R_drew)); exact HO_7.out⟩, ⟨by repeat (first | (with_reducible first | exact HB.out | apply below_alloc | apply pw_below_drewN | apply below_drew1) | exact HB.out)⟩⟩
                      case round =>
                        clear H'
                        try clear c1
                        try clear c2
                        try clear p2
                        try clear c4
                        try clear c6
                        try clear c12
                        try clear c12b0
                        try clear c12b1
                        try clear c13
                        try clear c14
                        try clear c14b0
                        try clear c14b1
                        try clear c14b2
                        try clear c19
                        try clear c19b0
                        try clear c19b1
                        try clear c19b2
                        try clear c23
                        try clear c24
                        try clear c24b0
                        try clear p2
                        obtain ⟨x10_4, x11_4, x12_4, rfl, rfl, rfl, HA, HK4, HO_5, HO_7, HB⟩ := hrel
                        cases gk with
                        | zero => exact absurd HA.out (by simp [gangerlaw11_ShareChildren.l1])
                        | succ k4 =>
                          have H := HA.out
                          clear HA
                          simp only [gangerlaw11_ShareChildren.l1] at H
                          by_cases c25 : x12_4 < (l0.length : Int)
                          · rw [if_pos c25] at H
                            have c25b0 : decide (x12_4 < (l0.length : Int)) = true := decide_eq_true c25
                            clear c25
                            by_cases c26 : 0 ≤ x12_4
                            · rw [if_pos c26] at H
                              have c26b0 : decide (0 ≤ x12_4) = true := decide_eq_true c26
                              clear c26
                              by_cases c27 : 0 ≤ x9_3
                              · rw [if_pos c27] at H
                                have c27b0 : decide (0 ≤ x9_3) = true := decide_eq_true c27
                                clear c27
                                by_cases c28 : x9_3 < (l0.length : Int)
                                · rw [if_pos c28] at H
                                  have c28b0 : decide (x9_3 < (l0.length : Int)) = true := decide_eq_true c28
                                  clear c28
                                  by_cases c29 : ((rd_T37 l0 x12_4).f1).toList = ((rd_T37 l0 x9_3).f0).toList
                                  · rw [if_pos c29] at H
                                    have c29b0 : (((rd_T37 l0 x12_4).f1).toList == ((rd_T37 l0 x9_3).f0).toList) = true := beq_iff_eq.mpr c29
                                    have c29b1 : (((rd_T37 l0 x12_4).f1).toList != ((rd_T37 l0 x9_3).f0).toList) = false := bne_eq_false_iff_eq.mpr c29
                                    clear c29
                                    by_cases c30 : x12_4 < (t497.length : Int)
                                    · rw [if_pos c30] at H
                                      have c30b0 : decide (x12_4 < (t497.length : Int)) = true := decide_eq_true c30
                                      clear c30
                                      by_cases c31 : x12_4 < (t501.length : Int)
                                      · rw [if_pos c31] at H
                                        have c31b0 : decide (x12_4 < (t501.length : Int)) = true := decide_eq_true c31
                                        clear c31
                                        by_cases c32 : x9_3 < (t501.length : Int)
                                        · rw [if_pos c32] at H
                                          have c32b0 : decide (x9_3 < (t501.length : Int)) = true := decide_eq_true c32
                                          clear c32
                                          by_cases c33 : (rd t501 x12_4) > (rd t501 x9_3)
                                          · rw [if_pos c33] at H
                                            exact absurd H (by simp)
                                          · rw [if_neg c33] at H
                                            have c33b0 : decide ((rd t501 x9_3) < (rd t501 x12_4)) = false := decide_eq_false c33
                                            clear c33
                                            have H' := Aside0.mk H
                                            clear H
                                            have p517 : 0 ≤ (x12_4 : Int) := of_decide_eq_true (by first | (with_reducible assumption) | assumption)
                                            have q517 : x12_4 < (l0.length : Int) := of_decide_eq_true (by first | (with_reducible assumption) | assumption)
                                            obtain ⟨ad517, e517, hx517_0, hx517_1, hx517_2⟩ := at_T37 HR0.out x12_4 p517 q517
                                            cases e517
                                            replace hx517_0 := (HB.out.cell (World.block_lt_of_cell? w _ hx517_0)).trans hx517_0
                                            replace hx517_1 := (HB.out.cell (World.block_lt_of_cell? w _ hx517_1)).trans hx517_1
                                            replace hx517_2 := (HB.out.cell (World.block_lt_of_cell? w _ hx517_2)).trans hx517_2
                                            replace p517 := eq_true p517
                                            replace q517 := eq_true q517
                                            have p518 : 0 ≤ (x9_3 : Int) := of_decide_eq_true (by first | (with_reducible assumption) | assumption)
                                            have q518 : x9_3 < (l0.length : Int) := of_decide_eq_true (by first | (with_reducible assumption) | assumption)
                                            obtain ⟨ad518, e518, hx518_0, hx518_1, hx518_2⟩ := at_T37 HR0.out x9_3 p518 q518
                                            obtain rfl : ad517 = ad518 := (by injection e518)
                                            replace hx518_0 := (HB.out.cell (World.block_lt_of_cell? w _ hx518_0)).trans hx518_0
                                            replace hx518_1 := (HB.out.cell (World.block_lt_of_cell? w _ hx518_1)).trans hx518_1
                                            replace hx518_2 := (HB.out.cell (World.block_lt_of_cell? w _ hx518_2)).trans hx518_2
                                            replace p518 := eq_true p518
                                            replace q518 := eq_true q518
                                            obtain ⟨Ao34, co34, eo34⟩ := Kd.R_slice HO_5.out
                                            subst eo34
                                            have p519 : 0 ≤ (x12_4 : Int) := of_decide_eq_true (by first | (with_reducible assumption) | assumption)
                                            have q519 : x12_4 < (t497.length : Int) := of_decide_eq_true (by first | (with_reducible assumption) | assumption)
                                            obtain ⟨ad519, e519, hx519_0⟩ := Kd.at_int (Kd.R_reads' HO_5.out).2.2 x12_4 p519 q519
                                            cases e519
                                            replace p519 := eq_true p519
                                            replace q519 := eq_true q519
                                            obtain ⟨Ao35, co35, eo35⟩ := Kd.R_slice HO_7.out
                                            subst eo35
                                            have p520 : 0 ≤ (x12_4 : Int) := of_decide_eq_true (by first | (with_reducible assumption) | assumption)
                                            have q520 : x12_4 < (t501.length : Int) := of_decide_eq_true (by first | (with_reducible assumption) | assumption)
                                            obtain ⟨ad520, e520, hx520_0⟩ := Kd.at_int (Kd.R_reads' HO_7.out).2.2 x12_4 p520 q520
                                            cases e520
                                            replace p520 := eq_true p520
                                            replace q520 := eq_true q520
                                            have p521 : 0 ≤ (x9_3 : Int) := of_decide_eq_true (by first | (with_reducible assumption) | assumption)
                                            have q521 : x9_3 < (t501.length : Int) := of_decide_eq_true (by first | (with_reducible assumption) | assumption)
                                            obtain ⟨ad521, e521, hx521_0⟩ := Kd.at_int (Kd.R_reads' HO_7.out).2.2 x9_3 p521 q521
                                            obtain rfl : ad520 = ad521 := (by injection e521)
                                            replace p521 := eq_true p521
                                            replace q521 := eq_true q521
                                            go_wp2
                                            repeat (go_quiet (fail); try go_wp2)
                                            go_roundg k4
                                            case measure => have := HJ8.out; have := HJ17.out; have := HK3.out; have := HK4.out; omega
                                            case rel => exact ⟨(wrap64 (x10_4 + (rd t497 x12_4))), (wrap64 (x11_4 + 1)), (wrap64 (x12_4 + 1)), (by first | rfl | (simp; done) | (simp [*]; done)), (by first | rfl | (simp; done) | (simp [*]; done)), (by first | rfl | (simp; done) | (simp [*]; done)), H', ⟨by have := HJ8.out; have := HJ17.out; have := HK3.out; have := HK4.out; omega⟩, ⟨by (with_reducible repeat (first | apply Kd.R_alloc | apply Kd.R_drewN | apply Kd.R_drew)); exact HO_5.out⟩, ⟨by (with_reducible repeat (first | apply Kd.R_alloc | apply Kd.R_drewN | apply Kd.R_drew)); exact HO_7.out⟩, ⟨by repeat (first | (with_reducible first | exact HB.out | apply below_alloc | apply pw_below_drewN | apply below_drew1) | exact HB.out)⟩⟩
                                        · rw [if_neg c32] at H
                                          exact absurd H (by simp)
                                      · rw [if_neg c31] at H
                                        exact absurd H (by simp)
                                    · rw [if_neg c30] at H
                                      exact absurd H (by simp)
                                  · rw [if_neg c29] at H
                                    have c29b0 : (((rd_T37 l0 x12_4).f1).toList == ((rd_T37 l0 x9_3).f0).toList) = false := beq_eq_false_iff_ne.mpr c29
                                    have c29b1 : (((rd_T37 l0 x12_4).f1).toList != ((rd_T37 l0 x9_3).f0).toList) = true := bne_iff_ne.mpr c29
                                    have H' := Aside0.mk H
                                    clear H
                                    have p517 : 0 ≤ (x12_4 : Int) := of_decide_eq_true (by first | (with_reducible assumption) | assumption)
                                    have q517 : x12_4 < (l0.length : Int) := of_decide_eq_true (by first | (with_reducible assumption) | assumption)
                                    obtain ⟨ad517, e517, hx517_0, hx517_1, hx517_2⟩ := at_T37 HR0.out x12_4 p517 q517
                                    cases e517
                                    replace hx517_0 := (HB.out.cell (World.block_lt_of_cell? w _ hx517_0)).trans hx517_0
                                    replace hx517_1 := (HB.out.cell (World.block_lt_of_cell? w _ hx517_1)).trans hx517_1
                                    replace hx517_2 := (HB.out.cell (World.block_lt_of_cell? w _ hx517_2)).trans hx517_2
                                    replace p517 := eq_true p517
                                    replace q517 := eq_true q517
                                    have p518 : 0 ≤ (x9_3 : Int) := of_decide_eq_true (by first | (with_reducible assumption) | assumption)
                                    have q518 : x9_3 < (l0.length : Int) := of_decide_eq_true (by first | (with_reducible assumption) | assumption)
                                    obtain ⟨ad518, e518, hx518_0, hx518_1, hx518_2⟩ := at_T37 HR0.out x9_3 p518 q518
                                    obtain rfl : ad517 = ad518 := (by injection e518)
                                    replace hx518_0 := (HB.out.cell (World.block_lt_of_cell? w _ hx518_0)).trans hx518_0
                                    replace hx518_1 := (HB.out.cell (World.block_lt_of_cell? w _ hx518_1)).trans hx518_1
                                    replace hx518_2 := (HB.out.cell (World.block_lt_of_cell? w _ hx518_2)).trans hx518_2
                                    replace p518 := eq_true p518
                                    replace q518 := eq_true q518
                                    go_wp2
                                    repeat (go_quiet (fail); try go_wp2)
                                    go_roundg k4
                                    case measure => have := HJ8.out; have := HJ17.out; have := HK3.out; have := HK4.out; omega
                                    case rel => exact ⟨(x10_4), (x11_4), (wrap64 (x12_4 + 1)), (by first | rfl | (simp; done) | (simp [*]; done)), (by first | rfl | (simp; done) | (simp [*]; done)), (by first | rfl | (simp; done) | (simp [*]; done)), H', ⟨by have := HJ8.out; have := HJ17.out; have := HK3.out; have := HK4.out; omega⟩, ⟨by (with_reducible repeat (first | apply Kd.R_alloc | apply Kd.R_drewN | apply Kd.R_drew)); exact HO_5.out⟩, ⟨by (with_reducible repeat (first | apply Kd.R_alloc | apply Kd.R_drewN | apply Kd.R_drew)); exact HO_7.out⟩, ⟨by repeat (first | (with_reducible first | exact HB.out | apply below_alloc | apply pw_below_drewN | apply below_drew1) | exact HB.out)⟩⟩
                                · rw [if_neg c28] at H
                                  exact absurd H (by simp)
                              · rw [if_neg c27] at H
                                exact absurd H (by simp)
                            · rw [if_neg c26] at H
                              exact absurd H (by simp)
                          · rw [if_neg c25] at H
                            have c25b0 : decide (x12_4 < (l0.length : Int)) = false := decide_eq_false c25
                            clear c25
                            by_cases c36 : 0 ≤ x9_3
                            · rw [if_pos c36] at H
                              have c36b0 : decide (0 ≤ x9_3) = true := decide_eq_true c36
                              clear c36
                              by_cases c37 : x9_3 < (t497.length : Int)
                              · rw [if_pos c37] at H
                                have c37b0 : decide (x9_3 < (t497.length : Int)) = true := decide_eq_true c37
                                clear c37
                                by_cases c38 : x10_4 > (rd t497 x9_3)
                                · rw [if_pos c38] at H
                                  exact absurd H (by simp)
                                · rw [if_neg c38] at H
                                  have c38b0 : decide ((rd t497 x9_3) < x10_4) = false := decide_eq_false c38
                                  clear c38
                                  by_cases c39 : x11_4 > 0
                                  · rw [if_pos c39] at H
                                    have c39b0 : decide (0 < x11_4) = true := decide_eq_true c39
                                    clear c39
                                    by_cases c40 : (wrap64 (x10_4 + x11_4)) ≤ (rd t497 x9_3)
                                    · rw [if_pos c40] at H
                                      exact absurd H (by simp)
                                    · rw [if_neg c40] at H
                                      have c40b0 : decide ((wrap64 (x10_4 + x11_4)) ≤ (rd t497 x9_3)) = false := decide_eq_false c40
                                      clear c40
                                      by_cases c41 : x9_3 < (t501.length : Int)
                                      · rw [if_pos c41] at H
                                        have c41b0 : decide (x9_3 < (t501.length : Int)) = true := decide_eq_true c41
                                        clear c41
                                        by_cases c42 : x9_3 < (l1.length : Int)
                                        · rw [if_pos c42] at H
                                          have c42b0 : decide (x9_3 < (l1.length : Int)) = true := decide_eq_true c42
                                          clear c42
                                          by_cases c43 : (rd t501 x9_3) < (rd l1 x9_3)
                                          · rw [if_pos c43] at H
                                            exact absurd H (by simp)
                                          · rw [if_neg c43] at H
                                            have c43b0 : decide ((rd t501 x9_3) < (rd l1 x9_3)) = false := decide_eq_false c43
                                            clear c43
                                            by_cases c44 : 0 < (t501.length : Int)
                                            · rw [if_pos c44] at H
                                              have c44b0 : decide (0 < (t501.length : Int)) = true := decide_eq_true c44
                                              have c44b1 : decide (0 < t501.length) = true := decide_eq_true (by omega)
                                              clear c44
                                              by_cases c45 : (rd t501 x9_3) > (rd t501 0)
                                              · rw [if_pos c45] at H
                                                exact absurd H (by simp)
                                              · rw [if_neg c45] at H
                                                have c45b0 : decide ((rd t501 0) < (rd t501 x9_3)) = false := decide_eq_false c45
                                                clear c45
                                                have H' := Aside0.mk H
                                                clear H
                                                obtain ⟨Ao46, co46, eo46⟩ := Kd.R_slice HO_5.out
                                                subst eo46
                                                have p507 : 0 ≤ (x9_3 : Int) := of_decide_eq_true (by first | (with_reducible assumption) | assumption)
                                                have q507 : x9_3 < (t497.length : Int) := of_decide_eq_true (by first | (with_reducible assumption) | assumption)
                                                obtain ⟨ad507, e507, hx507_0⟩ := Kd.at_int (Kd.R_reads' HO_5.out).2.2 x9_3 p507 q507
                                                cases e507
                                                replace p507 := eq_true p507
                                                replace q507 := eq_true q507
                                                have p508 : 0 ≤ (x9_3 : Int) := of_decide_eq_true (by first | (with_reducible assumption) | assumption)
                                                have q508 : x9_3 < (t497.length : Int) := of_decide_eq_true (by first | (with_reducible assumption) | assumption)
                                                obtain ⟨ad508, e508, hx508_0⟩ := Kd.at_int (Kd.R_reads' HO_5.out).2.2 x9_3 p508 q508
                                                obtain rfl : ad507 = ad508 := (by injection e508)
                                                replace p508 := eq_true p508
                                                replace q508 := eq_true q508
                                                obtain ⟨Ao47, co47, eo47⟩ := Kd.R_slice HO_7.out
                                                subst eo47
                                                have p509 : 0 ≤ (x9_3 : Int) := of_decide_eq_true (by first | (with_reducible assumption) | assumption)
                                                have q509 : x9_3 < (t501.length : Int) := of_decide_eq_true (by first | (with_reducible assumption) | assumption)
                                                obtain ⟨ad509, e509, hx509_0⟩ := Kd.at_int (Kd.R_reads' HO_7.out).2.2 x9_3 p509 q509
                                                cases e509
                                                replace p509 := eq_true p509
                                                replace q509 := eq_true q509
                                                have p510 : 0 ≤ (x9_3 : Int) := of_decide_eq_true (by first | (with_reducible assumption) | assumption)
                                                have q510 : x9_3 < (l1.length : Int) := of_decide_eq_true (by first | (with_reducible assumption) | assumption)
                                                obtain ⟨ad510, e510, hx510_0⟩ := Kd.at_int HR1.out x9_3 p510 q510
                                                cases e510
                                                replace hx510_0 := (HB.out.cell (World.block_lt_of_cell? w _ hx510_0)).trans hx510_0
                                                replace p510 := eq_true p510
                                                replace q510 := eq_true q510
                                                have p511 : 0 ≤ (x9_3 : Int) := of_decide_eq_true (by first | (with_reducible assumption) | assumption)
                                                have q511 : x9_3 < (t501.length : Int) := of_decide_eq_true (by first | (with_reducible assumption) | assumption)
                                                obtain ⟨ad511, e511, hx511_0⟩ := Kd.at_int (Kd.R_reads' HO_7.out).2.2 x9_3 p511 q511
                                                obtain rfl : ad509 = ad511 := (by injection e511)
                                                replace p511 := eq_true p511
                                                replace q511 := eq_true q511
                                                have p512 : 0 ≤ (0 : Int) := (by omega)
                                                have q512 : 0 < (t501.length : Int) := of_decide_eq_true (by first | (with_reducible assumption) | assumption)
                                                obtain ⟨ad512, e512, hx512_0⟩ := Kd.at_int (Kd.R_reads' HO_7.out).2.2 0 p512 q512
                                                obtain rfl : ad509 = ad512 := (by injection e512)
                                                have qi512 : (0 < t501.length) = True := eq_true (by omega)
                                                (try rw [show ((0 : Int)).toNat = 0 from rfl] at hx512_0)
                                                (try rw [Addr.add_zero'] at hx512_0)
                                                replace p512 := eq_true p512
                                                replace q512 := eq_true q512
                                                go_wp2
                                                repeat (go_quiet (fail); try go_wp2)
                                                go_roundg k4
                                                case measure => have := HJ8.out; have := HJ17.out; have := HK3.out; have := HK4.out; omega
                                                case rel => exact ⟨(wrap64 (x9_3 + 1)), (by first | rfl | (simp; done) | (simp [*]; done)), H', ⟨by have := HJ8.out; have := HJ17.out; have := HK3.out; have := HK4.out; omega⟩, ⟨by (with_reducible repeat (first | apply Kd.R_alloc | apply Kd.R_drewN | apply Kd.R_drew)); exact HO_5.out⟩, ⟨by (with_reducible repeat (first | apply Kd.R_alloc | apply Kd.R_drewN | apply Kd.R_drew)); exact HO_7.out⟩, ⟨by repeat (first | (with_reducible first | exact HB.out | apply below_alloc | apply pw_below_drewN | apply below_drew1) | exact HB.out)⟩⟩
                                            · rw [if_neg c44] at H
                                              exact absurd H (by simp)
                                        · rw [if_neg c42] at H
                                          exact absurd H (by simp)
                                      · rw [if_neg c41] at H
                                        exact absurd H (by simp)
                                  · rw [if_neg c39] at H
                                    have c39b0 : decide (0 < x11_4) = false := decide_eq_false c39
                                    clear c39
                                    by_cases c48 : x9_3 < (t501.length : Int)
                                    · rw [if_pos c48] at H
                                      have c48b0 : decide (x9_3 < (t501.length : Int)) = true := decide_eq_true c48
                                      clear c48
                                      by_cases c49 : x9_3 < (l1.length : Int)
                                      · rw [if_pos c49] at H
                                        have c49b0 : decide (x9_3 < (l1.length : Int)) = true := decide_eq_true c49
                                        clear c49
                                        by_cases c50 : (rd t501 x9_3) < (rd l1 x9_3)
                                        · rw [if_pos c50] at H
                                          exact absurd H (by simp)
                                        · rw [if_neg c50] at H
                                          have c50b0 : decide ((rd t501 x9_3) < (rd l1 x9_3)) = false := decide_eq_false c50
                                          clear c50
                                          by_cases c51 : 0 < (t501.length : Int)
                                          · rw [if_pos c51] at H
                                            have c51b0 : decide (0 < (t501.length : Int)) = true := decide_eq_true c51
                                            have c51b1 : decide (0 < t501.length) = true := decide_eq_true (by omega)
                                            clear c51
                                            by_cases c52 : (rd t501 x9_3) > (rd t501 0)
                                            · rw [if_pos c52] at H
                                              exact absurd H (by simp)
                                            · rw [if_neg c52] at H
                                              have c52b0 : decide ((rd t501 0) < (rd t501 x9_3)) = false := decide_eq_false c52
                                              clear c52
                                              have H' := Aside0.mk H
                                              clear H
                                              obtain ⟨Ao53, co53, eo53⟩ := Kd.R_slice HO_5.out
                                              subst eo53
                                              have p507 : 0 ≤ (x9_3 : Int) := of_decide_eq_true (by first | (with_reducible assumption) | assumption)
                                              have q507 : x9_3 < (t497.length : Int) := of_decide_eq_true (by first | (with_reducible assumption) | assumption)
                                              obtain ⟨ad507, e507, hx507_0⟩ := Kd.at_int (Kd.R_reads' HO_5.out).2.2 x9_3 p507 q507
                                              cases e507
                                              replace p507 := eq_true p507
                                              replace q507 := eq_true q507
                                              obtain ⟨Ao54, co54, eo54⟩ := Kd.R_slice HO_7.out
                                              subst eo54
                                              have p513 : 0 ≤ (x9_3 : Int) := of_decide_eq_true (by first | (with_reducible assumption) | assumption)
                                              have q513 : x9_3 < (t501.length : Int) := of_decide_eq_true (by first | (with_reducible assumption) | assumption)
                                              obtain ⟨ad513, e513, hx513_0⟩ := Kd.at_int (Kd.R_reads' HO_7.out).2.2 x9_3 p513 q513
                                              cases e513
                                              replace p513 := eq_true p513
                                              replace q513 := eq_true q513
                                              have p514 : 0 ≤ (x9_3 : Int) := of_decide_eq_true (by first | (with_reducible assumption) | assumption)
                                              have q514 : x9_3 < (l1.length : Int) := of_decide_eq_true (by first | (with_reducible assumption) | assumption)
                                              obtain ⟨ad514, e514, hx514_0⟩ := Kd.at_int HR1.out x9_3 p514 q514
                                              cases e514
                                              replace hx514_0 := (HB.out.cell (World.block_lt_of_cell? w _ hx514_0)).trans hx514_0
                                              replace p514 := eq_true p514
                                              replace q514 := eq_true q514
                                              have p515 : 0 ≤ (x9_3 : Int) := of_decide_eq_true (by first | (with_reducible assumption) | assumption)
                                              have q515 : x9_3 < (t501.length : Int) := of_decide_eq_true (by first | (with_reducible assumption) | assumption)
                                              obtain ⟨ad515, e515, hx515_0⟩ := Kd.at_int (Kd.R_reads' HO_7.out).2.2 x9_3 p515 q515
                                              obtain rfl : ad513 = ad515 := (by injection e515)
                                              replace p515 := eq_true p515
                                              replace q515 := eq_true q515
                                              have p516 : 0 ≤ (0 : Int) := (by omega)
                                              have q516 : 0 < (t501.length : Int) := of_decide_eq_true (by first | (with_reducible assumption) | assumption)
                                              obtain ⟨ad516, e516, hx516_0⟩ := Kd.at_int (Kd.R_reads' HO_7.out).2.2 0 p516 q516
                                              obtain rfl : ad513 = ad516 := (by injection e516)
                                              have qi516 : (0 < t501.length) = True := eq_true (by omega)
                                              (try rw [show ((0 : Int)).toNat = 0 from rfl] at hx516_0)
                                              (try rw [Addr.add_zero'] at hx516_0)
                                              replace p516 := eq_true p516
                                              replace q516 := eq_true q516
                                              go_wp2
                                              repeat (go_quiet (fail); try go_wp2)
                                              go_roundg k4
                                              case measure => have := HJ8.out; have := HJ17.out; have := HK3.out; have := HK4.out; omega
                                              case rel => exact ⟨(wrap64 (x9_3 + 1)), (by first | rfl | (simp; done) | (simp [*]; done)), H', ⟨by have := HJ8.out; have := HJ17.out; have := HK3.out; have := HK4.out; omega⟩, ⟨by (with_reducible repeat (first | apply Kd.R_alloc | apply Kd.R_drewN | apply Kd.R_drew)); exact HO_5.out⟩, ⟨by (with_reducible repeat (first | apply Kd.R_alloc | apply Kd.R_drewN | apply Kd.R_drew)); exact HO_7.out⟩, ⟨by repeat (first | (with_reducible first | exact HB.out | apply below_alloc | apply pw_below_drewN | apply below_drew1) | exact HB.out)⟩⟩
                                          · rw [if_neg c51] at H
                                            exact absurd H (by simp)
                                      · rw [if_neg c49] at H
                                        exact absurd H (by simp)
                                    · rw [if_neg c48] at H
                                      exact absurd H (by simp)
                              · rw [if_neg c37] at H
                                exact absurd H (by simp)
                            · rw [if_neg c36] at H
                              exact absurd H (by simp)
                    · rw [if_neg c24] at H
                      have c24b0 : decide (x9_3 < (l0.length : Int)) = false := decide_eq_false c24
                      clear c24
                      replace H := Option.bind_eq_some_iff.mp H
                      obtain ⟨t506, A550, H⟩ := H
                      replace H : (some t506) = some r := H
                      have A55 := Aside0.mk A550
                      clear A550
                      obtain rfl := Option.some.inj H
                      go_wp2_with (first | (go_at_call 11; (with_reducible refine (gangerlaw11_known.calls k3  t506 _ ?side1 A55.out).mono ?_); (case side1 => exact Glob.below HG.out (by repeat (first | (with_reducible first | exact HB.out | apply below_alloc | apply pw_below_drewN | apply below_drew1) | exact HB.out))); rintro e w56 ⟨rfl, hb⟩; have n0_ := Aside0.mk (Kd.R_below (by (with_reducible repeat (first | apply Kd.R_alloc | apply Kd.R_drewN | apply Kd.R_drew)); exact HO_5.out) hb); have n1_ := Aside0.mk (Kd.R_below (by (with_reducible repeat (first | apply Kd.R_alloc | apply Kd.R_drewN | apply Kd.R_drew)); exact HO_7.out) hb); have n2_ := Aside0.mk (below_step (by repeat (first | (with_reducible first | exact HB.out | apply below_alloc | apply pw_below_drewN | apply below_drew1) | exact HB.out)) hb); clear HO_5; clear HO_7; clear HB; have HO_5 := n0_; have HO_7 := n1_; have HB := n2_; clear n0_ n1_ n2_; (try clear hb); (try clear hb2); (try clear hk); (try clear hi)))
                      repeat (go_quiet (first | (go_at_call 11; (with_reducible refine (gangerlaw11_known.calls k3  t506 _ ?side1 A55.out).mono ?_); (case side1 => exact Glob.below HG.out (by repeat (first | (with_reducible first | exact HB.out | apply below_alloc | apply pw_below_drewN | apply below_drew1) | exact HB.out))); rintro e w56 ⟨rfl, hb⟩; have n0_ := Aside0.mk (Kd.R_below (by (with_reducible repeat (first | apply Kd.R_alloc | apply Kd.R_drewN | apply Kd.R_drew)); exact HO_5.out) hb); have n1_ := Aside0.mk (Kd.R_below (by (with_reducible repeat (first | apply Kd.R_alloc | apply Kd.R_drewN | apply Kd.R_drew)); exact HO_7.out) hb); have n2_ := Aside0.mk (below_step (by repeat (first | (with_reducible first | exact HB.out | apply below_alloc | apply pw_below_drewN | apply below_drew1) | exact HB.out)) hb); clear HO_5; clear HO_7; clear HB; have HO_5 := n0_; have HO_7 := n1_; have HB := n2_; clear n0_ n1_ n2_; (try clear hb); (try clear hb2); (try clear hk); (try clear hi))); try go_wp2_with (first | (go_at_call 11; (with_reducible refine (gangerlaw11_known.calls k3  t506 _ ?side1 A55.out).mono ?_); (case side1 => exact Glob.below HG.out (by repeat (first | (with_reducible first | exact HB.out | apply below_alloc | apply pw_below_drewN | apply below_drew1) | exact HB.out))); rintro e w56 ⟨rfl, hb⟩; have n0_ := Aside0.mk (Kd.R_below (by (with_reducible repeat (first | apply Kd.R_alloc | apply Kd.R_drewN | apply Kd.R_drew)); exact HO_5.out) hb); have n1_ := Aside0.mk (Kd.R_below (by (with_reducible repeat (first | apply Kd.R_alloc | apply Kd.R_drewN | apply Kd.R_drew)); exact HO_7.out) hb); have n2_ := Aside0.mk (below_step (by repeat (first | (with_reducible first | exact HB.out | apply below_alloc | apply pw_below_drewN | apply below_drew1) | exact HB.out)) hb); clear HO_5; clear HO_7; clear HB; have HO_5 := n0_; have HO_7 := n1_; have HB := n2_; clear n0_ n1_ n2_; (try clear hb); (try clear hb2); (try clear hk); (try clear hi))))
                      go_ret
                      exact ⟨by first | rfl | (simp [errW_none, errW_some] <;> rfl) | (simp [*, errW_none, errW_some] <;> rfl), by repeat (first | (with_reducible first | exact HB.out | apply below_alloc | apply pw_below_drewN | apply below_drew1) | exact HB.out)⟩
def gangerlaw11_ShareChildren.Pure : Prop := ∀ (l0 : List (S37)) (l1 : List Int), (l0.length ≤ maxLen ∧ ∀ x2 ∈ l0, ((x2.f0.size ≤ maxLen) ∧ ((x2.f1.size ≤ maxLen) ∧ ((Lit.int .i64 x2.f2).wf = true)))) → (l1.length ≤ maxLen ∧ ∀ x2 ∈ l1, ((Lit.int .i64 x2).wf = true)) → ∃ k, gangerlaw11_ShareChildren.f k l0 l1 = some true

end Go.Proofs.YtfccdngejfnmkaaDoor.P
