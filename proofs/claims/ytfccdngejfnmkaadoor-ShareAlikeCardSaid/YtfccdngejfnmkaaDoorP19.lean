/- The machine's side of the laws of this seat: each function's plain form and its contract, written by a program of this session out of Lean's print of the loaded functions; no condition beyond what each statement says. -/
import Derived.Test.YtfccdngejfnmkaaDoorP0
import Derived.Test.YtfccdngejfnmkaaDoorP1
import Derived.Test.YtfccdngejfnmkaaDoorP4
import Derived.Test.YtfccdngejfnmkaaDoorP6
import Derived.Test.YtfccdngejfnmkaaDoorP7
namespace Go.Proofs.YtfccdngejfnmkaaDoor.P
open Go.RowKit Go.Proofs.YtfccdngejfnmkaaDoorW.PrintWords Go.Proofs.YtfccdngejfnmkaaDoorW.PrintLast Go.Proofs.YtfccdngejfnmkaaDoorW.PrintMore
attribute [local go_sem] max2_int min2_int max_two min_two max_three min_three max_four min_four   -- for this text's walks alone
set_option linter.unusedVariables false
set_option linter.unusedSimpArgs false

attribute [local go_sem] isSome_setCell
/-! ### gangerlaw11_ShareAlike: function 8 -/
mutual
def gangerlaw11_ShareAlike.j0 : Nat → List (S37) → List Int → List Int → List Int → Bool → Option (Bool)
  | 0, _, _, _, _, _ => none
  | k + 1, x0, x5, x7, x9, x43 => if x43 = true then ((gangerlaw11_known.f k).bind fun t570 => (some t570)) else (if (x5.length : Int) = (x0.length : Int) then (if (x7.length : Int) = (x0.length : Int) then (gangerlaw11_ShareAlike.j1 k x0 x5 x7 x9 ((x9.length : Int) != (x0.length : Int))) else (gangerlaw11_ShareAlike.j1 k x0 x5 x7 x9 true)) else (gangerlaw11_ShareAlike.j1 k x0 x5 x7 x9 true))
def gangerlaw11_ShareAlike.j1 : Nat → List (S37) → List Int → List Int → List Int → Bool → Option (Bool)
  | 0, _, _, _, _, _ => none
  | k + 1, x0, x5, x7, x9, x63 => if x63 = true then (none) else (gangerlaw11_ShareAlike.l0 k x0 x5 x7 x9 0)
def gangerlaw11_ShareAlike.l0 : Nat → List (S37) → List Int → List Int → List Int → Int → Option (Bool)
  | 0, _, _, _, _, _ => none
  | k + 1, x0, x5, x7, x9, x11 => if x11 < (x0.length : Int) then (gangerlaw11_ShareAlike.l1 k x0 x5 x7 x9 x11 0) else ((gangerlaw11_known.f k).bind fun t571 => (some t571))
def gangerlaw11_ShareAlike.l1 : Nat → List (S37) → List Int → List Int → List Int → Int → Int → Option (Bool)
  | 0, _, _, _, _, _, _ => none
  | k + 1, x0, x5, x7, x9, x11, x12 => if x12 < (x0.length : Int) then (if 0 ≤ x11 then (if x11 < (x0.length : Int) then (if 0 ≤ x12 then (if ((rd_T37 x0 x11).f1).toList = ((rd_T37 x0 x12).f1).toList then (if ((rd_T37 x0 x11).f2) ≥ ((rd_T37 x0 x12).f2) then (if x11 < (x5.length : Int) then (if x12 < (x5.length : Int) then (gangerlaw11_ShareAlike.j4 k x0 x5 x7 x9 x11 x12 (decide ((rd x5 x11) < (rd x5 x12)))) else (none)) else (none)) else (gangerlaw11_ShareAlike.j4 k x0 x5 x7 x9 x11 x12 false)) else (gangerlaw11_ShareAlike.l1 k x0 x5 x7 x9 x11 (wrap64 (x12 + 1)))) else (none)) else (none)) else (none)) else (gangerlaw11_ShareAlike.l0 k x0 x5 x7 x9 (wrap64 (x11 + 1)))
def gangerlaw11_ShareAlike.j4 : Nat → List (S37) → List Int → List Int → List Int → Int → Int → Bool → Option (Bool)
  | 0, _, _, _, _, _, _, _ => none
  | k + 1, x0, x5, x7, x9, x11, x12, x108 => if x108 = true then (none) else (if 0 ≤ x11 then (if x11 < (x0.length : Int) then (if 0 ≤ x12 then (if x12 < (x0.length : Int) then (if ((rd_T37 x0 x11).f2) = ((rd_T37 x0 x12).f2) then (if x11 < (x7.length : Int) then (if x12 < (x7.length : Int) then (if (rd x7 x11) = (rd x7 x12) then (if x11 < (x5.length : Int) then (if x12 < (x5.length : Int) then (if (rd x5 x11) = (rd x5 x12) then (if x11 < (x9.length : Int) then (if x12 < (x9.length : Int) then (if (rd x9 x11) = (rd x9 x12) then (gangerlaw11_ShareAlike.l1 k x0 x5 x7 x9 x11 (wrap64 (x12 + 1))) else (none)) else (none)) else (none)) else (none)) else (none)) else (none)) else (gangerlaw11_ShareAlike.l1 k x0 x5 x7 x9 x11 (wrap64 (x12 + 1)))) else (none)) else (none)) else (gangerlaw11_ShareAlike.l1 k x0 x5 x7 x9 x11 (wrap64 (x12 + 1)))) else (none)) else (none)) else (none)) else (none))
end
def gangerlaw11_ShareAlike.f (k : Nat) (l0 : List (S37)) (l1 : List Int) : Option (Bool) := (gangerlaw11_many.f k l0 l1).bind fun t556 => (if t556 = true then ((gangerlaw11_known.f k).bind fun t557 => (some t557)) else ((share_Norms.f k l0).bind fun bt558 => ((share_Sums.f k l0 l1).bind fun bt562 => ((share_Factors.f k l0 l1).bind fun bt566 => (if bt558.2 = 0 then (if bt562.2 = 0 then (gangerlaw11_ShareAlike.j0 k l0 bt558.1 bt562.1 bt566.1 (bt566.2 != 0)) else (gangerlaw11_ShareAlike.j0 k l0 bt558.1 bt562.1 bt566.1 true)) else (gangerlaw11_ShareAlike.j0 k l0 bt558.1 bt562.1 bt566.1 true))))))
theorem gangerlaw11_ShareAlike.mono_l : ∀ k, (∀ y0 y1 y2 y3 y4, LeO (gangerlaw11_ShareAlike.j0 k y0 y1 y2 y3 y4) (gangerlaw11_ShareAlike.j0 (k + 1) y0 y1 y2 y3 y4)) ∧ (∀ y0 y1 y2 y3 y4, LeO (gangerlaw11_ShareAlike.j1 k y0 y1 y2 y3 y4) (gangerlaw11_ShareAlike.j1 (k + 1) y0 y1 y2 y3 y4)) ∧ (∀ y0 y1 y2 y3 y4, LeO (gangerlaw11_ShareAlike.l0 k y0 y1 y2 y3 y4) (gangerlaw11_ShareAlike.l0 (k + 1) y0 y1 y2 y3 y4)) ∧ (∀ y0 y1 y2 y3 y4 y5, LeO (gangerlaw11_ShareAlike.l1 k y0 y1 y2 y3 y4 y5) (gangerlaw11_ShareAlike.l1 (k + 1) y0 y1 y2 y3 y4 y5)) ∧ (∀ y0 y1 y2 y3 y4 y5 y6, LeO (gangerlaw11_ShareAlike.j4 k y0 y1 y2 y3 y4 y5 y6) (gangerlaw11_ShareAlike.j4 (k + 1) y0 y1 y2 y3 y4 y5 y6))
  | 0 => ⟨fun _ _ _ _ _ r h => by simp [gangerlaw11_ShareAlike.j0] at h, fun _ _ _ _ _ r h => by simp [gangerlaw11_ShareAlike.j1] at h, fun _ _ _ _ _ r h => by simp [gangerlaw11_ShareAlike.l0] at h, fun _ _ _ _ _ _ r h => by simp [gangerlaw11_ShareAlike.l1] at h, fun _ _ _ _ _ _ _ r h => by simp [gangerlaw11_ShareAlike.j4] at h⟩
  | k + 1 => by
    obtain ⟨ih0, ih1, ih2, ih3, ih4⟩ := gangerlaw11_ShareAlike.mono_l k
    refine ⟨?_, ?_, ?_, ?_, ?_⟩
    · intro y0 y1 y2 y3 y4
      unfold gangerlaw11_ShareAlike.j0
      repeat' first
      | (with_reducible exact ih0 _ _ _ _ _)
      | (with_reducible exact ih1 _ _ _ _ _)
      | (with_reducible exact ih2 _ _ _ _ _)
      | (with_reducible exact ih3 _ _ _ _ _ _)
      | (with_reducible exact ih4 _ _ _ _ _ _ _)
      | (with_reducible exact gangerlaw11_known.mono _)
      | (with_reducible exact gangerlaw11_many.mono _ _ _)
      | (with_reducible exact share_Factors.mono _ _ _)
      | (with_reducible exact share_Norms.mono _ _)
      | (with_reducible exact share_Sums.mono _ _ _)
      | (with_reducible exact LeO.refl _)
      | (with_reducible exact LeO.none _)
      | (with_reducible refine LeO.ite ?_ ?_)
      | (with_reducible refine LeO.bind ?_ (fun _ => ?_))
      | exact ih0 _ _ _ _ _
      | exact ih1 _ _ _ _ _
      | exact ih2 _ _ _ _ _
      | exact ih3 _ _ _ _ _ _
      | exact ih4 _ _ _ _ _ _ _
      | exact gangerlaw11_known.mono _
      | exact gangerlaw11_many.mono _ _ _
      | exact share_Factors.mono _ _ _
      | exact share_Norms.mono _ _
      | exact share_Sums.mono _ _ _
      | exact LeO.none _
      | refine LeO.ite ?_ ?_
      | refine LeO.bind ?_ (fun _ => ?_)
    · intro y0 y1 y2 y3 y4
      unfold gangerlaw11_ShareAlike.j1
      repeat' first
      | (with_reducible exact ih0 _ _ _ _ _)
      | (with_reducible exact ih1 _ _ _ _ _)
      | (with_reducible exact ih2 _ _ _ _ _)
      | (with_reducible exact ih3 _ _ _ _ _ _)
      | (with_reducible exact ih4 _ _ _ _ _ _ _)
      | (with_reducible exact gangerlaw11_known.mono _)
      | (with_reducible exact gangerlaw11_many.mono _ _ _)
      | (with_reducible exact share_Factors.mono _ _ _)
      | (with_reducible exact share_Norms.mono _ _)
      | (with_reducible exact share_Sums.mono _ _ _)
      | (with_reducible exact LeO.refl _)
      | (with_reducible exact LeO.none _)
      | (with_reducible refine LeO.ite ?_ ?_)
      | (with_reducible refine LeO.bind ?_ (fun _ => ?_))
      | exact ih0 _ _ _ _ _
      | exact ih1 _ _ _ _ _
      | exact ih2 _ _ _ _ _
      | exact ih3 _ _ _ _ _ _
      | exact ih4 _ _ _ _ _ _ _
      | exact gangerlaw11_known.mono _
      | exact gangerlaw11_many.mono _ _ _
      | exact share_Factors.mono _ _ _
      | exact share_Norms.mono _ _
      | exact share_Sums.mono _ _ _
      | exact LeO.none _
      | refine LeO.ite ?_ ?_
      | refine LeO.bind ?_ (fun _ => ?_)
    · intro y0 y1 y2 y3 y4
      unfold gangerlaw11_ShareAlike.l0
      repeat' first
      | (with_reducible exact ih0 _ _ _ _ _)
      | (with_reducible exact ih1 _ _ _ _ _)
      | (with_reducible exact ih2 _ _ _ _ _)
      | (with_reducible exact ih3 _ _ _ _ _ _)
      | (with_reducible exact ih4 _ _ _ _ _ _ _)
      | (with_reducible exact gangerlaw11_known.mono _)
      | (with_reducible exact gangerlaw11_many.mono _ _ _)
      | (with_reducible exact share_Factors.mono _ _ _)
      | (with_reducible exact share_Norms.mono _ _)
      | (with_reducible exact share_Sums.mono _ _ _)
      | (with_reducible exact LeO.refl _)
      | (with_reducible exact LeO.none _)
      | (with_reducible refine LeO.ite ?_ ?_)
      | (with_reducible refine LeO.bind ?_ (fun _ => ?_))
      | exact ih0 _ _ _ _ _
      | exact ih1 _ _ _ _ _
      | exact ih2 _ _ _ _ _
      | exact ih3 _ _ _ _ _ _
      | exact ih4 _ _ _ _ _ _ _
      | exact gangerlaw11_known.mono _
      | exact gangerlaw11_many.mono _ _ _
      | exact share_Factors.mono _ _ _
      | exact share_Norms.mono _ _
      | exact share_Sums.mono _ _ _
      | exact LeO.none _
      | refine LeO.ite ?_ ?_
      | refine LeO.bind ?_ (fun _ => ?_)
    · intro y0 y1 y2 y3 y4 y5
      unfold gangerlaw11_ShareAlike.l1
      repeat' first
      | (with_reducible exact ih0 _ _ _ _ _)
      | (with_reducible exact ih1 _ _ _ _ _)
      | (with_reducible exact ih2 _ _ _ _ _)
      | (with_reducible exact ih3 _ _ _ _ _ _)
      | (with_reducible exact ih4 _ _ _ _ _ _ _)
      | (with_reducible exact gangerlaw11_known.mono _)
      | (with_reducible exact gangerlaw11_many.mono _ _ _)
      | (with_reducible exact share_Factors.mono _ _ _)
      | (with_reducible exact share_Norms.mono _ _)
      | (with_reducible exact share_Sums.mono _ _ _)
      | (with_reducible exact LeO.refl _)
      | (with_reducible exact LeO.none _)
      | (with_reducible refine LeO.ite ?_ ?_)
      | (with_reducible refine LeO.bind ?_ (fun _ => ?_))
      | exact ih0 _ _ _ _ _
      | exact ih1 _ _ _ _ _
      | exact ih2 _ _ _ _ _
      | exact ih3 _ _ _ _ _ _
      | exact ih4 _ _ _ _ _ _ _
      | exact gangerlaw11_known.mono _
      | exact gangerlaw11_many.mono _ _ _
      | exact share_Factors.mono _ _ _
      | exact share_Norms.mono _ _
      | exact share_Sums.mono _ _ _
      | exact LeO.none _
      | refine LeO.ite ?_ ?_
      | refine LeO.bind ?_ (fun _ => ?_)
    · intro y0 y1 y2 y3 y4 y5 y6
      unfold gangerlaw11_ShareAlike.j4
      repeat' first
      | (with_reducible exact ih0 _ _ _ _ _)
      | (with_reducible exact ih1 _ _ _ _ _)
      | (with_reducible exact ih2 _ _ _ _ _)
      | (with_reducible exact ih3 _ _ _ _ _ _)
      | (with_reducible exact ih4 _ _ _ _ _ _ _)
      | (with_reducible exact gangerlaw11_known.mono _)
      | (with_reducible exact gangerlaw11_many.mono _ _ _)
      | (with_reducible exact share_Factors.mono _ _ _)
      | (with_reducible exact share_Norms.mono _ _)
      | (with_reducible exact share_Sums.mono _ _ _)
      | (with_reducible exact LeO.refl _)
      | (with_reducible exact LeO.none _)
      | (with_reducible refine LeO.ite ?_ ?_)
      | (with_reducible refine LeO.bind ?_ (fun _ => ?_))
      | exact ih0 _ _ _ _ _
      | exact ih1 _ _ _ _ _
      | exact ih2 _ _ _ _ _
      | exact ih3 _ _ _ _ _ _
      | exact ih4 _ _ _ _ _ _ _
      | exact gangerlaw11_known.mono _
      | exact gangerlaw11_many.mono _ _ _
      | exact share_Factors.mono _ _ _
      | exact share_Norms.mono _ _
      | exact share_Sums.mono _ _ _
      | exact LeO.none _
      | refine LeO.ite ?_ ?_
      | refine LeO.bind ?_ (fun _ => ?_)
theorem gangerlaw11_ShareAlike.mono : ∀ a0 a1 k, LeO (gangerlaw11_ShareAlike.f k a0 a1) (gangerlaw11_ShareAlike.f (k + 1) a0 a1) := by
  intro a0 a1 k
  obtain ⟨ih0, ih1, ih2, ih3, ih4⟩ := gangerlaw11_ShareAlike.mono_l k
  unfold gangerlaw11_ShareAlike.f
  repeat' first
      | (with_reducible exact ih0 _ _ _ _ _)
      | (with_reducible exact ih1 _ _ _ _ _)
      | (with_reducible exact ih2 _ _ _ _ _)
      | (with_reducible exact ih3 _ _ _ _ _ _)
      | (with_reducible exact ih4 _ _ _ _ _ _ _)
      | (with_reducible exact gangerlaw11_known.mono _)
      | (with_reducible exact gangerlaw11_many.mono _ _ _)
      | (with_reducible exact share_Factors.mono _ _ _)
      | (with_reducible exact share_Norms.mono _ _)
      | (with_reducible exact share_Sums.mono _ _ _)
      | (with_reducible exact LeO.refl _)
      | (with_reducible exact LeO.none _)
      | (with_reducible refine LeO.ite ?_ ?_)
      | (with_reducible refine LeO.bind ?_ (fun _ => ?_))
      | exact ih0 _ _ _ _ _
      | exact ih1 _ _ _ _ _
      | exact ih2 _ _ _ _ _
      | exact ih3 _ _ _ _ _ _
      | exact ih4 _ _ _ _ _ _ _
      | exact gangerlaw11_known.mono _
      | exact gangerlaw11_many.mono _ _ _
      | exact share_Factors.mono _ _ _
      | exact share_Norms.mono _ _
      | exact share_Sums.mono _ _ _
      | exact LeO.none _
      | refine LeO.ite ?_ ?_
      | refine LeO.bind ?_ (fun _ => ?_)
set_option maxHeartbeats 8000000 in
set_option maxRecDepth 100000 in
theorem gangerlaw11_ShareAlike.calls (k : Nat) (A0 : Option Addr) (c0 : Nat) (l0 : List (S37)) (A1 : Option Addr) (c1 : Nat) (l1 : List Int) (r : Bool) (w : World) (hG : Glob w) (hr0 : Kd.C k37 w A0 l0.length l0) (hc0 : l0.length ≤ c0) (hr1 : Kd.C (Kd.int .i64) w A1 l1.length l1) (hc1 : l1.length ≤ c1) (h : gangerlaw11_ShareAlike.f k l0 l1 = some r) :
    Calls Tryd.prog 8 #[.slice A0 l0.length c0, .slice A1 l1.length c1] w fun e w' => e = .returned (.bool r) ∧ Below w.heap.size w w' := by
  have HG := Aside0.mk hG
  clear hG
  have HR0 := Aside0.mk hr0
  have HC0 := Aside0.mk hc0
  clear hr0 hc0
  have HR1 := Aside0.mk hr1
  have HC1 := Aside0.mk hc1
  clear hr1 hc1
  have HB := Aside0.mk (Below.refl w.heap.size w)
  have H : ((gangerlaw11_many.f k l0 l1).bind fun t556 => (if t556 = true then ((gangerlaw11_known.f k).bind fun t557 => (some t557)) else ((share_Norms.f k l0).bind fun bt558 => ((share_Sums.f k l0 l1).bind fun bt562 => ((share_Factors.f k l0 l1).bind fun bt566 => (if bt558.2 = 0 then (if bt562.2 = 0 then (gangerlaw11_ShareAlike.j0 k l0 bt558.1 bt562.1 bt566.1 (bt566.2 != 0)) else (gangerlaw11_ShareAlike.j0 k l0 bt558.1 bt562.1 bt566.1 true)) else (gangerlaw11_ShareAlike.j0 k l0 bt558.1 bt562.1 bt566.1 true))))))) = some r := h
  clear h
  replace H := Option.bind_eq_some_iff.mp H
  obtain ⟨t556, A30, H⟩ := H
  replace H : (if t556 = true then ((gangerlaw11_known.f k).bind fun t557 => (some t557)) else ((share_Norms.f k l0).bind fun bt558 => ((share_Sums.f k l0 l1).bind fun bt562 => ((share_Factors.f k l0 l1).bind fun bt566 => (if bt558.2 = 0 then (if bt562.2 = 0 then (gangerlaw11_ShareAlike.j0 k l0 bt558.1 bt562.1 bt566.1 (bt566.2 != 0)) else (gangerlaw11_ShareAlike.j0 k l0 bt558.1 bt562.1 bt566.1 true)) else (gangerlaw11_ShareAlike.j0 k l0 bt558.1 bt562.1 bt566.1 true)))))) = some r := H
  have A3 := Aside0.mk A30
  clear A30
  by_cases c4 : t556 = true
  · subst c4
    have H1 : ((gangerlaw11_known.f k).bind fun t557 => (some t557)) = some r := by rw [if_pos rfl] at H; exact H
    clear H
    have H := H1
    clear H1
    replace H := Option.bind_eq_some_iff.mp H
    obtain ⟨t557, A50, H⟩ := H
    replace H : (some t557) = some r := H
    have A5 := Aside0.mk A50
    clear A50
    obtain rfl := Option.some.inj H
    go_enter Tryd.func8, Tryd.ntmps8
    go_wp2_with (first | (go_at_call 10; (with_reducible refine (gangerlaw11_many.calls k _ _ l0 _ _ l1 true _ ?side1 ?side2 ?side3 ?side4 A3.out).mono ?_); (case side1 => repeat (first | exact HR0.out | (with_reducible refine Kd.C_alloc ?_ _) | (with_reducible refine Kd.C_drewN ?_ _) | (with_reducible refine Kd.C_drew ?_))); (case side2 => exact HC0.out); (case side3 => repeat (first | exact HR1.out | (with_reducible refine Kd.C_alloc ?_ _) | (with_reducible refine Kd.C_drewN ?_ _) | (with_reducible refine Kd.C_drew ?_))); (case side4 => exact HC1.out); rintro e w' ⟨rfl, ⟨nd, rfl⟩⟩; (try first | exact ⟨rfl, _, World.drewN_drewN _ _ _⟩ | exact ⟨rfl, _, Eq.trans (World.drewN_drewN _ _ _) (congrArg (World.drewN _) (Nat.add_assoc _ _ _))⟩)) | (go_at_call 11; (with_reducible refine (gangerlaw11_known.calls k  t557 _ ?side1 A5.out).mono ?_); (case side1 => exact Glob.below HG.out (by repeat (first | (with_reducible first | exact HB.out | apply below_alloc | apply pw_below_drewN | apply below_drew1) | exact HB.out))); rintro e w6 ⟨rfl, hb⟩; have n0_ := Aside0.mk (below_step (by repeat (first | (with_reducible first | exact HB.out | apply below_alloc | apply pw_below_drewN | apply below_drew1) | exact HB.out)) hb); clear HB; have HB := n0_; clear n0_; (try clear hb); (try clear hb2); (try clear hk); (try clear hi)))
    repeat (go_quiet (first | (go_at_call 10; (with_reducible refine (gangerlaw11_many.calls k _ _ l0 _ _ l1 true _ ?side1 ?side2 ?side3 ?side4 A3.out).mono ?_); (case side1 => repeat (first | exact HR0.out | (with_reducible refine Kd.C_alloc ?_ _) | (with_reducible refine Kd.C_drewN ?_ _) | (with_reducible refine Kd.C_drew ?_))); (case side2 => exact HC0.out); (case side3 => repeat (first | exact HR1.out | (with_reducible refine Kd.C_alloc ?_ _) | (with_reducible refine Kd.C_drewN ?_ _) | (with_reducible refine Kd.C_drew ?_))); (case side4 => exact HC1.out); rintro e w' ⟨rfl, ⟨nd, rfl⟩⟩; (try first | exact ⟨rfl, _, World.drewN_drewN _ _ _⟩ | exact ⟨rfl, _, Eq.trans (World.drewN_drewN _ _ _) (congrArg (World.drewN _) (Nat.add_assoc _ _ _))⟩)) | (go_at_call 11; (with_reducible refine (gangerlaw11_known.calls k  t557 _ ?side1 A5.out).mono ?_); (case side1 => exact Glob.below HG.out (by repeat (first | (with_reducible first | exact HB.out | apply below_alloc | apply pw_below_drewN | apply below_drew1) | exact HB.out))); rintro e w6 ⟨rfl, hb⟩; have n0_ := Aside0.mk (below_step (by repeat (first | (with_reducible first | exact HB.out | apply below_alloc | apply pw_below_drewN | apply below_drew1) | exact HB.out)) hb); clear HB; have HB := n0_; clear n0_; (try clear hb); (try clear hb2); (try clear hk); (try clear hi))); try go_wp2_with (first | (go_at_call 10; (with_reducible refine (gangerlaw11_many.calls k _ _ l0 _ _ l1 true _ ?side1 ?side2 ?side3 ?side4 A3.out).mono ?_); (case side1 => repeat (first | exact HR0.out | (with_reducible refine Kd.C_alloc ?_ _) | (with_reducible refine Kd.C_drewN ?_ _) | (with_reducible refine Kd.C_drew ?_))); (case side2 => exact HC0.out); (case side3 => repeat (first | exact HR1.out | (with_reducible refine Kd.C_alloc ?_ _) | (with_reducible refine Kd.C_drewN ?_ _) | (with_reducible refine Kd.C_drew ?_))); (case side4 => exact HC1.out); rintro e w' ⟨rfl, ⟨nd, rfl⟩⟩; (try first | exact ⟨rfl, _, World.drewN_drewN _ _ _⟩ | exact ⟨rfl, _, Eq.trans (World.drewN_drewN _ _ _) (congrArg (World.drewN _) (Nat.add_assoc _ _ _))⟩)) | (go_at_call 11; (with_reducible refine (gangerlaw11_known.calls k  t557 _ ?side1 A5.out).mono ?_); (case side1 => exact Glob.below HG.out (by repeat (first | (with_reducible first | exact HB.out | apply below_alloc | apply pw_below_drewN | apply below_drew1) | exact HB.out))); rintro e w6 ⟨rfl, hb⟩; have n0_ := Aside0.mk (below_step (by repeat (first | (with_reducible first | exact HB.out | apply below_alloc | apply pw_below_drewN | apply below_drew1) | exact HB.out)) hb); clear HB; have HB := n0_; clear n0_; (try clear hb); (try clear hb2); (try clear hk); (try clear hi))))
    go_ret
    exact ⟨by first | rfl | (simp [errW_none, errW_some] <;> rfl) | (simp [*, errW_none, errW_some] <;> rfl), by repeat (first | (with_reducible first | exact HB.out | apply below_alloc | apply pw_below_drewN | apply below_drew1) | exact HB.out)⟩
  · replace c4 := Bool.eq_false_iff.mpr c4
    subst c4
    have H1 : ((share_Norms.f k l0).bind fun bt558 => ((share_Sums.f k l0 l1).bind fun bt562 => ((share_Factors.f k l0 l1).bind fun bt566 => (if bt558.2 = 0 then (if bt562.2 = 0 then (gangerlaw11_ShareAlike.j0 k l0 bt558.1 bt562.1 bt566.1 (bt566.2 != 0)) else (gangerlaw11_ShareAlike.j0 k l0 bt558.1 bt562.1 bt566.1 true)) else (gangerlaw11_ShareAlike.j0 k l0 bt558.1 bt562.1 bt566.1 true))))) = some r := by rw [if_neg (show ¬ (false = true) by decide)] at H; exact H
    clear H
    have H := H1
    clear H1
    replace H := Option.bind_eq_some_iff.mp H
    obtain ⟨⟨t558, t559⟩, A70, H⟩ := H
    replace H : ((share_Sums.f k l0 l1).bind fun bt562 => ((share_Factors.f k l0 l1).bind fun bt566 => (if t559 = 0 then (if bt562.2 = 0 then (gangerlaw11_ShareAlike.j0 k l0 t558 bt562.1 bt566.1 (bt566.2 != 0)) else (gangerlaw11_ShareAlike.j0 k l0 t558 bt562.1 bt566.1 true)) else (gangerlaw11_ShareAlike.j0 k l0 t558 bt562.1 bt566.1 true)))) = some r := H
    have A7 := Aside0.mk A70
    clear A70
    replace H := Option.bind_eq_some_iff.mp H
    obtain ⟨⟨t562, t563⟩, A80, H⟩ := H
    replace H : ((share_Factors.f k l0 l1).bind fun bt566 => (if t559 = 0 then (if t563 = 0 then (gangerlaw11_ShareAlike.j0 k l0 t558 t562 bt566.1 (bt566.2 != 0)) else (gangerlaw11_ShareAlike.j0 k l0 t558 t562 bt566.1 true)) else (gangerlaw11_ShareAlike.j0 k l0 t558 t562 bt566.1 true))) = some r := H
    have A8 := Aside0.mk A80
    clear A80
    replace H := Option.bind_eq_some_iff.mp H
    obtain ⟨⟨t566, t567⟩, A90, H⟩ := H
    replace H : (if t559 = 0 then (if t563 = 0 then (gangerlaw11_ShareAlike.j0 k l0 t558 t562 t566 (t567 != 0)) else (gangerlaw11_ShareAlike.j0 k l0 t558 t562 t566 true)) else (gangerlaw11_ShareAlike.j0 k l0 t558 t562 t566 true)) = some r := H
    have A9 := Aside0.mk A90
    clear A90
    have HC10 := Aside0.mk H
    clear H
    go_enter Tryd.func8, Tryd.ntmps8
    go_upto_region 6 with (first | (go_at_call 10; (with_reducible refine (gangerlaw11_many.calls k _ _ l0 _ _ l1 false _ ?side1 ?side2 ?side3 ?side4 A3.out).mono ?_); (case side1 => repeat (first | exact HR0.out | (with_reducible refine Kd.C_alloc ?_ _) | (with_reducible refine Kd.C_drewN ?_ _) | (with_reducible refine Kd.C_drew ?_))); (case side2 => exact HC0.out); (case side3 => repeat (first | exact HR1.out | (with_reducible refine Kd.C_alloc ?_ _) | (with_reducible refine Kd.C_drewN ?_ _) | (with_reducible refine Kd.C_drew ?_))); (case side4 => exact HC1.out); rintro e w' ⟨rfl, ⟨nd, rfl⟩⟩; (try first | exact ⟨rfl, _, World.drewN_drewN _ _ _⟩ | exact ⟨rfl, _, Eq.trans (World.drewN_drewN _ _ _) (congrArg (World.drewN _) (Nat.add_assoc _ _ _))⟩)) | (go_at_call 16; (with_reducible refine (share_Norms.calls k _ _ l0 t558 t559 _ ?side1 ?side2 ?side3 A7.out).mono ?_); (case side1 => exact Glob.below HG.out (by repeat (first | (with_reducible first | exact HB.out | apply below_alloc | apply pw_below_drewN | apply below_drew1) | exact HB.out))); (case side2 => repeat (first | exact HR0.out | (with_reducible refine Kd.C_alloc ?_ _) | (with_reducible refine Kd.C_drewN ?_ _) | (with_reducible refine Kd.C_drew ?_))); (case side3 => exact HC0.out); rintro e w11 ⟨v560, rfl, ho0, hb⟩; have n0_ := Aside0.mk (Kd.R_lower ho0 (below_size (by repeat (first | (with_reducible first | exact HB.out | apply below_alloc | apply pw_below_drewN | apply below_drew1) | exact HB.out)))); have n1_ := Aside0.mk (below_step (by repeat (first | (with_reducible first | exact HB.out | apply below_alloc | apply pw_below_drewN | apply below_drew1) | exact HB.out)) hb); clear HB; have HO561 := n0_; have HB := n1_; clear n0_ n1_; (try clear hb); (try clear hb2); (try clear hk); (try clear hi); (try clear ho0)) | (go_at_call 13; (with_reducible refine (share_Sums.calls k _ _ l0 _ _ l1 t562 t563 _ ?side1 ?side2 ?side3 ?side4 ?side5 A8.out).mono ?_); (case side1 => exact Glob.below HG.out (by repeat (first | (with_reducible first | exact HB.out | apply below_alloc | apply pw_below_drewN | apply below_drew1) | exact HB.out))); (case side2 => repeat (first | exact (Kd.C_below HR0.out HB.out) | (with_reducible refine Kd.C_alloc ?_ _) | (with_reducible refine Kd.C_drewN ?_ _) | (with_reducible refine Kd.C_drew ?_))); (case side3 => exact HC0.out); (case side4 => repeat (first | exact (Kd.C_below HR1.out HB.out) | (with_reducible refine Kd.C_alloc ?_ _) | (with_reducible refine Kd.C_drewN ?_ _) | (with_reducible refine Kd.C_drew ?_))); (case side5 => exact HC1.out); rintro e w12 ⟨v564, rfl, ho0, hb⟩; have n0_ := Aside0.mk (Kd.R_elder' (by (with_reducible repeat (first | apply Kd.R_alloc | apply Kd.R_drewN | apply Kd.R_drew)); exact HO561.out) (Kd.R_base ho0) hb); have n1_ := Aside0.mk (Kd.R_lower (Kd.R_new' ho0 (Kd.R_lt (by (with_reducible repeat (first | apply Kd.R_alloc | apply Kd.R_drewN | apply Kd.R_drew)); exact HO561.out))) (below_size (by repeat (first | (with_reducible first | exact HB.out | apply below_alloc | apply pw_below_drewN | apply below_drew1) | exact HB.out)))); have n2_ := Aside0.mk (below_step (by repeat (first | (with_reducible first | exact HB.out | apply below_alloc | apply pw_below_drewN | apply below_drew1) | exact HB.out)) hb); clear HO561; clear HB; have HO561 := n0_; have HO565 := n1_; have HB := n2_; clear n0_ n1_ n2_; (try clear hb); (try clear hb2); (try clear hk); (try clear hi); (try clear ho0)) | (go_at_call 20; (with_reducible refine (share_Factors.calls k _ _ l0 _ _ l1 t566 t567 _ ?side1 ?side2 ?side3 ?side4 ?side5 A9.out).mono ?_); (case side1 => exact Glob.below HG.out (by repeat (first | (with_reducible first | exact HB.out | apply below_alloc | apply pw_below_drewN | apply below_drew1) | exact HB.out))); (case side2 => repeat (first | exact (Kd.C_below HR0.out HB.out) | (with_reducible refine Kd.C_alloc ?_ _) | (with_reducible refine Kd.C_drewN ?_ _) | (with_reducible refine Kd.C_drew ?_))); (case side3 => exact HC0.out); (case side4 => repeat (first | exact (Kd.C_below HR1.out HB.out) | (with_reducible refine Kd.C_alloc ?_ _) | (with_reducible refine Kd.C_drewN ?_ _) | (with_reducible refine Kd.C_drew ?_))); (case side5 => exact HC1.out); rintro e w13 ⟨v568, rfl, ho0, hb⟩; have n0_ := Aside0.mk (Kd.R_elder' (by (with_reducible repeat (first | apply Kd.R_alloc | apply Kd.R_drewN | apply Kd.R_drew)); exact HO561.out) (Kd.R_base ho0) hb); have n1_ := Aside0.mk (Kd.R_elder' (by (with_reducible repeat (first | apply Kd.R_alloc | apply Kd.R_drewN | apply Kd.R_drew)); exact HO565.out) (Kd.R_base ho0) hb); have n2_ := Aside0.mk (Kd.R_lower (Kd.R_new' (Kd.R_new' ho0 (Kd.R_lt (by (with_reducible repeat (first | apply Kd.R_alloc | apply Kd.R_drewN | apply Kd.R_drew)); exact HO561.out))) (Kd.R_lt (by (with_reducible repeat (first | apply Kd.R_alloc | apply Kd.R_drewN | apply Kd.R_drew)); exact HO565.out))) (below_size (by repeat (first | (with_reducible first | exact HB.out | apply below_alloc | apply pw_below_drewN | apply below_drew1) | exact HB.out)))); have n3_ := Aside0.mk (below_step (by repeat (first | (with_reducible first | exact HB.out | apply below_alloc | apply pw_below_drewN | apply below_drew1) | exact HB.out)) hb); clear HO561; clear HO565; clear HB; have HO561 := n0_; have HO565 := n1_; have HO569 := n2_; have HB := n3_; clear n0_ n1_ n2_ n3_; (try clear hb); (try clear hb2); (try clear hk); (try clear hi); (try clear ho0)))
    repeat (go_quiet (first | (go_at_call 10; (with_reducible refine (gangerlaw11_many.calls k _ _ l0 _ _ l1 false _ ?side1 ?side2 ?side3 ?side4 A3.out).mono ?_); (case side1 => repeat (first | exact HR0.out | (with_reducible refine Kd.C_alloc ?_ _) | (with_reducible refine Kd.C_drewN ?_ _) | (with_reducible refine Kd.C_drew ?_))); (case side2 => exact HC0.out); (case side3 => repeat (first | exact HR1.out | (with_reducible refine Kd.C_alloc ?_ _) | (with_reducible refine Kd.C_drewN ?_ _) | (with_reducible refine Kd.C_drew ?_))); (case side4 => exact HC1.out); rintro e w' ⟨rfl, ⟨nd, rfl⟩⟩; (try first | exact ⟨rfl, _, World.drewN_drewN _ _ _⟩ | exact ⟨rfl, _, Eq.trans (World.drewN_drewN _ _ _) (congrArg (World.drewN _) (Nat.add_assoc _ _ _))⟩)) | (go_at_call 16; (with_reducible refine (share_Norms.calls k _ _ l0 t558 t559 _ ?side1 ?side2 ?side3 A7.out).mono ?_); (case side1 => exact Glob.below HG.out (by repeat (first | (with_reducible first | exact HB.out | apply below_alloc | apply pw_below_drewN | apply below_drew1) | exact HB.out))); (case side2 => repeat (first | exact HR0.out | (with_reducible refine Kd.C_alloc ?_ _) | (with_reducible refine Kd.C_drewN ?_ _) | (with_reducible refine Kd.C_drew ?_))); (case side3 => exact HC0.out); rintro e w11 ⟨v560, rfl, ho0, hb⟩; have n0_ := Aside0.mk (Kd.R_lower ho0 (below_size (by repeat (first | (with_reducible first | exact HB.out | apply below_alloc | apply pw_below_drewN | apply below_drew1) | exact HB.out)))); have n1_ := Aside0.mk (below_step (by repeat (first | (with_reducible first | exact HB.out | apply below_alloc | apply pw_below_drewN | apply below_drew1) | exact HB.out)) hb); clear HB; have HO561 := n0_; have HB := n1_; clear n0_ n1_; (try clear hb); (try clear hb2); (try clear hk); (try clear hi); (try clear ho0)) | (go_at_call 13; (with_reducible refine (share_Sums.calls k _ _ l0 _ _ l1 t562 t563 _ ?side1 ?side2 ?side3 ?side4 ?side5 A8.out).mono ?_); (case side1 => exact Glob.below HG.out (by repeat (first | (with_reducible first | exact HB.out | apply below_alloc | apply pw_below_drewN | apply below_drew1) | exact HB.out))); (case side2 => repeat (first | exact (Kd.C_below HR0.out HB.out) | (with_reducible refine Kd.C_alloc ?_ _) | (with_reducible refine Kd.C_drewN ?_ _) | (with_reducible refine Kd.C_drew ?_))); (case side3 => exact HC0.out); (case side4 => repeat (first | exact (Kd.C_below HR1.out HB.out) | (with_reducible refine Kd.C_alloc ?_ _) | (with_reducible refine Kd.C_drewN ?_ _) | (with_reducible refine Kd.C_drew ?_))); (case side5 => exact HC1.out); rintro e w12 ⟨v564, rfl, ho0, hb⟩; have n0_ := Aside0.mk (Kd.R_elder' (by (with_reducible repeat (first | apply Kd.R_alloc | apply Kd.R_drewN | apply Kd.R_drew)); exact HO561.out) (Kd.R_base ho0) hb); have n1_ := Aside0.mk (Kd.R_lower (Kd.R_new' ho0 (Kd.R_lt (by (with_reducible repeat (first | apply Kd.R_alloc | apply Kd.R_drewN | apply Kd.R_drew)); exact HO561.out))) (below_size (by repeat (first | (with_reducible first | exact HB.out | apply below_alloc | apply pw_below_drewN | apply below_drew1) | exact HB.out)))); have n2_ := Aside0.mk (below_step (by repeat (first | (with_reducible first | exact HB.out | apply below_alloc | apply pw_below_drewN | apply below_drew1) | exact HB.out)) hb); clear HO561; clear HB; have HO561 := n0_; have HO565 := n1_; have HB := n2_; clear n0_ n1_ n2_; (try clear hb); (try clear hb2); (try clear hk); (try clear hi); (try clear ho0)) | (go_at_call 20; (with_reducible refine (share_Factors.calls k _ _ l0 _ _ l1 t566 t567 _ ?side1 ?side2 ?side3 ?side4 ?side5 A9.out).mono ?_); (case side1 => exact Glob.below HG.out (by repeat (first | (with_reducible first | exact HB.out | apply below_alloc | apply pw_below_drewN | apply below_drew1) | exact HB.out))); (case side2 => repeat (first | exact (Kd.C_below HR0.out HB.out) | (with_reducible refine Kd.C_alloc ?_ _) | (with_reducible refine Kd.C_drewN ?_ _) | (with_reducible refine Kd.C_drew ?_))); (case side3 => exact HC0.out); (case side4 => repeat (first | exact (Kd.C_below HR1.out HB.out) | (with_reducible refine Kd.C_alloc ?_ _) | (with_reducible refine Kd.C_drewN ?_ _) | (with_reducible refine Kd.C_drew ?_))); (case side5 => exact HC1.out); rintro e w13 ⟨v568, rfl, ho0, hb⟩; have n0_ := Aside0.mk (Kd.R_elder' (by (with_reducible repeat (first | apply Kd.R_alloc | apply Kd.R_drewN | apply Kd.R_drew)); exact HO561.out) (Kd.R_base ho0) hb); have n1_ := Aside0.mk (Kd.R_elder' (by (with_reducible repeat (first | apply Kd.R_alloc | apply Kd.R_drewN | apply Kd.R_drew)); exact HO565.out) (Kd.R_base ho0) hb); have n2_ := Aside0.mk (Kd.R_lower (Kd.R_new' (Kd.R_new' ho0 (Kd.R_lt (by (with_reducible repeat (first | apply Kd.R_alloc | apply Kd.R_drewN | apply Kd.R_drew)); exact HO561.out))) (Kd.R_lt (by (with_reducible repeat (first | apply Kd.R_alloc | apply Kd.R_drewN | apply Kd.R_drew)); exact HO565.out))) (below_size (by repeat (first | (with_reducible first | exact HB.out | apply below_alloc | apply pw_below_drewN | apply below_drew1) | exact HB.out)))); have n3_ := Aside0.mk (below_step (by repeat (first | (with_reducible first | exact HB.out | apply below_alloc | apply pw_below_drewN | apply below_drew1) | exact HB.out)) hb); clear HO561; clear HO565; clear HB; have HO561 := n0_; have HO565 := n1_; have HO569 := n2_; have HB := n3_; clear n0_ n1_ n2_ n3_; (try clear hb); (try clear hb2); (try clear hk); (try clear hi); (try clear ho0))); go_upto_region 6 with (first | (go_at_call 10; (with_reducible refine (gangerlaw11_many.calls k _ _ l0 _ _ l1 false _ ?side1 ?side2 ?side3 ?side4 A3.out).mono ?_); (case side1 => repeat (first | exact HR0.out | (with_reducible refine Kd.C_alloc ?_ _) | (with_reducible refine Kd.C_drewN ?_ _) | (with_reducible refine Kd.C_drew ?_))); (case side2 => exact HC0.out); (case side3 => repeat (first | exact HR1.out | (with_reducible refine Kd.C_alloc ?_ _) | (with_reducible refine Kd.C_drewN ?_ _) | (with_reducible refine Kd.C_drew ?_))); (case side4 => exact HC1.out); rintro e w' ⟨rfl, ⟨nd, rfl⟩⟩; (try first | exact ⟨rfl, _, World.drewN_drewN _ _ _⟩ | exact ⟨rfl, _, Eq.trans (World.drewN_drewN _ _ _) (congrArg (World.drewN _) (Nat.add_assoc _ _ _))⟩)) | (go_at_call 16; (with_reducible refine (share_Norms.calls k _ _ l0 t558 t559 _ ?side1 ?side2 ?side3 A7.out).mono ?_); (case side1 => exact Glob.below HG.out (by repeat (first | (with_reducible first | exact HB.out | apply below_alloc | apply pw_below_drewN | apply below_drew1) | exact HB.out))); (case side2 => repeat (first | exact HR0.out | (with_reducible refine Kd.C_alloc ?_ _) | (with_reducible refine Kd.C_drewN ?_ _) | (with_reducible refine Kd.C_drew ?_))); (case side3 => exact HC0.out); rintro e w11 ⟨v560, rfl, ho0, hb⟩; have n0_ := Aside0.mk (Kd.R_lower ho0 (below_size (by repeat (first | (with_reducible first | exact HB.out | apply below_alloc | apply pw_below_drewN | apply below_drew1) | exact HB.out)))); have n1_ := Aside0.mk (below_step (by repeat (first | (with_reducible first | exact HB.out | apply below_alloc | apply pw_below_drewN | apply below_drew1) | exact HB.out)) hb); clear HB; have HO561 := n0_; have HB := n1_; clear n0_ n1_; (try clear hb); (try clear hb2); (try clear hk); (try clear hi); (try clear ho0)) | (go_at_call 13; (with_reducible refine (share_Sums.calls k _ _ l0 _ _ l1 t562 t563 _ ?side1 ?side2 ?side3 ?side4 ?side5 A8.out).mono ?_); (case side1 => exact Glob.below HG.out (by repeat (first | (with_reducible first | exact HB.out | apply below_alloc | apply pw_below_drewN | apply below_drew1) | exact HB.out))); (case side2 => repeat (first | exact (Kd.C_below HR0.out HB.out) | (with_reducible refine Kd.C_alloc ?_ _) | (with_reducible refine Kd.C_drewN ?_ _) | (with_reducible refine Kd.C_drew ?_))); (case side3 => exact HC0.out); (case side4 => repeat (first | exact (Kd.C_below HR1.out HB.out) | (with_reducible refine Kd.C_alloc ?_ _) | (with_reducible refine Kd.C_drewN ?_ _) | (with_reducible refine Kd.C_drew ?_))); (case side5 => exact HC1.out); rintro e w12 ⟨v564, rfl, ho0, hb⟩; have n0_ := Aside0.mk (Kd.R_elder' (by (with_reducible repeat (first | apply Kd.R_alloc | apply Kd.R_drewN | apply Kd.R_drew)); exact HO561.out) (Kd.R_base ho0) hb); have n1_ := Aside0.mk (Kd.R_lower (Kd.R_new' ho0 (Kd.R_lt (by (with_reducible repeat (first | apply Kd.R_alloc | apply Kd.R_drewN | apply Kd.R_drew)); exact HO561.out))) (below_size (by repeat (first | (with_reducible first | exact HB.out | apply below_alloc | apply pw_below_drewN | apply below_drew1) | exact HB.out)))); have n2_ := Aside0.mk (below_step (by repeat (first | (with_reducible first | exact HB.out | apply below_alloc | apply pw_below_drewN | apply below_drew1) | exact HB.out)) hb); clear HO561; clear HB; have HO561 := n0_; have HO565 := n1_; have HB := n2_; clear n0_ n1_ n2_; (try clear hb); (try clear hb2); (try clear hk); (try clear hi); (try clear ho0)) | (go_at_call 20; (with_reducible refine (share_Factors.calls k _ _ l0 _ _ l1 t566 t567 _ ?side1 ?side2 ?side3 ?side4 ?side5 A9.out).mono ?_); (case side1 => exact Glob.below HG.out (by repeat (first | (with_reducible first | exact HB.out | apply below_alloc | apply pw_below_drewN | apply below_drew1) | exact HB.out))); (case side2 => repeat (first | exact (Kd.C_below HR0.out HB.out) | (with_reducible refine Kd.C_alloc ?_ _) | (with_reducible refine Kd.C_drewN ?_ _) | (with_reducible refine Kd.C_drew ?_))); (case side3 => exact HC0.out); (case side4 => repeat (first | exact (Kd.C_below HR1.out HB.out) | (with_reducible refine Kd.C_alloc ?_ _) | (with_reducible refine Kd.C_drewN ?_ _) | (with_reducible refine Kd.C_drew ?_))); (case side5 => exact HC1.out); rintro e w13 ⟨v568, rfl, ho0, hb⟩; have n0_ := Aside0.mk (Kd.R_elder' (by (with_reducible repeat (first | apply Kd.R_alloc | apply Kd.R_drewN | apply Kd.R_drew)); exact HO561.out) (Kd.R_base ho0) hb); have n1_ := Aside0.mk (Kd.R_elder' (by (with_reducible repeat (first | apply Kd.R_alloc | apply Kd.R_drewN | apply Kd.R_drew)); exact HO565.out) (Kd.R_base ho0) hb); have n2_ := Aside0.mk (Kd.R_lower (Kd.R_new' (Kd.R_new' ho0 (Kd.R_lt (by (with_reducible repeat (first | apply Kd.R_alloc | apply Kd.R_drewN | apply Kd.R_drew)); exact HO561.out))) (Kd.R_lt (by (with_reducible repeat (first | apply Kd.R_alloc | apply Kd.R_drewN | apply Kd.R_drew)); exact HO565.out))) (below_size (by repeat (first | (with_reducible first | exact HB.out | apply below_alloc | apply pw_below_drewN | apply below_drew1) | exact HB.out)))); have n3_ := Aside0.mk (below_step (by repeat (first | (with_reducible first | exact HB.out | apply below_alloc | apply pw_below_drewN | apply below_drew1) | exact HB.out)) hb); clear HO561; clear HO565; clear HB; have HO561 := n0_; have HO565 := n1_; have HO569 := n2_; have HB := n3_; clear n0_ n1_ n2_ n3_; (try clear hb); (try clear hb2); (try clear hk); (try clear hi); (try clear ho0))))
    (try simp only [Act.put, List.setIfInBounds_toArray, List.set_cons_zero, List.set_cons_succ])
    go_cut [43] (fun v43 wc => ∃ (kq : Nat) (x43_9 : Bool), v43 = .bool x43_9 ∧ Aside0 (gangerlaw11_ShareAlike.j0 kq l0 t558 t562 t566 x43_9 = some r) ∧ Aside0 (kq ≤ k) ∧ Aside0 (Kd.R (Kd.int .i64) 3 wc w.heap.size (fun k_ => some k_ ≠ (v564 : Value).ownBlock ∧ some k_ ≠ (v568 : Value).ownBlock) v560 t558) ∧ Aside0 (Kd.R (Kd.int .i64) 3 wc w.heap.size (fun k_ => some k_ ≠ (v560 : Value).ownBlock ∧ some k_ ≠ (v568 : Value).ownBlock) v564 t562) ∧ Aside0 (Kd.R (Kd.int .i64) 3 wc w.heap.size (fun k_ => some k_ ≠ (v560 : Value).ownBlock ∧ some k_ ≠ (v564 : Value).ownBlock) v568 t566) ∧ Aside0 (Below w.heap.size w wc))
    case first =>
      have H := HC10.out
      clear HC10
      by_cases c14 : t559 = 0
      · rw [if_pos c14] at H
        have c14b0 : (t559 == 0) = true := beq_iff_eq.mpr c14
        have c14b1 : (t559 != 0) = false := bne_eq_false_iff_eq.mpr c14
        clear c14
        (first | rw [c14b0] | (simp only [i64_w, i32_w]; rw [c14b0]) | skip)
        by_cases c15 : t563 = 0
        · rw [if_pos c15] at H
          have c15b0 : (t563 == 0) = true := beq_iff_eq.mpr c15
          have c15b1 : (t563 != 0) = false := bne_eq_false_iff_eq.mpr c15
          clear c15
          have H' := Aside0.mk H
          clear H
          go_wp2
          repeat (go_quiet (fail); try go_wp2)
          go_meet
          case rel => exact ⟨_, ((t567 != 0)), (by first | rfl | (simp; done) | (simp [*]; done)), H', ⟨by first | omega | exact Nat.le_refl _⟩, ⟨by (with_reducible repeat (first | apply Kd.R_alloc | apply Kd.R_drewN | apply Kd.R_drew)); exact Kd.R_mono HO561.out (fun _ hk => ⟨hk.1.2, hk.2⟩)⟩, ⟨by (with_reducible repeat (first | apply Kd.R_alloc | apply Kd.R_drewN | apply Kd.R_drew)); exact Kd.R_mono HO565.out (fun _ hk => ⟨hk.1.2, hk.2⟩)⟩, ⟨by (with_reducible repeat (first | apply Kd.R_alloc | apply Kd.R_drewN | apply Kd.R_drew)); exact Kd.R_mono HO569.out (fun _ hk => ⟨hk.1.2, hk.2⟩)⟩, ⟨by repeat (first | (with_reducible first | exact HB.out | apply below_alloc | apply pw_below_drewN | apply below_drew1) | exact HB.out)⟩⟩
        · rw [if_neg c15] at H
          have c15b0 : (t563 == 0) = false := beq_eq_false_iff_ne.mpr c15
          have c15b1 : (t563 != 0) = true := bne_iff_ne.mpr c15
          have H' := Aside0.mk H
          clear H
          go_wp2
          repeat (go_quiet (fail); try go_wp2)
          go_meet
          case rel => exact ⟨_, (true), (by first | rfl | (simp; done) | (simp [*]; done)), H', ⟨by first | omega | exact Nat.le_refl _⟩, ⟨by (with_reducible repeat (first | apply Kd.R_alloc | apply Kd.R_drewN | apply Kd.R_drew)); exact Kd.R_mono HO561.out (fun _ hk => ⟨hk.1.2, hk.2⟩)⟩, ⟨by (with_reducible repeat (first | apply Kd.R_alloc | apply Kd.R_drewN | apply Kd.R_drew)); exact Kd.R_mono HO565.out (fun _ hk => ⟨hk.1.2, hk.2⟩)⟩, ⟨by (with_reducible repeat (first | apply Kd.R_alloc | apply Kd.R_drewN | apply Kd.R_drew)); exact Kd.R_mono HO569.out (fun _ hk => ⟨hk.1.2, hk.2⟩)⟩, ⟨by repeat (first | (with_reducible first | exact HB.out | apply below_alloc | apply pw_below_drewN | apply below_drew1) | exact HB.out)⟩⟩
      · rw [if_neg c14] at H
        have c14b0 : (t559 == 0) = false := beq_eq_false_iff_ne.mpr c14
        have c14b1 : (t559 != 0) = true := bne_iff_ne.mpr c14
        (first | rw [c14b0] | (simp only [i64_w, i32_w]; rw [c14b0]) | skip)
        have H' := Aside0.mk H
        clear H
        go_wp2
        repeat (go_quiet (fail); try go_wp2)
        go_meet
        case rel => exact ⟨_, (true), (by first | rfl | (simp; done) | (simp [*]; done)), H', ⟨by first | omega | exact Nat.le_refl _⟩, ⟨by (with_reducible repeat (first | apply Kd.R_alloc | apply Kd.R_drewN | apply Kd.R_drew)); exact Kd.R_mono HO561.out (fun _ hk => ⟨hk.1.2, hk.2⟩)⟩, ⟨by (with_reducible repeat (first | apply Kd.R_alloc | apply Kd.R_drewN | apply Kd.R_drew)); exact Kd.R_mono HO565.out (fun _ hk => ⟨hk.1.2, hk.2⟩)⟩, ⟨by (with_reducible repeat (first | apply Kd.R_alloc | apply Kd.R_drewN | apply Kd.R_drew)); exact Kd.R_mono HO569.out (fun _ hk => ⟨hk.1.2, hk.2⟩)⟩, ⟨by repeat (first | (with_reducible first | exact HB.out | apply below_alloc | apply pw_below_drewN | apply below_drew1) | exact HB.out)⟩⟩
    case rest =>
      clear HC10
      try clear c1
      try clear p2
      try clear c4
      try clear c8
      try clear c14
      try clear c14b0
      try clear c14b1
      try clear c15
      try clear c15b0
      try clear c15b1
      obtain ⟨kq, x43_9, rfl, HA, HJ9, HO_5, HO_7, HO_9, HB⟩ := hcut
      cases kq with
      | zero => exact absurd HA.out (by simp [gangerlaw11_ShareAlike.j0])
      | succ kj9 =>
        have H := HA.out
        clear HA
        simp only [gangerlaw11_ShareAlike.j0] at H
        by_cases c16 : x43_9 = true
        · subst c16
          have H1 : ((gangerlaw11_known.f kj9).bind fun t570 => (some t570)) = some r := by rw [if_pos rfl] at H; exact H
          clear H
          have H := H1
          clear H1
          replace H := Option.bind_eq_some_iff.mp H
          obtain ⟨t570, A170, H⟩ := H
          replace H : (some t570) = some r := H
          have A17 := Aside0.mk A170
          clear A170
          obtain rfl := Option.some.inj H
          go_wp2_with (first | (go_at_call 11; (with_reducible refine (gangerlaw11_known.calls kj9  t570 _ ?side1 A17.out).mono ?_); (case side1 => exact Glob.below HG.out (by repeat (first | (with_reducible first | exact HB.out | apply below_alloc | apply pw_below_drewN | apply below_drew1) | exact HB.out))); rintro e w18 ⟨rfl, hb⟩; have n0_ := Aside0.mk (Kd.R_below (by (with_reducible repeat (first | apply Kd.R_alloc | apply Kd.R_drewN | apply Kd.R_drew)); exact HO_5.out) hb); have n1_ := Aside0.mk (Kd.R_below (by (with_reducible repeat (first | apply Kd.R_alloc | apply Kd.R_drewN | apply Kd.R_drew)); exact HO_7.out) hb); have n2_ := Aside0.mk (Kd.R_below (by (with_reducible repeat (first | apply Kd.R_alloc | apply Kd.R_drewN | apply Kd.R_drew)); exact HO_9.out) hb); have n3_ := Aside0.mk (below_step (by repeat (first | (with_reducible first | exact HB.out | apply below_alloc | apply pw_below_drewN | apply below_drew1) | exact HB.out)) hb); clear HO_5; clear HO_7; clear HO_9; clear HB; have HO_5 := n0_; have HO_7 := n1_; have HO_9 := n2_; have HB := n3_; clear n0_ n1_ n2_ n3_; (try clear hb); (try clear hb2); (try clear hk); (try clear hi)))
          repeat (go_quiet (first | (go_at_call 11; (with_reducible refine (gangerlaw11_known.calls kj9  t570 _ ?side1 A17.out).mono ?_); (case side1 => exact Glob.below HG.out (by repeat (first | (with_reducible first | exact HB.out | apply below_alloc | apply pw_below_drewN | apply below_drew1) | exact HB.out))); rintro e w18 ⟨rfl, hb⟩; have n0_ := Aside0.mk (Kd.R_below (by (with_reducible repeat (first | apply Kd.R_alloc | apply Kd.R_drewN | apply Kd.R_drew)); exact HO_5.out) hb); have n1_ := Aside0.mk (Kd.R_below (by (with_reducible repeat (first | apply Kd.R_alloc | apply Kd.R_drewN | apply Kd.R_drew)); exact HO_7.out) hb); have n2_ := Aside0.mk (Kd.R_below (by (with_reducible repeat (first | apply Kd.R_alloc | apply Kd.R_drewN | apply Kd.R_drew)); exact HO_9.out) hb); have n3_ := Aside0.mk (below_step (by repeat (first | (with_reducible first | exact HB.out | apply below_alloc | apply pw_below_drewN | apply below_drew1) | exact HB.out)) hb); clear HO_5; clear HO_7; clear HO_9; clear HB; have HO_5 := n0_; have HO_7 := n1_; have HO_9 := n2_; have HB := n3_; clear n0_ n1_ n2_ n3_; (try clear hb); (try clear hb2); (try clear hk); (try clear hi))); try go_wp2_with (first | (go_at_call 11; (with_reducible refine (gangerlaw11_known.calls kj9  t570 _ ?side1 A17.out).mono ?_); (case side1 => exact Glob.below HG.out (by repeat (first | (with_reducible first | exact HB.out | apply below_alloc | apply pw_below_drewN | apply below_drew1) | exact HB.out))); rintro e w18 ⟨rfl, hb⟩; have n0_ := Aside0.mk (Kd.R_below (by (with_reducible repeat (first | apply Kd.R_alloc | apply Kd.R_drewN | apply Kd.R_drew)); exact HO_5.out) hb); have n1_ := Aside0.mk (Kd.R_below (by (with_reducible repeat (first | apply Kd.R_alloc | apply Kd.R_drewN | apply Kd.R_drew)); exact HO_7.out) hb); have n2_ := Aside0.mk (Kd.R_below (by (with_reducible repeat (first | apply Kd.R_alloc | apply Kd.R_drewN | apply Kd.R_drew)); exact HO_9.out) hb); have n3_ := Aside0.mk (below_step (by repeat (first | (with_reducible first | exact HB.out | apply below_alloc | apply pw_below_drewN | apply below_drew1) | exact HB.out)) hb); clear HO_5; clear HO_7; clear HO_9; clear HB; have HO_5 := n0_; have HO_7 := n1_; have HO_9 := n2_; have HB := n3_; clear n0_ n1_ n2_ n3_; (try clear hb); (try clear hb2); (try clear hk); (try clear hi))))
          go_ret
          exact ⟨by first | rfl | (simp [errW_none, errW_some] <;> rfl) | (simp [*, errW_none, errW_some] <;> rfl), by repeat (first | (with_reducible first | exact HB.out | apply below_alloc | apply pw_below_drewN | apply below_drew1) | exact HB.out)⟩
        · replace c16 := Bool.eq_false_iff.mpr c16
          subst c16
          have H1 : (if (t558.length : Int) = (l0.length : Int) then (if (t562.length : Int) = (l0.length : Int) then (gangerlaw11_ShareAlike.j1 kj9 l0 t558 t562 t566 ((t566.length : Int) != (l0.length : Int))) else (gangerlaw11_ShareAlike.j1 kj9 l0 t558 t562 t566 true)) else (gangerlaw11_ShareAlike.j1 kj9 l0 t558 t562 t566 true)) = some r := by rw [if_neg (show ¬ (false = true) by decide)] at H; exact H
          clear H
          have H := H1
          clear H1
          have HC19 := Aside0.mk H
          clear H
          go_upto_region 8 with (fail)
          repeat (go_quiet (fail); go_upto_region 8 with (fail))
          go_cut [63] (fun v63 wc => ∃ (kq : Nat) (x63_18 : Bool), v63 = .bool x63_18 ∧ Aside0 (gangerlaw11_ShareAlike.j1 kq l0 t558 t562 t566 x63_18 = some r) ∧ Aside0 (kq ≤ kj9) ∧ Aside0 (Kd.R (Kd.int .i64) 3 wc w.heap.size (fun k_ => some k_ ≠ (v564 : Value).ownBlock ∧ some k_ ≠ (v568 : Value).ownBlock) v560 t558) ∧ Aside0 (Kd.R (Kd.int .i64) 3 wc w.heap.size (fun k_ => some k_ ≠ (v560 : Value).ownBlock ∧ some k_ ≠ (v568 : Value).ownBlock) v564 t562) ∧ Aside0 (Kd.R (Kd.int .i64) 3 wc w.heap.size (fun k_ => some k_ ≠ (v560 : Value).ownBlock ∧ some k_ ≠ (v564 : Value).ownBlock) v568 t566) ∧ Aside0 (Below w.heap.size w wc))
          case first =>
            have H := HC19.out
            clear HC19
            by_cases c20 : (t558.length : Int) = (l0.length : Int)
            · rw [if_pos c20] at H
              have c20b0 : ((t558.length : Int) == (l0.length : Int)) = true := beq_iff_eq.mpr c20
              have c20b1 : ((t558.length : Int) != (l0.length : Int)) = false := bne_eq_false_iff_eq.mpr c20
              have c20b2 : (t558.length == l0.length) = true := by first | simpa using c20 | (simp at c20 ⊢; omega)
              clear c20
              (first | rw [c20b0] | (simp only [i64_w, i32_w]; rw [c20b0]) | skip)
              by_cases c21 : (t562.length : Int) = (l0.length : Int)
              · rw [if_pos c21] at H
                have c21b0 : ((t562.length : Int) == (l0.length : Int)) = true := beq_iff_eq.mpr c21
                have c21b1 : ((t562.length : Int) != (l0.length : Int)) = false := bne_eq_false_iff_eq.mpr c21
                have c21b2 : (t562.length == l0.length) = true := by first | simpa using c21 | (simp at c21 ⊢; omega)
                clear c21
                have H' := Aside0.mk H
                clear H
                obtain ⟨Ao22, co22, eo22⟩ := Kd.R_slice HO_5.out
                subst eo22
                obtain ⟨Ao23, co23, eo23⟩ := Kd.R_slice HO_7.out
                subst eo23
                obtain ⟨Ao24, co24, eo24⟩ := Kd.R_slice HO_9.out
                subst eo24
                go_wp2
                repeat (go_quiet (fail); try go_wp2)
                go_meet
                case rel => exact ⟨_, (((t566.length : Int) != (l0.length : Int))), (by first | rfl | (simp; done) | (simp [*]; done)), H', ⟨by have := HJ9.out; first | omega | exact Nat.le_refl _⟩, ⟨by (with_reducible repeat (first | apply Kd.R_alloc | apply Kd.R_drewN | apply Kd.R_drew)); exact HO_5.out⟩, ⟨by (with_reducible repeat (first | apply Kd.R_alloc | apply Kd.R_drewN | apply Kd.R_drew)); exact HO_7.out⟩, ⟨by (with_reducible repeat (first | apply Kd.R_alloc | apply Kd.R_drewN | apply Kd.R_drew)); exact HO_9.out⟩, ⟨by repeat (first | (with_reducible first | exact HB.out | apply below_alloc | apply pw_below_drewN | apply below_drew1) | exact HB.out)⟩⟩
              · rw [if_neg c21] at H
                have c21b0 : ((t562.length : Int) == (l0.length : Int)) = false := beq_eq_false_iff_ne.mpr c21
                have c21b1 : ((t562.length : Int) != (l0.length : Int)) = true := bne_iff_ne.mpr c21
                have c21b2 : (t562.length == l0.length) = false := by first | simpa using c21 | (simp at c21 ⊢; omega)
                have H' := Aside0.mk H
                clear H
                obtain ⟨Ao25, co25, eo25⟩ := Kd.R_slice HO_5.out
                subst eo25
                obtain ⟨Ao26, co26, eo26⟩ := Kd.R_slice HO_7.out
                subst eo26
                go_wp2
                repeat (go_quiet (fail); try go_wp2)
                go_meet
                case rel => exact ⟨_, (true), (by first | rfl | (simp; done) | (simp [*]; done)), H', ⟨by have := HJ9.out; first | omega | exact Nat.le_refl _⟩, ⟨by (with_reducible repeat (first | apply Kd.R_alloc | apply Kd.R_drewN | apply Kd.R_drew)); exact HO_5.out⟩, ⟨by (with_reducible repeat (first | apply Kd.R_alloc | apply Kd.R_drewN | apply Kd.R_drew)); exact HO_7.out⟩, ⟨by (with_reducible repeat (first | apply Kd.R_alloc | apply Kd.R_drewN | apply Kd.R_drew)); exact HO_9.out⟩, ⟨by repeat (first | (with_reducible first | exact HB.out | apply below_alloc | apply pw_below_drewN | apply below_drew1) | exact HB.out)⟩⟩
            · rw [if_neg c20] at H
              have c20b0 : ((t558.length : Int) == (l0.length : Int)) = false := beq_eq_false_iff_ne.mpr c20
              have c20b1 : ((t558.length : Int) != (l0.length : Int)) = true := bne_iff_ne.mpr c20
              have c20b2 : (t558.length == l0.length) = false := by first | simpa using c20 | (simp at c20 ⊢; omega)
              (first | rw [c20b0] | (simp only [i64_w, i32_w]; rw [c20b0]) | skip)
              have H' := Aside0.mk H
              clear H
              obtain ⟨Ao27, co27, eo27⟩ := Kd.R_slice HO_5.out
              subst eo27
              go_wp2
              repeat (go_quiet (fail); try go_wp2)
              go_meet
              case rel => exact ⟨_, (true), (by first | rfl | (simp; done) | (simp [*]; done)), H', ⟨by have := HJ9.out; first | omega | exact Nat.le_refl _⟩, ⟨by (with_reducible repeat (first | apply Kd.R_alloc | apply Kd.R_drewN | apply Kd.R_drew)); exact HO_5.out⟩, ⟨by (with_reducible repeat (first | apply Kd.R_alloc | apply Kd.R_drewN | apply Kd.R_drew)); exact HO_7.out⟩, ⟨by (with_reducible repeat (first | apply Kd.R_alloc | apply Kd.R_drewN | apply Kd.R_drew)); exact HO_9.out⟩, ⟨by repeat (first | (with_reducible first | exact HB.out | apply below_alloc | apply pw_below_drewN | apply below_drew1) | exact HB.out)⟩⟩
          case rest =>
            clear HC19
            try clear c1
            try clear c2
            try clear p2
            try clear c4
            try clear c8
            try clear c14
            try clear c14b0
            try clear c14b1
            try clear c15
            try clear c15b0
            try clear c15b1
            try clear c16
            try clear c20
            try clear c20b0
            try clear c20b1
            try clear c20b2
            try clear c21
            try clear c21b0
            try clear c21b1
            try clear c21b2
            try clear p2
            obtain ⟨kq, x63_18, rfl, HA, HJ18, HO_5, HO_7, HO_9, HB⟩ := hcut
            cases kq with
            | zero => exact absurd HA.out (by simp [gangerlaw11_ShareAlike.j1])
            | succ kj18 =>
              have H := HA.out
              clear HA
              simp only [gangerlaw11_ShareAlike.j1] at H
              by_cases c28 : x63_18 = true
              · subst c28
                have H1 : (none) = some r := by rw [if_pos rfl] at H; exact H
                clear H
                have H := H1
                clear H1
                exact absurd H (by simp)
              · replace c28 := Bool.eq_false_iff.mpr c28
                subst c28
                have H1 : (gangerlaw11_ShareAlike.l0 kj18 l0 t558 t562 t566 0) = some r := by rw [if_neg (show ¬ (false = true) by decide)] at H; exact H
                clear H
                have H := H1
                clear H1
                have H' := Aside0.mk H
                clear H
                go_wp2
                repeat (go_quiet (fail); try go_wp2)
                go_loopg [11] kj18 (fun kq v11 w' => ∃ (x11_3 : Int), v11 = .int .i64 x11_3 ∧ Aside0 (gangerlaw11_ShareAlike.l0 kq l0 t558 t562 t566 x11_3 = some r) ∧ Aside0 (kq ≤ kj18) ∧ Aside0 (Kd.R (Kd.int .i64) 3 w' w.heap.size (fun k_ => some k_ ≠ (v564 : Value).ownBlock ∧ some k_ ≠ (v568 : Value).ownBlock) v560 t558) ∧ Aside0 (Kd.R (Kd.int .i64) 3 w' w.heap.size (fun k_ => some k_ ≠ (v560 : Value).ownBlock ∧ some k_ ≠ (v568 : Value).ownBlock) v564 t562) ∧ Aside0 (Kd.R (Kd.int .i64) 3 w' w.heap.size (fun k_ => some k_ ≠ (v560 : Value).ownBlock ∧ some k_ ≠ (v564 : Value).ownBlock) v568 t566) ∧ Aside0 (Below w.heap.size w w'))
                case atStart => exact ⟨(0), (by first | rfl | (simp; done) | (simp [*]; done)), H', ⟨Nat.le_refl _⟩, ⟨by (with_reducible repeat (first | apply Kd.R_alloc | apply Kd.R_drewN | apply Kd.R_drew)); exact HO_5.out⟩, ⟨by (with_reducible repeat (first | apply Kd.R_alloc | apply Kd.R_drewN | apply Kd.R_drew)); exact HO_7.out⟩, ⟨by (with_reducible repeat (first | apply Kd.R_alloc | apply Kd.R_drewN | apply Kd.R_drew)); exact HO_9.out⟩, ⟨by repeat (first | (with_reducible first | exact HB.out | apply below_alloc | apply pw_below_drewN | apply below_drew1) | exact HB.out)⟩⟩
                case round =>
                  clear H'
                  try clear c1
                  try clear c2
                  try clear p2
                  try clear c4
                  try clear c8
                  try clear c14
                  try clear c14b0
                  try clear c14b1
                  try clear c15
                  try clear c15b0
                  try clear c15b1
                  try clear c16
                  try clear c20
                  try clear c20b0
                  try clear c20b1
                  try clear c20b2
                  try clear c21
                  try clear c21b0
                  try clear c21b1
                  try clear c21b2
                  try clear c28
                  try clear p2
                  obtain ⟨x11_3, rfl, HA, HK3, HO_5, HO_7, HO_9, HB⟩ := hrel
                  cases gk with
                  | zero => exact absurd HA.out (by simp [gangerlaw11_ShareAlike.l0])
                  | succ k3 =>
                    have H := HA.out
                    clear HA
                    simp only [gangerlaw11_ShareAlike.l0] at H
                    by_cases c29 : x11_3 < (l0.length : Int)
                    · rw [if_pos c29] at H
                      have c29b0 : decide (x11_3 < (l0.length : Int)) = true := decide_eq_true c29
                      clear c29
                      have H' := Aside0.mk H
                      clear H
                      go_wp2
                      repeat (go_quiet (fail); try go_wp2)
                      go_loopg [12] k3 (fun kq v12 w' => ∃ (x12_4 : Int), v12 = .int .i64 x12_4 ∧ Aside0 (gangerlaw11_ShareAlike.l1 kq l0 t558 t562 t566 x11_3 x12_4 = some r) ∧ Aside0 (kq ≤ k3) ∧ Aside0 (Kd.R (Kd.int .i64) 3 w' w.heap.size (fun k_ => some k_ ≠ (v564 : Value).ownBlock ∧ some k_ ≠ (v568 : Value).ownBlock) v560 t558) ∧ Aside0 (Kd.R (Kd.int .i64) 3 w' w.heap.size (fun k_ => some k_ ≠ (v560 : Value).ownBlock ∧ some k_ ≠ (v568 : Value).ownBlock) v564 t562) ∧ Aside0 (Kd.R (Kd.int .i64) 3 w' w.heap.size (fun k_ => some k_ ≠ (v560 : Value).ownBlock ∧ some k_ ≠ (v564 : Value).ownBlock) v568 t566) ∧ Aside0 (Below w.heap.size w w'))
                      case atStart => exact ⟨(0), (by first | rfl | (simp; done) | (simp [*]; done)), H', ⟨Nat.le_refl _⟩, ⟨by (with_reducible repeat (first | apply Kd.R_alloc | apply Kd.R_drewN | apply Kd.R_drew)); exact HO_5.out⟩, ⟨by (with_reducible repeat (first | apply Kd.R_alloc | apply Kd.R_drewN | apply Kd.R_drew)); exact HO_7.out⟩, ⟨by (with_reducible repeat (first | apply Kd.R_alloc | apply Kd.R_drewN | apply Kd.R_drew)); exact HO_9.out⟩, ⟨by repeat (first | (with_reducible first | exact HB.out | apply below_alloc | apply pw_below_drewN | apply below_drew1) | exact HB.out)⟩⟩
                      case round =>
                        clear H'
                        try clear c1
                        try clear c2
                        try clear p2
                        try clear c4
                        try clear c8
                        try clear c14
                        try clear c14b0
                        try clear c14b1
                        try clear c15
                        try clear c15b0
                        try clear c15b1
                        try clear c16
                        try clear c20
                        try clear c20b0
                        try clear c20b1
                        try clear c20b2
                        try clear c21
                        try clear c21b0
                        try clear c21b1
                        try clear c21b2
                        try clear c28
                        try clear c29
                        try clear c29b0
                        try clear p2
                        obtain ⟨x12_4, rfl, HA, HK4, HO_5, HO_7, HO_9, HB⟩ := hrel
                        cases gk with
                        | zero => exact absurd HA.out (by simp [gangerlaw11_ShareAlike.l1])
                        | succ k4 =>
                          have H := HA.out
                          clear HA
                          simp only [gangerlaw11_ShareAlike.l1] at H
                          by_cases c30 : x12_4 < (l0.length : Int)
                          · rw [if_pos c30] at H
                            have c30b0 : decide (x12_4 < (l0.length : Int)) = true := decide_eq_true c30
                            clear c30
                            by_cases c31 : 0 ≤ x11_3
                            · rw [if_pos c31] at H
                              have c31b0 : decide (0 ≤ x11_3) = true := decide_eq_true c31
                              clear c31
                              by_cases c32 : x11_3 < (l0.length : Int)
                              · rw [if_pos c32] at H
                                have c32b0 : decide (x11_3 < (l0.length : Int)) = true := decide_eq_true c32
                                clear c32
                                by_cases c33 : 0 ≤ x12_4
                                · rw [if_pos c33] at H
                                  have c33b0 : decide (0 ≤ x12_4) = true := decide_eq_true c33
                                  clear c33
                                  by_cases c34 : ((rd_T37 l0 x11_3).f1).toList = ((rd_T37 l0 x12_4).f1).toList
                                  · rw [if_pos c34] at H
                                    have c34b0 : (((rd_T37 l0 x11_3).f1).toList == ((rd_T37 l0 x12_4).f1).toList) = true := beq_iff_eq.mpr c34
                                    have c34b1 : (((rd_T37 l0 x11_3).f1).toList != ((rd_T37 l0 x12_4).f1).toList) = false := bne_eq_false_iff_eq.mpr c34
                                    clear c34
                                    have HC35 := Aside0.mk H
                                    clear H
                                    have p572 : 0 ≤ (x11_3 : Int) := of_decide_eq_true (by first | (with_reducible assumption) | assumption)
                                    have q572 : x11_3 < (l0.length : Int) := of_decide_eq_true (by first | (with_reducible assumption) | assumption)
                                    obtain ⟨ad572, e572, hx572_0, hx572_1, hx572_2⟩ := at_T37 HR0.out x11_3 p572 q572
                                    cases e572
                                    replace hx572_0 := (HB.out.cell (World.block_lt_of_cell? w _ hx572_0)).trans hx572_0
                                    replace hx572_1 := (HB.out.cell (World.block_lt_of_cell? w _ hx572_1)).trans hx572_1
                                    replace hx572_2 := (HB.out.cell (World.block_lt_of_cell? w _ hx572_2)).trans hx572_2
                                    replace p572 := eq_true p572
                                    replace q572 := eq_true q572
                                    have p573 : 0 ≤ (x12_4 : Int) := of_decide_eq_true (by first | (with_reducible assumption) | assumption)
                                    have q573 : x12_4 < (l0.length : Int) := of_decide_eq_true (by first | (with_reducible assumption) | assumption)
                                    obtain ⟨ad573, e573, hx573_0, hx573_1, hx573_2⟩ := at_T37 HR0.out x12_4 p573 q573
                                    obtain rfl : ad572 = ad573 := (by injection e573)
                                    replace hx573_0 := (HB.out.cell (World.block_lt_of_cell? w _ hx573_0)).trans hx573_0
                                    replace hx573_1 := (HB.out.cell (World.block_lt_of_cell? w _ hx573_1)).trans hx573_1
                                    replace hx573_2 := (HB.out.cell (World.block_lt_of_cell? w _ hx573_2)).trans hx573_2
                                    replace p573 := eq_true p573
                                    replace q573 := eq_true q573
                                    go_upto_region 17 with (fail)
                                    repeat (go_quiet (fail); go_upto_region 17 with (fail))
                                    go_cut [108] (fun v108 wc => ∃ (kq : Nat) (x108_34 : Bool), v108 = .bool x108_34 ∧ Aside0 (gangerlaw11_ShareAlike.j4 kq l0 t558 t562 t566 x11_3 x12_4 x108_34 = some r) ∧ Aside0 (kq ≤ k4) ∧ Aside0 (Kd.R (Kd.int .i64) 3 wc w.heap.size (fun k_ => some k_ ≠ (v564 : Value).ownBlock ∧ some k_ ≠ (v568 : Value).ownBlock) v560 t558) ∧ Aside0 (Kd.R (Kd.int .i64) 3 wc w.heap.size (fun k_ => some k_ ≠ (v560 : Value).ownBlock ∧ some k_ ≠ (v568 : Value).ownBlock) v564 t562) ∧ Aside0 (Kd.R (Kd.int .i64) 3 wc w.heap.size (fun k_ => some k_ ≠ (v560 : Value).ownBlock ∧ some k_ ≠ (v564 : Value).ownBlock) v568 t566) ∧ Aside0 (Below w.heap.size w wc))
                                    case first =>
                                      have H := HC35.out
                                      clear HC35
                                      by_cases c36 : ((rd_T37 l0 x11_3).f2) ≥ ((rd_T37 l0 x12_4).f2)
                                      · rw [if_pos c36] at H
                                        have c36b0 : decide (((rd_T37 l0 x12_4).f2) ≤ ((rd_T37 l0 x11_3).f2)) = true := decide_eq_true c36
                                        clear c36
                                        (first | rw [c36b0] | (simp only [i64_w, i32_w]; rw [c36b0]) | skip)
                                        by_cases c37 : x11_3 < (t558.length : Int)
                                        · rw [if_pos c37] at H
                                          have c37b0 : decide (x11_3 < (t558.length : Int)) = true := decide_eq_true c37
                                          clear c37
                                          by_cases c38 : x12_4 < (t558.length : Int)
                                          · rw [if_pos c38] at H
                                            have c38b0 : decide (x12_4 < (t558.length : Int)) = true := decide_eq_true c38
                                            clear c38
                                            have H' := Aside0.mk H
                                            clear H
                                            have p574 : 0 ≤ (x11_3 : Int) := of_decide_eq_true (by first | (with_reducible assumption) | assumption)
                                            have q574 : x11_3 < (l0.length : Int) := of_decide_eq_true (by first | (with_reducible assumption) | assumption)
                                            obtain ⟨ad574, e574, hx574_0, hx574_1, hx574_2⟩ := at_T37 HR0.out x11_3 p574 q574
                                            obtain rfl : ad572 = ad574 := (by injection e574)
                                            replace hx574_0 := (HB.out.cell (World.block_lt_of_cell? w _ hx574_0)).trans hx574_0
                                            replace hx574_1 := (HB.out.cell (World.block_lt_of_cell? w _ hx574_1)).trans hx574_1
                                            replace hx574_2 := (HB.out.cell (World.block_lt_of_cell? w _ hx574_2)).trans hx574_2
                                            replace p574 := eq_true p574
                                            replace q574 := eq_true q574
                                            have p575 : 0 ≤ (x12_4 : Int) := of_decide_eq_true (by first | (with_reducible assumption) | assumption)
                                            have q575 : x12_4 < (l0.length : Int) := of_decide_eq_true (by first | (with_reducible assumption) | assumption)
                                            obtain ⟨ad575, e575, hx575_0, hx575_1, hx575_2⟩ := at_T37 HR0.out x12_4 p575 q575
                                            obtain rfl : ad572 = ad575 := (by injection e575)
                                            replace hx575_0 := (HB.out.cell (World.block_lt_of_cell? w _ hx575_0)).trans hx575_0
                                            replace hx575_1 := (HB.out.cell (World.block_lt_of_cell? w _ hx575_1)).trans hx575_1
                                            replace hx575_2 := (HB.out.cell (World.block_lt_of_cell? w _ hx575_2)).trans hx575_2
                                            replace p575 := eq_true p575
                                            replace q575 := eq_true q575
                                            obtain ⟨Ao39, co39, eo39⟩ := Kd.R_slice HO_5.out
                                            subst eo39
                                            have p576 : 0 ≤ (x11_3 : Int) := of_decide_eq_true (by first | (with_reducible assumption) | assumption)
                                            have q576 : x11_3 < (t558.length : Int) := of_decide_eq_true (by first | (with_reducible assumption) | assumption)
                                            obtain ⟨ad576, e576, hx576_0⟩ := Kd.at_int (Kd.R_reads' HO_5.out).2.2 x11_3 p576 q576
                                            cases e576
                                            replace p576 := eq_true p576
                                            replace q576 := eq_true q576
                                            have p577 : 0 ≤ (x12_4 : Int) := of_decide_eq_true (by first | (with_reducible assumption) | assumption)
                                            have q577 : x12_4 < (t558.length : Int) := of_decide_eq_true (by first | (with_reducible assumption) | assumption)
                                            obtain ⟨ad577, e577, hx577_0⟩ := Kd.at_int (Kd.R_reads' HO_5.out).2.2 x12_4 p577 q577
                                            obtain rfl : ad576 = ad577 := (by injection e577)
                                            replace p577 := eq_true p577
                                            replace q577 := eq_true q577
                                            go_wp2
                                            repeat (go_quiet (fail); try go_wp2)
                                            go_meet
                                            case rel => exact ⟨_, (decide ((rd t558 x11_3) < (rd t558 x12_4))), (by first | rfl | (simp; done) | (simp [*]; done)), H', ⟨by have := HJ9.out; have := HJ18.out; have := HK3.out; have := HK4.out; first | omega | exact Nat.le_refl _⟩, ⟨by (with_reducible repeat (first | apply Kd.R_alloc | apply Kd.R_drewN | apply Kd.R_drew)); exact HO_5.out⟩, ⟨by (with_reducible repeat (first | apply Kd.R_alloc | apply Kd.R_drewN | apply Kd.R_drew)); exact HO_7.out⟩, ⟨by (with_reducible repeat (first | apply Kd.R_alloc | apply Kd.R_drewN | apply Kd.R_drew)); exact HO_9.out⟩, ⟨by repeat (first | (with_reducible first | exact HB.out | apply below_alloc | apply pw_below_drewN | apply below_drew1) | exact HB.out)⟩⟩
                                          · rw [if_neg c38] at H
                                            exact absurd H (by simp)
                                        · rw [if_neg c37] at H
                                          exact absurd H (by simp)
                                      · rw [if_neg c36] at H
                                        have c36b0 : decide (((rd_T37 l0 x12_4).f2) ≤ ((rd_T37 l0 x11_3).f2)) = false := decide_eq_false c36
                                        clear c36
                                        (first | rw [c36b0] | (simp only [i64_w, i32_w]; rw [c36b0]) | skip)
                                        have H' := Aside0.mk H
                                        clear H
                                        have p574 : 0 ≤ (x11_3 : Int) := of_decide_eq_true (by first | (with_reducible assumption) | assumption)
                                        have q574 : x11_3 < (l0.length : Int) := of_decide_eq_true (by first | (with_reducible assumption) | assumption)
                                        obtain ⟨ad574, e574, hx574_0, hx574_1, hx574_2⟩ := at_T37 HR0.out x11_3 p574 q574
                                        obtain rfl : ad572 = ad574 := (by injection e574)
                                        replace hx574_0 := (HB.out.cell (World.block_lt_of_cell? w _ hx574_0)).trans hx574_0
                                        replace hx574_1 := (HB.out.cell (World.block_lt_of_cell? w _ hx574_1)).trans hx574_1
                                        replace hx574_2 := (HB.out.cell (World.block_lt_of_cell? w _ hx574_2)).trans hx574_2
                                        replace p574 := eq_true p574
                                        replace q574 := eq_true q574
                                        have p575 : 0 ≤ (x12_4 : Int) := of_decide_eq_true (by first | (with_reducible assumption) | assumption)
                                        have q575 : x12_4 < (l0.length : Int) := of_decide_eq_true (by first | (with_reducible assumption) | assumption)
                                        obtain ⟨ad575, e575, hx575_0, hx575_1, hx575_2⟩ := at_T37 HR0.out x12_4 p575 q575
                                        obtain rfl : ad572 = ad575 := (by injection e575)
                                        replace hx575_0 := (HB.out.cell (World.block_lt_of_cell? w _ hx575_0)).trans hx575_0
                                        replace hx575_1 := (HB.out.cell (World.block_lt_of_cell? w _ hx575_1)).trans hx575_1
                                        replace hx575_2 := (HB.out.cell (World.block_lt_of_cell? w _ hx575_2)).trans hx575_2
                                        replace p575 := eq_true p575
                                        replace q575 := eq_true q575
                                        go_wp2
                                        repeat (go_quiet (fail); try go_wp2)
                                        go_meet
                                        case rel => exact ⟨_, (false), (by first | rfl | (simp; done) | (simp [*]; done)), H', ⟨by have := HJ9.out; have := HJ18.out; have := HK3.out; have := HK4.out; first | omega | exact Nat.le_refl _⟩, ⟨by (with_reducible repeat (first | apply Kd.R_alloc | apply Kd.R_drewN | apply Kd.R_drew)); exact HO_5.out⟩, ⟨by (with_reducible repeat (first | apply Kd.R_alloc | apply Kd.R_drewN | apply Kd.R_drew)); exact HO_7.out⟩, ⟨by (with_reducible repeat (first | apply Kd.R_alloc | apply Kd.R_drewN | apply Kd.R_drew)); exact HO_9.out⟩, ⟨by repeat (first | (with_reducible first | exact HB.out | apply below_alloc | apply pw_below_drewN | apply below_drew1) | exact HB.out)⟩⟩
                                    case rest =>
                                      clear HC35
                                      try clear c1
                                      try clear c2
                                      try clear p2
                                      try clear c3
                                      try clear c4
                                      try clear p5
                                      try clear q5
                                      try clear hx5
                                      try clear c8
                                      try clear c14
                                      try clear c14b0
                                      try clear c14b1
                                      try clear c15
                                      try clear c15b0
                                      try clear c15b1
                                      try clear c16
                                      try clear c20
                                      try clear c20b0
                                      try clear c20b1
                                      try clear c20b2
                                      try clear c21
                                      try clear c21b0
                                      try clear c21b1
                                      try clear c21b2
                                      try clear c28
                                      try clear c29
                                      try clear c29b0
                                      try clear c30
                                      try clear c30b0
                                      try clear c31
                                      try clear c31b0
                                      try clear c32
                                      try clear c32b0
                                      try clear c33
                                      try clear c33b0
                                      try clear c34
                                      try clear c34b0
                                      try clear c34b1
                                      try clear c36
                                      try clear c36b0
                                      try clear c37
                                      try clear c37b0
                                      try clear c38
                                      try clear c38b0
                                      try clear hx572_0
                                      try clear hx572_1
                                      try clear hx572_2
                                      try clear hx573_0
                                      try clear hx573_1
                                      try clear hx573_2
                                      try clear hx574_0
                                      try clear hx574_1
                                      try clear hx574_2
                                      try clear hx575_0
                                      try clear hx575_1
                                      try clear hx575_2
                                      try clear hx576_0
                                      try clear hx577_0
                                      try clear p2
                                      try clear p572
                                      try clear p573
                                      try clear p574
                                      try clear p575
                                      try clear p576
                                      try clear p577
                                      try clear q572
                                      try clear q573
                                      try clear q574
                                      try clear q575
                                      try clear q576
                                      try clear q577
                                      obtain ⟨kq, x108_34, rfl, HA, HJ34, HO_5, HO_7, HO_9, HB⟩ := hcut
                                      cases kq with
                                      | zero => exact absurd HA.out (by simp [gangerlaw11_ShareAlike.j4])
                                      | succ kj34 =>
                                        have H := HA.out
                                        clear HA
                                        simp only [gangerlaw11_ShareAlike.j4] at H
                                        by_cases c40 : x108_34 = true
                                        · subst c40
                                          have H1 : (none) = some r := by rw [if_pos rfl] at H; exact H
                                          clear H
                                          have H := H1
                                          clear H1
                                          exact absurd H (by simp)
                                        · replace c40 := Bool.eq_false_iff.mpr c40
                                          subst c40
                                          have H1 : (if 0 ≤ x11_3 then (if x11_3 < (l0.length : Int) then (if 0 ≤ x12_4 then (if x12_4 < (l0.length : Int) then (if ((rd_T37 l0 x11_3).f2) = ((rd_T37 l0 x12_4).f2) then (if x11_3 < (t562.length : Int) then (if x12_4 < (t562.length : Int) then (if (rd t562 x11_3) = (rd t562 x12_4) then (if x11_3 < (t558.length : Int) then (if x12_4 < (t558.length : Int) then (if (rd t558 x11_3) = (rd t558 x12_4) then (if x11_3 < (t566.length : Int) then (if x12_4 < (t566.length : Int) then (if (rd t566 x11_3) = (rd t566 x12_4) then (gangerlaw11_ShareAlike.l1 kj34 l0 t558 t562 t566 x11_3 (wrap64 (x12_4 + 1))) else (none)) else (none)) else (none)) else (none)) else (none)) else (none)) else (gangerlaw11_ShareAlike.l1 kj34 l0 t558 t562 t566 x11_3 (wrap64 (x12_4 + 1)))) else (none)) else (none)) else (gangerlaw11_ShareAlike.l1 kj34 l0 t558 t562 t566 x11_3 (wrap64 (x12_4 + 1)))) else (none)) else (none)) else (none)) else (none)) = some r := by rw [if_neg (show ¬ (false = true) by decide)] at H; exact H
                                          clear H
                                          have H := H1
                                          clear H1
                                          by_cases c41 : 0 ≤ x11_3
                                          · rw [if_pos c41] at H
                                            have c41b0 : decide (0 ≤ x11_3) = true := decide_eq_true c41
                                            clear c41
                                            by_cases c42 : x11_3 < (l0.length : Int)
                                            · rw [if_pos c42] at H
                                              have c42b0 : decide (x11_3 < (l0.length : Int)) = true := decide_eq_true c42
                                              clear c42
                                              by_cases c43 : 0 ≤ x12_4
                                              · rw [if_pos c43] at H
                                                have c43b0 : decide (0 ≤ x12_4) = true := decide_eq_true c43
                                                clear c43
                                                by_cases c44 : x12_4 < (l0.length : Int)
                                                · rw [if_pos c44] at H
                                                  have c44b0 : decide (x12_4 < (l0.length : Int)) = true := decide_eq_true c44
                                                  clear c44
                                                  by_cases c45 : ((rd_T37 l0 x11_3).f2) = ((rd_T37 l0 x12_4).f2)
                                                  · rw [if_pos c45] at H
                                                    have c45b0 : (((rd_T37 l0 x11_3).f2) == ((rd_T37 l0 x12_4).f2)) = true := beq_iff_eq.mpr c45
                                                    have c45b1 : (((rd_T37 l0 x11_3).f2) != ((rd_T37 l0 x12_4).f2)) = false := bne_eq_false_iff_eq.mpr c45
                                                    clear c45
                                                    by_cases c46 : x11_3 < (t562.length : Int)
                                                    · rw [if_pos c46] at H
                                                      have c46b0 : decide (x11_3 < (t562.length : Int)) = true := decide_eq_true c46
                                                      clear c46
                                                      by_cases c47 : x12_4 < (t562.length : Int)
                                                      · rw [if_pos c47] at H
                                                        have c47b0 : decide (x12_4 < (t562.length : Int)) = true := decide_eq_true c47
                                                        clear c47
                                                        by_cases c48 : (rd t562 x11_3) = (rd t562 x12_4)
                                                        · rw [if_pos c48] at H
                                                          have c48b0 : ((rd t562 x11_3) == (rd t562 x12_4)) = true := beq_iff_eq.mpr c48
                                                          have c48b1 : ((rd t562 x11_3) != (rd t562 x12_4)) = false := bne_eq_false_iff_eq.mpr c48
                                                          clear c48
                                                          by_cases c49 : x11_3 < (t558.length : Int)
                                                          · rw [if_pos c49] at H
                                                            have c49b0 : decide (x11_3 < (t558.length : Int)) = true := decide_eq_true c49
                                                            clear c49
                                                            by_cases c50 : x12_4 < (t558.length : Int)
                                                            · rw [if_pos c50] at H
                                                              have c50b0 : decide (x12_4 < (t558.length : Int)) = true := decide_eq_true c50
                                                              clear c50
                                                              by_cases c51 : (rd t558 x11_3) = (rd t558 x12_4)
                                                              · rw [if_pos c51] at H
                                                                have c51b0 : ((rd t558 x11_3) == (rd t558 x12_4)) = true := beq_iff_eq.mpr c51
                                                                have c51b1 : ((rd t558 x11_3) != (rd t558 x12_4)) = false := bne_eq_false_iff_eq.mpr c51
                                                                clear c51
                                                                by_cases c52 : x11_3 < (t566.length : Int)
                                                                · rw [if_pos c52] at H
                                                                  have c52b0 : decide (x11_3 < (t566.length : Int)) = true := decide_eq_true c52
                                                                  clear c52
                                                                  by_cases c53 : x12_4 < (t566.length : Int)
                                                                  · rw [if_pos c53] at H
                                                                    have c53b0 : decide (x12_4 < (t566.length : Int)) = true := decide_eq_true c53
                                                                    clear c53
                                                                    by_cases c54 : (rd t566 x11_3) = (rd t566 x12_4)
                                                                    · rw [if_pos c54] at H
                                                                      have c54b0 : ((rd t566 x11_3) == (rd t566 x12_4)) = true := beq_iff_eq.mpr c54
                                                                      have c54b1 : ((rd t566 x11_3) != (rd t566 x12_4)) = false := bne_eq_false_iff_eq.mpr c54
                                                                      clear c54
                                                                      have H' := Aside0.mk H
                                                                      clear H
                                                                      have p578 : 0 ≤ (x11_3 : Int) := of_decide_eq_true (by first | (with_reducible assumption) | assumption)
                                                                      have q578 : x11_3 < (l0.length : Int) := of_decide_eq_true (by first | (with_reducible assumption) | assumption)
                                                                      obtain ⟨ad578, e578, hx578_0, hx578_1, hx578_2⟩ := at_T37 HR0.out x11_3 p578 q578
                                                                      obtain rfl : ad572 = ad578 := (by injection e578)
                                                                      replace hx578_0 := (HB.out.cell (World.block_lt_of_cell? w _ hx578_0)).trans hx578_0
                                                                      replace hx578_1 := (HB.out.cell (World.block_lt_of_cell? w _ hx578_1)).trans hx578_1
                                                                      replace hx578_2 := (HB.out.cell (World.block_lt_of_cell? w _ hx578_2)).trans hx578_2
                                                                      replace p578 := eq_true p578
                                                                      replace q578 := eq_true q578
                                                                      have p579 : 0 ≤ (x12_4 : Int) := of_decide_eq_true (by first | (with_reducible assumption) | assumption)
                                                                      have q579 : x12_4 < (l0.length : Int) := of_decide_eq_true (by first | (with_reducible assumption) | assumption)
                                                                      obtain ⟨ad579, e579, hx579_0, hx579_1, hx579_2⟩ := at_T37 HR0.out x12_4 p579 q579
                                                                      obtain rfl : ad572 = ad579 := (by injection e579)
                                                                      replace hx579_0 := (HB.out.cell (World.block_lt_of_cell? w _ hx579_0)).trans hx579_0
                                                                      replace hx579_1 := (HB.out.cell (World.block_lt_of_cell? w _ hx579_1)).trans hx579_1
                                                                      replace hx579_2 := (HB.out.cell (World.block_lt_of_cell? w _ hx579_2)).trans hx579_2
                                                                      replace p579 := eq_true p579
                                                                      replace q579 := eq_true q579
                                                                      obtain ⟨Ao55, co55, eo55⟩ := Kd.R_slice HO_7.out
                                                                      subst eo55
                                                                      have p580 : 0 ≤ (x11_3 : Int) := of_decide_eq_true (by first | (with_reducible assumption) | assumption)
                                                                      have q580 : x11_3 < (t562.length : Int) := of_decide_eq_true (by first | (with_reducible assumption) | assumption)
                                                                      obtain ⟨ad580, e580, hx580_0⟩ := Kd.at_int (Kd.R_reads' HO_7.out).2.2 x11_3 p580 q580
                                                                      cases e580
                                                                      replace p580 := eq_true p580
                                                                      replace q580 := eq_true q580
                                                                      have p581 : 0 ≤ (x12_4 : Int) := of_decide_eq_true (by first | (with_reducible assumption) | assumption)
                                                                      have q581 : x12_4 < (t562.length : Int) := of_decide_eq_true (by first | (with_reducible assumption) | assumption)
                                                                      obtain ⟨ad581, e581, hx581_0⟩ := Kd.at_int (Kd.R_reads' HO_7.out).2.2 x12_4 p581 q581
                                                                      obtain rfl : ad580 = ad581 := (by injection e581)
                                                                      replace p581 := eq_true p581
                                                                      replace q581 := eq_true q581
                                                                      obtain ⟨Ao56, co56, eo56⟩ := Kd.R_slice HO_5.out
                                                                      subst eo56
                                                                      have p582 : 0 ≤ (x11_3 : Int) := of_decide_eq_true (by first | (with_reducible assumption) | assumption)
                                                                      have q582 : x11_3 < (t558.length : Int) := of_decide_eq_true (by first | (with_reducible assumption) | assumption)
                                                                      obtain ⟨ad582, e582, hx582_0⟩ := Kd.at_int (Kd.R_reads' HO_5.out).2.2 x11_3 p582 q582
                                                                      cases e582
                                                                      replace p582 := eq_true p582
                                                                      replace q582 := eq_true q582
                                                                      have p583 : 0 ≤ (x12_4 : Int) := of_decide_eq_true (by first | (with_reducible assumption) | assumption)
                                                                      have q583 : x12_4 < (t558.length : Int) := of_decide_eq_true (by first | (with_reducible assumption) | assumption)
                                                                      obtain ⟨ad583, e583, hx583_0⟩ := Kd.at_int (Kd.R_reads' HO_5.out).2.2 x12_4 p583 q583
                                                                      obtain rfl : ad582 = ad583 := (by injection e583)
                                                                      replace p583 := eq_true p583
                                                                      replace q583 := eq_true q583
                                                                      obtain ⟨Ao57, co57, eo57⟩ := Kd.R_slice HO_9.out
                                                                      subst eo57
                                                                      have p584 : 0 ≤ (x11_3 : Int) := of_decide_eq_true (by first | (with_reducible assumption) | assumption)
                                                                      have q584 : x11_3 < (t566.length : Int) := of_decide_eq_true (by first | (with_reducible assumption) | assumption)
                                                                      obtain ⟨ad584, e584, hx584_0⟩ := Kd.at_int (Kd.R_reads' HO_9.out).2.2 x11_3 p584 q584
                                                                      cases e584
                                                                      replace p584 := eq_true p584
                                                                      replace q584 := eq_true q584
                                                                      have p585 : 0 ≤ (x12_4 : Int) := of_decide_eq_true (by first | (with_reducible assumption) | assumption)
                                                                      have q585 : x12_4 < (t566.length : Int) := of_decide_eq_true (by first | (with_reducible assumption) | assumption)
                                                                      obtain ⟨ad585, e585, hx585_0⟩ := Kd.at_int (Kd.R_reads' HO_9.out).2.2 x12_4 p585 q585
                                                                      obtain rfl : ad584 = ad585 := (by injection e585)
                                                                      replace p585 := eq_true p585
                                                                      replace q585 := eq_true q585
                                                                      go_wp2
                                                                      repeat (go_quiet (fail); try go_wp2)
                                                                      go_roundg kj34
                                                                      case measure => have := HJ9.out; have := HJ18.out; have := HK3.out; have := HK4.out; have := HJ34.out; omega
                                                                      case rel => exact ⟨(wrap64 (x12_4 + 1)), (by first | rfl | (simp; done) | (simp [*]; done)), H', ⟨by have := HJ9.out; have := HJ18.out; have := HK3.out; have := HK4.out; have := HJ34.out; omega⟩, ⟨by (with_reducible repeat (first | apply Kd.R_alloc | apply Kd.R_drewN | apply Kd.R_drew)); exact HO_5.out⟩, ⟨by (with_reducible repeat (first | apply Kd.R_alloc | apply Kd.R_drewN | apply Kd.R_drew)); exact HO_7.out⟩, ⟨by (with_reducible repeat (first | apply Kd.R_alloc | apply Kd.R_drewN | apply Kd.R_drew)); exact HO_9.out⟩, ⟨by repeat (first | (with_reducible first | exact HB.out | apply below_alloc | apply pw_below_drewN | apply below_drew1) | exact HB.out)⟩⟩
                                                                    · rw [if_neg c54] at H
                                                                      exact absurd H (by simp)
                                                                  · rw [if_neg c53] at H
                                                                    exact absurd H (by simp)
                                                                · rw [if_neg c52] at H
                                                                  exact absurd H (by simp)
                                                              · rw [if_neg c51] at H
                                                                exact absurd H (by simp)
                                                            · rw [if_neg c50] at H
                                                              exact absurd H (by simp)
                                                          · rw [if_neg c49] at H
                                                            exact absurd H (by simp)
                                                        · rw [if_neg c48] at H
                                                          have c48b0 : ((rd t562 x11_3) == (rd t562 x12_4)) = false := beq_eq_false_iff_ne.mpr c48
                                                          have c48b1 : ((rd t562 x11_3) != (rd t562 x12_4)) = true := bne_iff_ne.mpr c48
                                                          have H' := Aside0.mk H
                                                          clear H
                                                          have p578 : 0 ≤ (x11_3 : Int) := of_decide_eq_true (by first | (with_reducible assumption) | assumption)
                                                          have q578 : x11_3 < (l0.length : Int) := of_decide_eq_true (by first | (with_reducible assumption) | assumption)
                                                          obtain ⟨ad578, e578, hx578_0, hx578_1, hx578_2⟩ := at_T37 HR0.out x11_3 p578 q578
                                                          obtain rfl : ad572 = ad578 := (by injection e578)
                                                          replace hx578_0 := (HB.out.cell (World.block_lt_of_cell? w _ hx578_0)).trans hx578_0
                                                          replace hx578_1 := (HB.out.cell (World.block_lt_of_cell? w _ hx578_1)).trans hx578_1
                                                          replace hx578_2 := (HB.out.cell (World.block_lt_of_cell? w _ hx578_2)).trans hx578_2
                                                          replace p578 := eq_true p578
                                                          replace q578 := eq_true q578
                                                          have p579 : 0 ≤ (x12_4 : Int) := of_decide_eq_true (by first | (with_reducible assumption) | assumption)
                                                          have q579 : x12_4 < (l0.length : Int) := of_decide_eq_true (by first | (with_reducible assumption) | assumption)
                                                          obtain ⟨ad579, e579, hx579_0, hx579_1, hx579_2⟩ := at_T37 HR0.out x12_4 p579 q579
                                                          obtain rfl : ad572 = ad579 := (by injection e579)
                                                          replace hx579_0 := (HB.out.cell (World.block_lt_of_cell? w _ hx579_0)).trans hx579_0
                                                          replace hx579_1 := (HB.out.cell (World.block_lt_of_cell? w _ hx579_1)).trans hx579_1
                                                          replace hx579_2 := (HB.out.cell (World.block_lt_of_cell? w _ hx579_2)).trans hx579_2
                                                          replace p579 := eq_true p579
                                                          replace q579 := eq_true q579
                                                          obtain ⟨Ao58, co58, eo58⟩ := Kd.R_slice HO_7.out
                                                          subst eo58
                                                          have p580 : 0 ≤ (x11_3 : Int) := of_decide_eq_true (by first | (with_reducible assumption) | assumption)
                                                          have q580 : x11_3 < (t562.length : Int) := of_decide_eq_true (by first | (with_reducible assumption) | assumption)
                                                          obtain ⟨ad580, e580, hx580_0⟩ := Kd.at_int (Kd.R_reads' HO_7.out).2.2 x11_3 p580 q580
                                                          cases e580
                                                          replace p580 := eq_true p580
                                                          replace q580 := eq_true q580
                                                          have p581 : 0 ≤ (x12_4 : Int) := of_decide_eq_true (by first | (with_reducible assumption) | assumption)
                                                          have q581 : x12_4 < (t562.length : Int) := of_decide_eq_true (by first | (with_reducible assumption) | assumption)
                                                          obtain ⟨ad581, e581, hx581_0⟩ := Kd.at_int (Kd.R_reads' HO_7.out).2.2 x12_4 p581 q581
                                                          obtain rfl : ad580 = ad581 := (by injection e581)
                                                          replace p581 := eq_true p581
                                                          replace q581 := eq_true q581
                                                          go_wp2
                                                          repeat (go_quiet (fail); try go_wp2)
                                                          go_roundg kj34
                                                          case measure => have := HJ9.out; have := HJ18.out; have := HK3.out; have := HK4.out; have := HJ34.out; omega
                                                          case rel => exact ⟨(wrap64 (x12_4 + 1)), (by first | rfl | (simp; done) | (simp [*]; done)), H', ⟨by have := HJ9.out; have := HJ18.out; have := HK3.out; have := HK4.out; have := HJ34.out; omega⟩, ⟨by (with_reducible repeat (first | apply Kd.R_alloc | apply Kd.R_drewN | apply Kd.R_drew)); exact HO_5.out⟩, ⟨by (with_reducible repeat (first | apply Kd.R_alloc | apply Kd.R_drewN | apply Kd.R_drew)); exact HO_7.out⟩, ⟨by (with_reducible repeat (first | apply Kd.R_alloc | apply Kd.R_drewN | apply Kd.R_drew)); exact HO_9.out⟩, ⟨by repeat (first | (with_reducible first | exact HB.out | apply below_alloc | apply pw_below_drewN | apply below_drew1) | exact HB.out)⟩⟩
                                                      · rw [if_neg c47] at H
                                                        exact absurd H (by simp)
                                                    · rw [if_neg c46] at H
                                                      exact absurd H (by simp)
                                                  · rw [if_neg c45] at H
                                                    have c45b0 : (((rd_T37 l0 x11_3).f2) == ((rd_T37 l0 x12_4).f2)) = false := beq_eq_false_iff_ne.mpr c45
                                                    have c45b1 : (((rd_T37 l0 x11_3).f2) != ((rd_T37 l0 x12_4).f2)) = true := bne_iff_ne.mpr c45
                                                    have H' := Aside0.mk H
                                                    clear H
                                                    have p578 : 0 ≤ (x11_3 : Int) := of_decide_eq_true (by first | (with_reducible assumption) | assumption)
                                                    have q578 : x11_3 < (l0.length : Int) := of_decide_eq_true (by first | (with_reducible assumption) | assumption)
                                                    obtain ⟨ad578, e578, hx578_0, hx578_1, hx578_2⟩ := at_T37 HR0.out x11_3 p578 q578
                                                    obtain rfl : ad572 = ad578 := (by injection e578)
                                                    replace hx578_0 := (HB.out.cell (World.block_lt_of_cell? w _ hx578_0)).trans hx578_0
                                                    replace hx578_1 := (HB.out.cell (World.block_lt_of_cell? w _ hx578_1)).trans hx578_1
                                                    replace hx578_2 := (HB.out.cell (World.block_lt_of_cell? w _ hx578_2)).trans hx578_2
                                                    replace p578 := eq_true p578
                                                    replace q578 := eq_true q578
                                                    have p579 : 0 ≤ (x12_4 : Int) := of_decide_eq_true (by first | (with_reducible assumption) | assumption)
                                                    have q579 : x12_4 < (l0.length : Int) := of_decide_eq_true (by first | (with_reducible assumption) | assumption)
                                                    obtain ⟨ad579, e579, hx579_0, hx579_1, hx579_2⟩ := at_T37 HR0.out x12_4 p579 q579
                                                    obtain rfl : ad572 = ad579 := (by injection e579)
                                                    replace hx579_0 := (HB.out.cell (World.block_lt_of_cell? w _ hx579_0)).trans hx579_0
                                                    replace hx579_1 := (HB.out.cell (World.block_lt_of_cell? w _ hx579_1)).trans hx579_1
                                                    replace hx579_2 := (HB.out.cell (World.block_lt_of_cell? w _ hx579_2)).trans hx579_2
                                                    replace p579 := eq_true p579
                                                    replace q579 := eq_true q579
                                                    go_wp2
                                                    repeat (go_quiet (fail); try go_wp2)
                                                    go_roundg kj34
                                                    case measure => have := HJ9.out; have := HJ18.out; have := HK3.out; have := HK4.out; have := HJ34.out; omega
                                                    case rel => exact ⟨(wrap64 (x12_4 + 1)), (by first | rfl | (simp; done) | (simp [*]; done)), H', ⟨by have := HJ9.out; have := HJ18.out; have := HK3.out; have := HK4.out; have := HJ34.out; omega⟩, ⟨by (with_reducible repeat (first | apply Kd.R_alloc | apply Kd.R_drewN | apply Kd.R_drew)); exact HO_5.out⟩, ⟨by (with_reducible repeat (first | apply Kd.R_alloc | apply Kd.R_drewN | apply Kd.R_drew)); exact HO_7.out⟩, ⟨by (with_reducible repeat (first | apply Kd.R_alloc | apply Kd.R_drewN | apply Kd.R_drew)); exact HO_9.out⟩, ⟨by repeat (first | (with_reducible first | exact HB.out | apply below_alloc | apply pw_below_drewN | apply below_drew1) | exact HB.out)⟩⟩
                                                · rw [if_neg c44] at H
                                                  exact absurd H (by simp)
                                              · rw [if_neg c43] at H
                                                exact absurd H (by simp)
                                            · rw [if_neg c42] at H
                                              exact absurd H (by simp)
                                          · rw [if_neg c41] at H
                                            exact absurd H (by simp)
                                  · rw [if_neg c34] at H
                                    have c34b0 : (((rd_T37 l0 x11_3).f1).toList == ((rd_T37 l0 x12_4).f1).toList) = false := beq_eq_false_iff_ne.mpr c34
                                    have c34b1 : (((rd_T37 l0 x11_3).f1).toList != ((rd_T37 l0 x12_4).f1).toList) = true := bne_iff_ne.mpr c34
                                    have H' := Aside0.mk H
                                    clear H
                                    have p572 : 0 ≤ (x11_3 : Int) := of_decide_eq_true (by first | (with_reducible assumption) | assumption)
                                    have q572 : x11_3 < (l0.length : Int) := of_decide_eq_true (by first | (with_reducible assumption) | assumption)
                                    obtain ⟨ad572, e572, hx572_0, hx572_1, hx572_2⟩ := at_T37 HR0.out x11_3 p572 q572
                                    cases e572
                                    replace hx572_0 := (HB.out.cell (World.block_lt_of_cell? w _ hx572_0)).trans hx572_0
                                    replace hx572_1 := (HB.out.cell (World.block_lt_of_cell? w _ hx572_1)).trans hx572_1
                                    replace hx572_2 := (HB.out.cell (World.block_lt_of_cell? w _ hx572_2)).trans hx572_2
                                    replace p572 := eq_true p572
                                    replace q572 := eq_true q572
                                    have p573 : 0 ≤ (x12_4 : Int) := of_decide_eq_true (by first | (with_reducible assumption) | assumption)
                                    have q573 : x12_4 < (l0.length : Int) := of_decide_eq_true (by first | (with_reducible assumption) | assumption)
                                    obtain ⟨ad573, e573, hx573_0, hx573_1, hx573_2⟩ := at_T37 HR0.out x12_4 p573 q573
                                    obtain rfl : ad572 = ad573 := (by injection e573)
                                    replace hx573_0 := (HB.out.cell (World.block_lt_of_cell? w _ hx573_0)).trans hx573_0
                                    replace hx573_1 := (HB.out.cell (World.block_lt_of_cell? w _ hx573_1)).trans hx573_1
                                    replace hx573_2 := (HB.out.cell (World.block_lt_of_cell? w _ hx573_2)).trans hx573_2
                                    replace p573 := eq_true p573
                                    replace q573 := eq_true q573
                                    go_wp2
                                    repeat (go_quiet (fail); try go_wp2)
                                    go_roundg k4
                                    case measure => have := HJ9.out; have := HJ18.out; have := HK3.out; have := HK4.out; omega
                                    case rel => exact ⟨(wrap64 (x12_4 + 1)), (by first | rfl | (simp; done) | (simp [*]; done)), H', ⟨by have := HJ9.out; have := HJ18.out; have := HK3.out; have := HK4.out; omega⟩, ⟨by (with_reducible repeat (first | apply Kd.R_alloc | apply Kd.R_drewN | apply Kd.R_drew)); exact HO_5.out⟩, ⟨by (with_reducible repeat (first | apply Kd.R_alloc | apply Kd.R_drewN | apply Kd.R_drew)); exact HO_7.out⟩, ⟨by (with_reducible repeat (first | apply Kd.R_alloc | apply Kd.R_drewN | apply Kd.R_drew)); exact HO_9.out⟩, ⟨by repeat (first | (with_reducible first | exact HB.out | apply below_alloc | apply pw_below_drewN | apply below_drew1) | exact HB.out)⟩⟩
                                · rw [if_neg c33] at H
                                  exact absurd H (by simp)
                              · rw [if_neg c32] at H
                                exact absurd H (by simp)
                            · rw [if_neg c31] at H
                              exact absurd H (by simp)
                          · rw [if_neg c30] at H
                            have c30b0 : decide (x12_4 < (l0.length : Int)) = false := decide_eq_false c30
                            clear c30
                            have H' := Aside0.mk H
                            clear H
                            go_wp2
                            repeat (go_quiet (fail); try go_wp2)
                            go_roundg k4
                            case measure => have := HJ9.out; have := HJ18.out; have := HK3.out; have := HK4.out; omega
                            case rel => exact ⟨(wrap64 (x11_3 + 1)), (by first | rfl | (simp; done) | (simp [*]; done)), H', ⟨by have := HJ9.out; have := HJ18.out; have := HK3.out; have := HK4.out; omega⟩, ⟨by (with_reducible repeat (first | apply Kd.R_alloc | apply Kd.R_drewN | apply Kd.R_drew)); exact HO_5.out⟩, ⟨by (with_reducible repeat (first | apply Kd.R_alloc | apply Kd.R_drewN | apply Kd.R_drew)); exact HO_7.out⟩, ⟨by (with_reducible repeat (first | apply Kd.R_alloc | apply Kd.R_drewN | apply Kd.R_drew)); exact HO_9.out⟩, ⟨by repeat (first | (with_reducible first | exact HB.out | apply below_alloc | apply pw_below_drewN | apply below_drew1) | exact HB.out)⟩⟩
                    · rw [if_neg c29] at H
                      have c29b0 : decide (x11_3 < (l0.length : Int)) = false := decide_eq_false c29
                      clear c29
                      replace H := Option.bind_eq_some_iff.mp H
                      obtain ⟨t571, A590, H⟩ := H
                      replace H : (some t571) = some r := H
                      have A59 := Aside0.mk A590
                      clear A590
                      obtain rfl := Option.some.inj H
                      go_wp2_with (first | (go_at_call 11; (with_reducible refine (gangerlaw11_known.calls k3  t571 _ ?side1 A59.out).mono ?_); (case side1 => exact Glob.below HG.out (by repeat (first | (with_reducible first | exact HB.out | apply below_alloc | apply pw_below_drewN | apply below_drew1) | exact HB.out))); rintro e w60 ⟨rfl, hb⟩; have n0_ := Aside0.mk (Kd.R_below (by (with_reducible repeat (first | apply Kd.R_alloc | apply Kd.R_drewN | apply Kd.R_drew)); exact HO_5.out) hb); have n1_ := Aside0.mk (Kd.R_below (by (with_reducible repeat (first | apply Kd.R_alloc | apply Kd.R_drewN | apply Kd.R_drew)); exact HO_7.out) hb); have n2_ := Aside0.mk (Kd.R_below (by (with_reducible repeat (first | apply Kd.R_alloc | apply Kd.R_drewN | apply Kd.R_drew)); exact HO_9.out) hb); have n3_ := Aside0.mk (below_step (by repeat (first | (with_reducible first | exact HB.out | apply below_alloc | apply pw_below_drewN | apply below_drew1) | exact HB.out)) hb); clear HO_5; clear HO_7; clear HO_9; clear HB; have HO_5 := n0_; have HO_7 := n1_; have HO_9 := n2_; have HB := n3_; clear n0_ n1_ n2_ n3_; (try clear hb); (try clear hb2); (try clear hk); (try clear hi)))
                      repeat (go_quiet (first | (go_at_call 11; (with_reducible refine (gangerlaw11_known.calls k3  t571 _ ?side1 A59.out).mono ?_); (case side1 => exact Glob.below HG.out (by repeat (first | (with_reducible first | exact HB.out | apply below_alloc | apply pw_below_drewN | apply below_drew1) | exact HB.out))); rintro e w60 ⟨rfl, hb⟩; have n0_ := Aside0.mk (Kd.R_below (by (with_reducible repeat (first | apply Kd.R_alloc | apply Kd.R_drewN | apply Kd.R_drew)); exact HO_5.out) hb); have n1_ := Aside0.mk (Kd.R_below (by (with_reducible repeat (first | apply Kd.R_alloc | apply Kd.R_drewN | apply Kd.R_drew)); exact HO_7.out) hb); have n2_ := Aside0.mk (Kd.R_below (by (with_reducible repeat (first | apply Kd.R_alloc | apply Kd.R_drewN | apply Kd.R_drew)); exact HO_9.out) hb); have n3_ := Aside0.mk (below_step (by repeat (first | (with_reducible first | exact HB.out | apply below_alloc | apply pw_below_drewN | apply below_drew1) | exact HB.out)) hb); clear HO_5; clear HO_7; clear HO_9; clear HB; have HO_5 := n0_; have HO_7 := n1_; have HO_9 := n2_; have HB := n3_; clear n0_ n1_ n2_ n3_; (try clear hb); (try clear hb2); (try clear hk); (try clear hi))); try go_wp2_with (first | (go_at_call 11; (with_reducible refine (gangerlaw11_known.calls k3  t571 _ ?side1 A59.out).mono ?_); (case side1 => exact Glob.below HG.out (by repeat (first | (with_reducible first | exact HB.out | apply below_alloc | apply pw_below_drewN | apply below_drew1) | exact HB.out))); rintro e w60 ⟨rfl, hb⟩; have n0_ := Aside0.mk (Kd.R_below (by (with_reducible repeat (first | apply Kd.R_alloc | apply Kd.R_drewN | apply Kd.R_drew)); exact HO_5.out) hb); have n1_ := Aside0.mk (Kd.R_below (by (with_reducible repeat (first | apply Kd.R_alloc | apply Kd.R_drewN | apply Kd.R_drew)); exact HO_7.out) hb); have n2_ := Aside0.mk (Kd.R_below (by (with_reducible repeat (first | apply Kd.R_alloc | apply Kd.R_drewN | apply Kd.R_drew)); exact HO_9.out) hb); have n3_ := Aside0.mk (below_step (by repeat (first | (with_reducible first | exact HB.out | apply below_alloc | apply pw_below_drewN | apply below_drew1) | exact HB.out)) hb); clear HO_5; clear HO_7; clear HO_9; clear HB; have HO_5 := n0_; have HO_7 := n1_; have HO_9 := n2_; have HB := n3_; clear n0_ n1_ n2_ n3_; (try clear hb); (try clear hb2); (try clear hk); (try clear hi))))
                      go_ret
                      exact ⟨by first | rfl | (simp [errW_none, errW_some] <;> rfl) | (simp [*, errW_none, errW_some] <;> rfl), by repeat (first | (with_reducible first | exact HB.out | apply below_alloc | apply pw_below_drewN | apply below_drew1) | exact HB.out)⟩
def gangerlaw11_ShareAlike.Pure : Prop := ∀ (l0 : List (S37)) (l1 : List Int), (l0.length ≤ maxLen ∧ ∀ x2 ∈ l0, ((x2.f0.size ≤ maxLen) ∧ ((x2.f1.size ≤ maxLen) ∧ ((Lit.int .i64 x2.f2).wf = true)))) → (l1.length ≤ maxLen ∧ ∀ x2 ∈ l1, ((Lit.int .i64 x2).wf = true)) → ∃ k, gangerlaw11_ShareAlike.f k l0 l1 = some true

end Go.Proofs.YtfccdngejfnmkaaDoor.P
