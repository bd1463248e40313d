/- The machine's side of the laws of this seat: each function's plain form and its contract, written by a program of this session out of Lean's print of the loaded functions; no condition beyond what each statement says. -/
import Derived.Test.YtfcmpnajokjaaaaP0
import Derived.Test.YtfcmpnajokjaaaaP2
import Derived.Test.YtfcmpnajokjaaaaP5
import Derived.Test.YtfcmpnajokjaaaaP6
import Derived.Test.YtfcmpnajokjaaaaP17
import Derived.Test.YtfcmpnajokjaaaaP18
namespace Go.Proofs.Ytfcmpnajokjaaaa.P
open Go.RowKit Go.Proofs.YtfcmpnajokjaaaaW.PrintWords Go.Proofs.YtfcmpnajokjaaaaW.PrintLast Go.Proofs.YtfcmpnajokjaaaaW.PrintMore
attribute [local go_sem] max2_int min2_int max_two min_two max_three min_three max_four min_four   -- for this text's walks alone
set_option linter.unusedVariables false
set_option linter.unusedSimpArgs false

attribute [local go_sem] isSome_setCell
/-! ### gangerlaw05_ProfileMeets: function 10 -/
def gangerlaw05_ProfileMeets.j0 : Nat → List (S39) → List (S39) → Int → List (S39) → Int → Bool → Option (Bool)
 | 0, _, _, _, _, _, _ => none
 | k + 1, x0, x1, x2, x7, x8, x54 => if x54 = true then (none) else (if x8 = 0 then (if 0 < (x0.length : Int) then (if x2 ≥ ((rd_T39 x0 0).f0) then (if 0 < (x1.length : Int) then (if x2 ≥ ((rd_T39 x1 0).f0) then ((profile_At.f k x7 x2).bind fun t524 => ((profile_At.f k x0 x2).bind fun t525 => ((profile_At.f k x1 x2).bind fun t526 => (if t524 = (mn t525 t526) then ((gangerlaw05_known.f k).bind fun t527 => (some t527)) else (none))))) else ((gangerlaw05_known.f k).bind fun t528 => (some t528))) else (none)) else ((gangerlaw05_known.f k).bind fun t529 => (some t529))) else (none)) else ((gangerlaw05_known.f k).bind fun t530 => (some t530)))
def gangerlaw05_ProfileMeets.f (k : Nat) (l0 : List (S39)) (l1 : List (S39)) (a2 : Int) : Option (Bool) := (gangerlaw05_many.f l0 l1).bind fun t506 => (if t506 = true then ((gangerlaw05_known.f k).bind fun t507 => (some t507)) else ((profile_Meet.f k l0 l1).bind fun bt508 => ((gangerref05_Meet.f k l0 l1).bind fun bt512 => ((profile_Meet.f k l1 l0).bind fun bt516 => ((gangerref05_Same.f k bt508.1 bt512.1).bind fun t520 => (if t520 = true then (if bt508.2 = bt512.2 then ((gangerref05_Same.f k bt508.1 bt516.1).bind fun t521 => (if t521 = true then (gangerlaw05_ProfileMeets.j0 k l0 l1 a2 bt508.1 bt508.2 (bt516.2 != bt508.2)) else (gangerlaw05_ProfileMeets.j0 k l0 l1 a2 bt508.1 bt508.2 true))) else (gangerlaw05_ProfileMeets.j0 k l0 l1 a2 bt508.1 bt508.2 true)) else (gangerlaw05_ProfileMeets.j0 k l0 l1 a2 bt508.1 bt508.2 true)))))))
theorem gangerlaw05_ProfileMeets.mono_l : ∀ k, (∀ y0 y1 y2 y3 y4 y5, LeO (gangerlaw05_ProfileMeets.j0 k y0 y1 y2 y3 y4 y5) (gangerlaw05_ProfileMeets.j0 (k + 1) y0 y1 y2 y3 y4 y5))
 | 0 => fun _ _ _ _ _ _ r h => by simp [gangerlaw05_ProfileMeets.j0] at h
 | k + 1 => by
  have ih0 := gangerlaw05_ProfileMeets.mono_l k
  ·intro y0 y1 y2 y3 y4 y5
   unfold gangerlaw05_ProfileMeets.j0
   repeat' first
   | (with_reducible exact ih0 _ _ _ _ _ _)
   | (with_reducible exact gangerlaw05_known.mono _)
   | (with_reducible exact gangerref05_Meet.mono _ _ _)
   | (with_reducible exact gangerref05_Same.mono _ _ _)
   | (with_reducible exact profile_At.mono _ _ _)
   | (with_reducible exact profile_Meet.mono _ _ _)
   | (with_reducible exact LeO.refl _)
   | (with_reducible exact LeO.none _)
   | (with_reducible refine LeO.ite ?_ ?_)
   | (with_reducible refine LeO.bind ?_ (fun _ => ?_))
   | exact ih0 _ _ _ _ _ _
   | exact gangerlaw05_known.mono _
   | exact gangerref05_Meet.mono _ _ _
   | exact gangerref05_Same.mono _ _ _
   | exact profile_At.mono _ _ _
   | exact profile_Meet.mono _ _ _
   | exact LeO.none _
   | refine LeO.ite ?_ ?_
   | refine LeO.bind ?_ (fun _ => ?_)
theorem gangerlaw05_ProfileMeets.mono : ∀ a0 a1 a2 k, LeO (gangerlaw05_ProfileMeets.f k a0 a1 a2) (gangerlaw05_ProfileMeets.f (k + 1) a0 a1 a2) := by
 intro a0 a1 a2 k
 have ih0 := gangerlaw05_ProfileMeets.mono_l k
 unfold gangerlaw05_ProfileMeets.f
 repeat' first
   | (with_reducible exact ih0 _ _ _ _ _ _)
   | (with_reducible exact gangerlaw05_known.mono _)
   | (with_reducible exact gangerref05_Meet.mono _ _ _)
   | (with_reducible exact gangerref05_Same.mono _ _ _)
   | (with_reducible exact profile_At.mono _ _ _)
   | (with_reducible exact profile_Meet.mono _ _ _)
   | (with_reducible exact LeO.refl _)
   | (with_reducible exact LeO.none _)
   | (with_reducible refine LeO.ite ?_ ?_)
   | (with_reducible refine LeO.bind ?_ (fun _ => ?_))
   | exact ih0 _ _ _ _ _ _
   | exact gangerlaw05_known.mono _
   | exact gangerref05_Meet.mono _ _ _
   | exact gangerref05_Same.mono _ _ _
   | exact profile_At.mono _ _ _
   | exact profile_Meet.mono _ _ _
   | exact LeO.none _
   | refine LeO.ite ?_ ?_
   | refine LeO.bind ?_ (fun _ => ?_)
set_option maxHeartbeats 8000000 in
set_option maxRecDepth 100000 in
theorem gangerlaw05_ProfileMeets.calls (k : Nat) (A0 : Option Addr) (c0 : Nat) (l0 : List (S39)) (A1 : Option Addr) (c1 : Nat) (l1 : List (S39)) (a2 : Int) (r : Bool) (w : World) (hr0 : Kd.C k39 w A0 l0.length l0) (hc0 : l0.length ≤ c0) (hr1 : Kd.C k39 w A1 l1.length l1) (hc1 : l1.length ≤ c1) (h : gangerlaw05_ProfileMeets.f k l0 l1 a2 = some r) :
  Calls Try.prog 10 #[.slice A0 l0.length c0, .slice A1 l1.length c1, .int .i64 a2] w fun e w' => e = .returned (.bool r) ∧ Below w.heap.size w w' := by
 have HR0 := Aside0.mk hr0
 have HC0 := Aside0.mk hc0
 clear hr0 hc0
 have HR1 := Aside0.mk hr1
 have HC1 := Aside0.mk hc1
 clear hr1 hc1
 have HB := Aside0.mk (Below.refl w.heap.size w)
 have H : ((gangerlaw05_many.f l0 l1).bind fun t506 => (if t506 = true then ((gangerlaw05_known.f k).bind fun t507 => (some t507)) else ((profile_Meet.f k l0 l1).bind fun bt508 => ((gangerref05_Meet.f k l0 l1).bind fun bt512 => ((profile_Meet.f k l1 l0).bind fun bt516 => ((gangerref05_Same.f k bt508.1 bt512.1).bind fun t520 => (if t520 = true then (if bt508.2 = bt512.2 then ((gangerref05_Same.f k bt508.1 bt516.1).bind fun t521 => (if t521 = true then (gangerlaw05_ProfileMeets.j0 k l0 l1 a2 bt508.1 bt508.2 (bt516.2 != bt508.2)) else (gangerlaw05_ProfileMeets.j0 k l0 l1 a2 bt508.1 bt508.2 true))) else (gangerlaw05_ProfileMeets.j0 k l0 l1 a2 bt508.1 bt508.2 true)) else (gangerlaw05_ProfileMeets.j0 k l0 l1 a2 bt508.1 bt508.2 true)))))))) = some r := h
 clear h
 replace H := Option.bind_eq_some_iff.mp H
 obtain ⟨t506, A40, H⟩ := H
 replace H : (if t506 = true then ((gangerlaw05_known.f k).bind fun t507 => (some t507)) else ((profile_Meet.f k l0 l1).bind fun bt508 => ((gangerref05_Meet.f k l0 l1).bind fun bt512 => ((profile_Meet.f k l1 l0).bind fun bt516 => ((gangerref05_Same.f k bt508.1 bt512.1).bind fun t520 => (if t520 = true then (if bt508.2 = bt512.2 then ((gangerref05_Same.f k bt508.1 bt516.1).bind fun t521 => (if t521 = true then (gangerlaw05_ProfileMeets.j0 k l0 l1 a2 bt508.1 bt508.2 (bt516.2 != bt508.2)) else (gangerlaw05_ProfileMeets.j0 k l0 l1 a2 bt508.1 bt508.2 true))) else (gangerlaw05_ProfileMeets.j0 k l0 l1 a2 bt508.1 bt508.2 true)) else (gangerlaw05_ProfileMeets.j0 k l0 l1 a2 bt508.1 bt508.2 true))))))) = some r := H
 have A4 := Aside0.mk A40
 clear A40
 by_cases c5 : t506 = true
 ·subst c5
  have H1 : ((gangerlaw05_known.f k).bind fun t507 => (some t507)) = some r := by rw [if_pos rfl] at H; exact H
  clear H
  have H := H1
  clear H1
  replace H := Option.bind_eq_some_iff.mp H
  obtain ⟨t507, A60, H⟩ := H
  replace H : (some t507) = some r := H
  have A6 := Aside0.mk A60
  clear A60
  obtain rfl := Option.some.inj H
  go_enter Try.func10, Try.ntmps10
  go_wp2_with (first | ((with_reducible refine gate_callee (f := 11) rfl ?_); refine goesL_ (some 15) rfl rfl Try.func11 (by kernel_rfl) rfl #[.slice A0 l0.length c0, .slice A1 l1.length c1] rfl (by (try simp only [List.map_toArray, List.map_cons, List.map_nil]); first | done | rfl | (simp only [List.length_drop, List.length_take]; rfl)) ?_; (with_reducible refine (gangerlaw05_many.calls _ _ l0 _ _ l1 true _ ?side1 ?side2 ?side3 ?side4 A4.out).mono ?_); (case side1 => repeat (first | exact HR0.out | (with_reducible refine Kd.C_alloc ?_ _) | (with_reducible refine Kd.C_drewN ?_ _) | (with_reducible refine Kd.C_drew ?_))); (case side2 => exact HC0.out); (case side3 => repeat (first | exact HR1.out | (with_reducible refine Kd.C_alloc ?_ _) | (with_reducible refine Kd.C_drewN ?_ _) | (with_reducible refine Kd.C_drew ?_))); (case side4 => exact HC1.out); rintro e w' ⟨rfl, ⟨nd, rfl⟩⟩; refine ⟨_, rfl, ?_⟩) | ((with_reducible refine gate_callee (f := 12) rfl ?_); refine goesL_ (some 16) rfl rfl Try.func12 (by kernel_rfl) rfl #[] rfl (by (try simp only [List.map_toArray, List.map_cons, List.map_nil]); first | done | rfl | (simp only [List.length_drop, List.length_take]; rfl)) ?_; (with_reducible refine (gangerlaw05_known.calls k  t507 _ A6.out).mono ?_); rintro e w7 ⟨rfl, hb⟩; refine ⟨_, rfl, ?_⟩; have n0_ := Aside0.mk (below_step (by repeat (first | (with_reducible first | exact HB.out | apply below_alloc | apply pw_below_drewN | apply below_drew1) | exact HB.out)) hb); clear HB; have HB := n0_; clear n0_; (try clear hb); (try clear hb2); (try clear hk); (try clear hi)))
  go_ret
  exact ⟨by first | rfl | (simp [errW_none, errW_some] <;> rfl) | (simp [*, errW_none, errW_some] <;> rfl), by repeat (first | (with_reducible first | exact HB.out | apply below_alloc | apply pw_below_drewN | apply below_drew1) | exact HB.out)⟩
 ·replace c5 := Bool.eq_false_iff.mpr c5
  subst c5
  have H1 : ((profile_Meet.f k l0 l1).bind fun bt508 => ((gangerref05_Meet.f k l0 l1).bind fun bt512 => ((profile_Meet.f k l1 l0).bind fun bt516 => ((gangerref05_Same.f k bt508.1 bt512.1).bind fun t520 => (if t520 = true then (if bt508.2 = bt512.2 then ((gangerref05_Same.f k bt508.1 bt516.1).bind fun t521 => (if t521 = true then (gangerlaw05_ProfileMeets.j0 k l0 l1 a2 bt508.1 bt508.2 (bt516.2 != bt508.2)) else (gangerlaw05_ProfileMeets.j0 k l0 l1 a2 bt508.1 bt508.2 true))) else (gangerlaw05_ProfileMeets.j0 k l0 l1 a2 bt508.1 bt508.2 true)) else (gangerlaw05_ProfileMeets.j0 k l0 l1 a2 bt508.1 bt508.2 true)))))) = some r := by rw [if_neg (show ¬ (false = true) by decide)] at H; exact H
  clear H
  have H := H1
  clear H1
  replace H := Option.bind_eq_some_iff.mp H
  obtain ⟨⟨t508, t509⟩, A80, H⟩ := H
  replace H : ((gangerref05_Meet.f k l0 l1).bind fun bt512 => ((profile_Meet.f k l1 l0).bind fun bt516 => ((gangerref05_Same.f k t508 bt512.1).bind fun t520 => (if t520 = true then (if t509 = bt512.2 then ((gangerref05_Same.f k t508 bt516.1).bind fun t521 => (if t521 = true then (gangerlaw05_ProfileMeets.j0 k l0 l1 a2 t508 t509 (bt516.2 != t509)) else (gangerlaw05_ProfileMeets.j0 k l0 l1 a2 t508 t509 true))) else (gangerlaw05_ProfileMeets.j0 k l0 l1 a2 t508 t509 true)) else (gangerlaw05_ProfileMeets.j0 k l0 l1 a2 t508 t509 true))))) = some r := H
  have A8 := Aside0.mk A80
  clear A80
  replace H := Option.bind_eq_some_iff.mp H
  obtain ⟨⟨t512, t513⟩, A90, H⟩ := H
  replace H : ((profile_Meet.f k l1 l0).bind fun bt516 => ((gangerref05_Same.f k t508 t512).bind fun t520 => (if t520 = true then (if t509 = t513 then ((gangerref05_Same.f k t508 bt516.1).bind fun t521 => (if t521 = true then (gangerlaw05_ProfileMeets.j0 k l0 l1 a2 t508 t509 (bt516.2 != t509)) else (gangerlaw05_ProfileMeets.j0 k l0 l1 a2 t508 t509 true))) else (gangerlaw05_ProfileMeets.j0 k l0 l1 a2 t508 t509 true)) else (gangerlaw05_ProfileMeets.j0 k l0 l1 a2 t508 t509 true)))) = some r := H
  have A9 := Aside0.mk A90
  clear A90
  replace H := Option.bind_eq_some_iff.mp H
  obtain ⟨⟨t516, t517⟩, A100, H⟩ := H
  replace H : ((gangerref05_Same.f k t508 t512).bind fun t520 => (if t520 = true then (if t509 = t513 then ((gangerref05_Same.f k t508 t516).bind fun t521 => (if t521 = true then (gangerlaw05_ProfileMeets.j0 k l0 l1 a2 t508 t509 (t517 != t509)) else (gangerlaw05_ProfileMeets.j0 k l0 l1 a2 t508 t509 true))) else (gangerlaw05_ProfileMeets.j0 k l0 l1 a2 t508 t509 true)) else (gangerlaw05_ProfileMeets.j0 k l0 l1 a2 t508 t509 true))) = some r := H
  have A10 := Aside0.mk A100
  clear A100
  have HC11 := Aside0.mk H
  clear H
  go_enter Try.func10, Try.ntmps10
  go_upto_region 6 with (first | ((with_reducible refine gate_callee (f := 11) rfl ?_); refine goesL_ (some 15) rfl rfl Try.func11 (by kernel_rfl) rfl #[.slice A0 l0.length c0, .slice A1 l1.length c1] rfl (by (try simp only [List.map_toArray, List.map_cons, List.map_nil]); first | done | rfl | (simp only [List.length_drop, List.length_take]; rfl)) ?_; (with_reducible refine (gangerlaw05_many.calls _ _ l0 _ _ l1 false _ ?side1 ?side2 ?side3 ?side4 A4.out).mono ?_); (case side1 => repeat (first | exact HR0.out | (with_reducible refine Kd.C_alloc ?_ _) | (with_reducible refine Kd.C_drewN ?_ _) | (with_reducible refine Kd.C_drew ?_))); (case side2 => exact HC0.out); (case side3 => repeat (first | exact HR1.out | (with_reducible refine Kd.C_alloc ?_ _) | (with_reducible refine Kd.C_drewN ?_ _) | (with_reducible refine Kd.C_drew ?_))); (case side4 => exact HC1.out); rintro e w' ⟨rfl, ⟨nd, rfl⟩⟩; refine ⟨_, rfl, ?_⟩) | ((with_reducible refine gate_callee (f := 30) rfl ?_); refine goesL_ (some 20) rfl rfl Try.func30 (by kernel_rfl) rfl #[.slice A0 l0.length c0, .slice A1 l1.length c1] rfl (by (try simp only [List.map_toArray, List.map_cons, List.map_nil]); first | done | rfl | (simp only [List.length_drop, List.length_take]; rfl)) ?_; (with_reducible refine (profile_Meet.calls k _ _ l0 _ _ l1 t508 t509 _ ?side1 ?side2 ?side3 ?side4 A8.out).mono ?_); (case side1 => repeat (first | exact HR0.out | (with_reducible refine Kd.C_alloc ?_ _) | (with_reducible refine Kd.C_drewN ?_ _) | (with_reducible refine Kd.C_drew ?_))); (case side2 => exact HC0.out); (case side3 => repeat (first | exact HR1.out | (with_reducible refine Kd.C_alloc ?_ _) | (with_reducible refine Kd.C_drewN ?_ _) | (with_reducible refine Kd.C_drew ?_))); (case side4 => exact HC1.out); rintro e w12 ⟨v510, rfl, ho0, hb⟩; refine ⟨_, rfl, ?_⟩; have n0_ := Aside0.mk (Kd.R_lower ho0 (below_size (by repeat (first | (with_reducible first | exact HB.out | apply below_alloc | apply pw_below_drewN | apply below_drew1) | exact HB.out)))); have n1_ := Aside0.mk (below_step (by repeat (first | (with_reducible first | exact HB.out | apply below_alloc | apply pw_below_drewN | apply below_drew1) | exact HB.out)) hb); clear HB; have HO511 := n0_; have HB := n1_; clear n0_ n1_; (try clear hb); (try clear hb2); (try clear hk); (try clear hi); (try clear ho0)) | ((with_reducible refine gate_callee (f := 31) rfl ?_); refine goesL_ (some 26) rfl rfl Try.func31 (by kernel_rfl) rfl #[.slice A0 l0.length c0, .slice A1 l1.length c1] rfl (by (try simp only [List.map_toArray, List.map_cons, List.map_nil]); first | done | rfl | (simp only [List.length_drop, List.length_take]; rfl)) ?_; (with_reducible refine (gangerref05_Meet.calls k _ _ l0 _ _ l1 t512 t513 _ ?side1 ?side2 ?side3 ?side4 A9.out).mono ?_); (case side1 => repeat (first | exact (Kd.C_below HR0.out HB.out) | (with_reducible refine Kd.C_alloc ?_ _) | (with_reducible refine Kd.C_drewN ?_ _) | (with_reducible refine Kd.C_drew ?_))); (case side2 => exact HC0.out); (case side3 => repeat (first | exact (Kd.C_below HR1.out HB.out) | (with_reducible refine Kd.C_alloc ?_ _) | (with_reducible refine Kd.C_drewN ?_ _) | (with_reducible refine Kd.C_drew ?_))); (case side4 => exact HC1.out); rintro e w13 ⟨v514, rfl, ho0, hb⟩; refine ⟨_, rfl, ?_⟩; have n0_ := Aside0.mk (Kd.R_elder' (by (with_reducible repeat (first | apply Kd.R_alloc | apply Kd.R_drewN | apply Kd.R_drew)); exact HO511.out) (Kd.R_base ho0) hb); have n1_ := Aside0.mk (Kd.R_lower (Kd.R_new' ho0 (Kd.R_lt (by (with_reducible repeat (first | apply Kd.R_alloc | apply Kd.R_drewN | apply Kd.R_drew)); exact HO511.out))) (below_size (by repeat (first | (with_reducible first | exact HB.out | apply below_alloc | apply pw_below_drewN | apply below_drew1) | exact HB.out)))); have n2_ := Aside0.mk (below_step (by repeat (first | (with_reducible first | exact HB.out | apply below_alloc | apply pw_below_drewN | apply below_drew1) | exact HB.out)) hb); clear HO511; clear HB; have HO511 := n0_; have HO515 := n1_; have HB := n2_; clear n0_ n1_ n2_; (try clear hb); (try clear hb2); (try clear hk); (try clear hi); (try clear ho0)) | ((with_reducible refine gate_callee (f := 30) rfl ?_); refine goesL_ (some 32) rfl rfl Try.func30 (by kernel_rfl) rfl #[.slice A1 l1.length c1, .slice A0 l0.length c0] rfl (by (try simp only [List.map_toArray, List.map_cons, List.map_nil]); first | done | rfl | (simp only [List.length_drop, List.length_take]; rfl)) ?_; (with_reducible refine (profile_Meet.calls k _ _ l1 _ _ l0 t516 t517 _ ?side1 ?side2 ?side3 ?side4 A10.out).mono ?_); (case side1 => repeat (first | exact (Kd.C_below HR1.out HB.out) | (with_reducible refine Kd.C_alloc ?_ _) | (with_reducible refine Kd.C_drewN ?_ _) | (with_reducible refine Kd.C_drew ?_))); (case side2 => exact HC1.out); (case side3 => repeat (first | exact (Kd.C_below HR0.out HB.out) | (with_reducible refine Kd.C_alloc ?_ _) | (with_reducible refine Kd.C_drewN ?_ _) | (with_reducible refine Kd.C_drew ?_))); (case side4 => exact HC0.out); rintro e w14 ⟨v518, rfl, ho0, hb⟩; refine ⟨_, rfl, ?_⟩; have n0_ := Aside0.mk (Kd.R_elder' (by (with_reducible repeat (first | apply Kd.R_alloc | apply Kd.R_drewN | apply Kd.R_drew)); exact HO511.out) (Kd.R_base ho0) hb); have n1_ := Aside0.mk (Kd.R_elder' (by (with_reducible repeat (first | apply Kd.R_alloc | apply Kd.R_drewN | apply Kd.R_drew)); exact HO515.out) (Kd.R_base ho0) hb); have n2_ := Aside0.mk (Kd.R_lower (Kd.R_new' (Kd.R_new' ho0 (Kd.R_lt (by (with_reducible repeat (first | apply Kd.R_alloc | apply Kd.R_drewN | apply Kd.R_drew)); exact HO511.out))) (Kd.R_lt (by (with_reducible repeat (first | apply Kd.R_alloc | apply Kd.R_drewN | apply Kd.R_drew)); exact HO515.out))) (below_size (by repeat (first | (with_reducible first | exact HB.out | apply below_alloc | apply pw_below_drewN | apply below_drew1) | exact HB.out)))); have n3_ := Aside0.mk (below_step (by repeat (first | (with_reducible first | exact HB.out | apply below_alloc | apply pw_below_drewN | apply below_drew1) | exact HB.out)) hb); clear HO511; clear HO515; clear HB; have HO511 := n0_; have HO515 := n1_; have HO519 := n2_; have HB := n3_; clear n0_ n1_ n2_ n3_; (try clear hb); (try clear hb2); (try clear hk); (try clear hi); (try clear ho0)))
  (try simp only [Act.put, List.setIfInBounds_toArray, List.set_cons_zero, List.set_cons_succ])
  go_cut [54] (fun v54 wc => ∃ (kq : Nat) (x54_10 : Bool), v54 = .bool x54_10 ∧ Aside0 (gangerlaw05_ProfileMeets.j0 kq l0 l1 a2 t508 t509 x54_10 = some r) ∧ Aside0 (kq ≤ k) ∧ Aside0 (Kd.R k39 39 wc w.heap.size (fun _ => True) v510 t508) ∧ Aside0 (Below w.heap.size w wc))
  case first =>
   have H := HC11.out
   clear HC11
   replace H := Option.bind_eq_some_iff.mp H
   obtain ⟨t520, A150, H⟩ := H
   replace H : (if t520 = true then (if t509 = t513 then ((gangerref05_Same.f k t508 t516).bind fun t521 => (if t521 = true then (gangerlaw05_ProfileMeets.j0 k l0 l1 a2 t508 t509 (t517 != t509)) else (gangerlaw05_ProfileMeets.j0 k l0 l1 a2 t508 t509 true))) else (gangerlaw05_ProfileMeets.j0 k l0 l1 a2 t508 t509 true)) else (gangerlaw05_ProfileMeets.j0 k l0 l1 a2 t508 t509 true)) = some r := H
   have A15 := Aside0.mk A150
   clear A150
   by_cases c16 : t520 = true
   ·subst c16
    have H1 : (if t509 = t513 then ((gangerref05_Same.f k t508 t516).bind fun t521 => (if t521 = true then (gangerlaw05_ProfileMeets.j0 k l0 l1 a2 t508 t509 (t517 != t509)) else (gangerlaw05_ProfileMeets.j0 k l0 l1 a2 t508 t509 true))) else (gangerlaw05_ProfileMeets.j0 k l0 l1 a2 t508 t509 true)) = some r := by rw [if_pos rfl] at H; exact H
    clear H
    have H := H1
    clear H1
    by_cases c17 : t509 = t513
    ·rw [if_pos c17] at H
     have c17b0 : (t509 == t513) = true := beq_iff_eq.mpr c17
     have c17b1 : (t509 != t513) = false := bne_eq_false_iff_eq.mpr c17
     clear c17
     (first | rw [c17b0] | (simp only [i64_w, i32_w]; rw [c17b0]) | skip)
     replace H := Option.bind_eq_some_iff.mp H
     obtain ⟨t521, A180, H⟩ := H
     replace H : (if t521 = true then (gangerlaw05_ProfileMeets.j0 k l0 l1 a2 t508 t509 (t517 != t509)) else (gangerlaw05_ProfileMeets.j0 k l0 l1 a2 t508 t509 true)) = some r := H
     have A18 := Aside0.mk A180
     clear A180
     by_cases c19 : t521 = true
     ·subst c19
      have H1 : (gangerlaw05_ProfileMeets.j0 k l0 l1 a2 t508 t509 (t517 != t509)) = some r := by rw [if_pos rfl] at H; exact H
      clear H
      have H := H1
      clear H1
      have H' := Aside0.mk H
      clear H
      obtain ⟨Ao20, co20, eo20⟩ := Kd.R_slice HO511.out
      subst eo20
      obtain ⟨Ao21, co21, eo21⟩ := Kd.R_slice HO515.out
      subst eo21
      go_wp2_with (first | ((with_reducible refine gate_callee (f := 18) rfl ?_); refine goesL_ (some 37) rfl rfl Try.func18 (by kernel_rfl) rfl #[.slice Ao20 t508.length co20, .slice Ao21 t512.length co21] rfl (by (try simp only [List.map_toArray, List.map_cons, List.map_nil]); first | done | rfl | (simp only [List.length_drop, List.length_take]; rfl)) ?_; (with_reducible refine (gangerref05_Same.calls k _ _ t508 _ _ t512 true _ ?side1 ?side2 ?side3 ?side4 A15.out).mono ?_); (case side1 => repeat (first | exact (Kd.R_reads' HO511.out).2.2 | (with_reducible refine Kd.C_alloc ?_ _) | (with_reducible refine Kd.C_drewN ?_ _) | (with_reducible refine Kd.C_drew ?_))); (case side2 => exact (Kd.R_reads' HO511.out).2.1); (case side3 => repeat (first | exact (Kd.R_reads' HO515.out).2.2 | (with_reducible refine Kd.C_alloc ?_ _) | (with_reducible refine Kd.C_drewN ?_ _) | (with_reducible refine Kd.C_drew ?_))); (case side4 => exact (Kd.R_reads' HO515.out).2.1); rintro e w' ⟨rfl, ⟨nd, rfl⟩⟩; refine ⟨_, rfl, ?_⟩; obtain ⟨Ao22, co22, eo22⟩ := Kd.R_slice HO519.out; subst eo22) | (go_at_call 18; (with_reducible refine (gangerref05_Same.calls k _ _ t508 _ _ t516 true _ ?side1 ?side2 ?side3 ?side4 A18.out).mono ?_); (case side1 => repeat (first | exact (Kd.R_reads' HO511.out).2.2 | (with_reducible refine Kd.C_alloc ?_ _) | (with_reducible refine Kd.C_drewN ?_ _) | (with_reducible refine Kd.C_drew ?_))); (case side2 => exact (Kd.R_reads' HO511.out).2.1); (case side3 => repeat (first | exact (Kd.R_reads' HO519.out).2.2 | (with_reducible refine Kd.C_alloc ?_ _) | (with_reducible refine Kd.C_drewN ?_ _) | (with_reducible refine Kd.C_drew ?_))); (case side4 => exact (Kd.R_reads' HO519.out).2.1); rintro e w' ⟨rfl, ⟨nd, rfl⟩⟩))
      go_meet
      case rel => exact ⟨_, ((t517 != t509)), (by first | rfl | (simp; done) | (simp [*]; done)), H', ⟨by first | omega | exact Nat.le_refl _⟩, ⟨by (with_reducible repeat (first | apply Kd.R_alloc | apply Kd.R_drewN | apply Kd.R_drew)); exact Kd.R_mono HO511.out (fun _ hk => trivial)⟩, ⟨by repeat (first | (with_reducible first | exact HB.out | apply below_alloc | apply pw_below_drewN | apply below_drew1) | exact HB.out)⟩⟩
     ·replace c19 := Bool.eq_false_iff.mpr c19
      subst c19
      have H1 : (gangerlaw05_ProfileMeets.j0 k l0 l1 a2 t508 t509 true) = some r := by rw [if_neg (show ¬ (false = true) by decide)] at H; exact H
      clear H
      have H := H1
      clear H1
      have H' := Aside0.mk H
      clear H
      obtain ⟨Ao23, co23, eo23⟩ := Kd.R_slice HO511.out
      subst eo23
      obtain ⟨Ao24, co24, eo24⟩ := Kd.R_slice HO515.out
      subst eo24
      go_wp2_with (first | ((with_reducible refine gate_callee (f := 18) rfl ?_); refine goesL_ (some 37) rfl rfl Try.func18 (by kernel_rfl) rfl #[.slice Ao23 t508.length co23, .slice Ao24 t512.length co24] rfl (by (try simp only [List.map_toArray, List.map_cons, List.map_nil]); first | done | rfl | (simp only [List.length_drop, List.length_take]; rfl)) ?_; (with_reducible refine (gangerref05_Same.calls k _ _ t508 _ _ t512 true _ ?side1 ?side2 ?side3 ?side4 A15.out).mono ?_); (case side1 => repeat (first | exact (Kd.R_reads' HO511.out).2.2 | (with_reducible refine Kd.C_alloc ?_ _) | (with_reducible refine Kd.C_drewN ?_ _) | (with_reducible refine Kd.C_drew ?_))); (case side2 => exact (Kd.R_reads' HO511.out).2.1); (case side3 => repeat (first | exact (Kd.R_reads' HO515.out).2.2 | (with_reducible refine Kd.C_alloc ?_ _) | (with_reducible refine Kd.C_drewN ?_ _) | (with_reducible refine Kd.C_drew ?_))); (case side4 => exact (Kd.R_reads' HO515.out).2.1); rintro e w' ⟨rfl, ⟨nd, rfl⟩⟩; refine ⟨_, rfl, ?_⟩; obtain ⟨Ao25, co25, eo25⟩ := Kd.R_slice HO519.out; subst eo25) | (go_at_call 18; (with_reducible refine (gangerref05_Same.calls k _ _ t508 _ _ t516 false _ ?side1 ?side2 ?side3 ?side4 A18.out).mono ?_); (case side1 => repeat (first | exact (Kd.R_reads' HO511.out).2.2 | (with_reducible refine Kd.C_alloc ?_ _) | (with_reducible refine Kd.C_drewN ?_ _) | (with_reducible refine Kd.C_drew ?_))); (case side2 => exact (Kd.R_reads' HO511.out).2.1); (case side3 => repeat (first | exact (Kd.R_reads' HO519.out).2.2 | (with_reducible refine Kd.C_alloc ?_ _) | (with_reducible refine Kd.C_drewN ?_ _) | (with_reducible refine Kd.C_drew ?_))); (case side4 => exact (Kd.R_reads' HO519.out).2.1); rintro e w' ⟨rfl, ⟨nd, rfl⟩⟩))
      go_meet
      case rel => exact ⟨_, (true), (by first | rfl | (simp; done) | (simp [*]; done)), H', ⟨by first | omega | exact Nat.le_refl _⟩, ⟨by (with_reducible repeat (first | apply Kd.R_alloc | apply Kd.R_drewN | apply Kd.R_drew)); exact Kd.R_mono HO511.out (fun _ hk => trivial)⟩, ⟨by repeat (first | (with_reducible first | exact HB.out | apply below_alloc | apply pw_below_drewN | apply below_drew1) | exact HB.out)⟩⟩
    ·rw [if_neg c17] at H
     have c17b0 : (t509 == t513) = false := beq_eq_false_iff_ne.mpr c17
     have c17b1 : (t509 != t513) = true := bne_iff_ne.mpr c17
     (first | rw [c17b0] | (simp only [i64_w, i32_w]; rw [c17b0]) | skip)
     have H' := Aside0.mk H
     clear H
     obtain ⟨Ao26, co26, eo26⟩ := Kd.R_slice HO511.out
     subst eo26
     obtain ⟨Ao27, co27, eo27⟩ := Kd.R_slice HO515.out
     subst eo27
     go_wp2_with (first | ((with_reducible refine gate_callee (f := 18) rfl ?_); refine goesL_ (some 37) rfl rfl Try.func18 (by kernel_rfl) rfl #[.slice Ao26 t508.length co26, .slice Ao27 t512.length co27] rfl (by (try simp only [List.map_toArray, List.map_cons, List.map_nil]); first | done | rfl | (simp only [List.length_drop, List.length_take]; rfl)) ?_; (with_reducible refine (gangerref05_Same.calls k _ _ t508 _ _ t512 true _ ?side1 ?side2 ?side3 ?side4 A15.out).mono ?_); (case side1 => repeat (first | exact (Kd.R_reads' HO511.out).2.2 | (with_reducible refine Kd.C_alloc ?_ _) | (with_reducible refine Kd.C_drewN ?_ _) | (with_reducible refine Kd.C_drew ?_))); (case side2 => exact (Kd.R_reads' HO511.out).2.1); (case side3 => repeat (first | exact (Kd.R_reads' HO515.out).2.2 | (with_reducible refine Kd.C_alloc ?_ _) | (with_reducible refine Kd.C_drewN ?_ _) | (with_reducible refine Kd.C_drew ?_))); (case side4 => exact (Kd.R_reads' HO515.out).2.1); rintro e w' ⟨rfl, ⟨nd, rfl⟩⟩; refine ⟨_, rfl, ?_⟩))
     go_meet
     case rel => exact ⟨_, (true), (by first | rfl | (simp; done) | (simp [*]; done)), H', ⟨by first | omega | exact Nat.le_refl _⟩, ⟨by (with_reducible repeat (first | apply Kd.R_alloc | apply Kd.R_drewN | apply Kd.R_drew)); exact Kd.R_mono HO511.out (fun _ hk => trivial)⟩, ⟨by repeat (first | (with_reducible first | exact HB.out | apply below_alloc | apply pw_below_drewN | apply below_drew1) | exact HB.out)⟩⟩
   ·replace c16 := Bool.eq_false_iff.mpr c16
    subst c16
    have H1 : (gangerlaw05_ProfileMeets.j0 k l0 l1 a2 t508 t509 true) = some r := by rw [if_neg (show ¬ (false = true) by decide)] at H; exact H
    clear H
    have H := H1
    clear H1
    have H' := Aside0.mk H
    clear H
    obtain ⟨Ao28, co28, eo28⟩ := Kd.R_slice HO511.out
    subst eo28
    obtain ⟨Ao29, co29, eo29⟩ := Kd.R_slice HO515.out
    subst eo29
    go_wp2_with (first | ((with_reducible refine gate_callee (f := 18) rfl ?_); refine goesL_ (some 37) rfl rfl Try.func18 (by kernel_rfl) rfl #[.slice Ao28 t508.length co28, .slice Ao29 t512.length co29] rfl (by (try simp only [List.map_toArray, List.map_cons, List.map_nil]); first | done | rfl | (simp only [List.length_drop, List.length_take]; rfl)) ?_; (with_reducible refine (gangerref05_Same.calls k _ _ t508 _ _ t512 false _ ?side1 ?side2 ?side3 ?side4 A15.out).mono ?_); (case side1 => repeat (first | exact (Kd.R_reads' HO511.out).2.2 | (with_reducible refine Kd.C_alloc ?_ _) | (with_reducible refine Kd.C_drewN ?_ _) | (with_reducible refine Kd.C_drew ?_))); (case side2 => exact (Kd.R_reads' HO511.out).2.1); (case side3 => repeat (first | exact (Kd.R_reads' HO515.out).2.2 | (with_reducible refine Kd.C_alloc ?_ _) | (with_reducible refine Kd.C_drewN ?_ _) | (with_reducible refine Kd.C_drew ?_))); (case side4 => exact (Kd.R_reads' HO515.out).2.1); rintro e w' ⟨rfl, ⟨nd, rfl⟩⟩; refine ⟨_, rfl, ?_⟩))
    go_meet
    case rel => exact ⟨_, (true), (by first | rfl | (simp; done) | (simp [*]; done)), H', ⟨by first | omega | exact Nat.le_refl _⟩, ⟨by (with_reducible repeat (first | apply Kd.R_alloc | apply Kd.R_drewN | apply Kd.R_drew)); exact Kd.R_mono HO511.out (fun _ hk => trivial)⟩, ⟨by repeat (first | (with_reducible first | exact HB.out | apply below_alloc | apply pw_below_drewN | apply below_drew1) | exact HB.out)⟩⟩
  case rest =>
   clear HC11
   try clear c1
   try clear p2
   try clear c3
   try clear c5
   try clear c10
   try clear c11
   try clear c12
   try clear c16
   try clear c17
   try clear c17b0
   try clear c17b1
   try clear c18
   try clear c19
   obtain ⟨kq, x54_10, rfl, HA, HJ10, HO_7, HB⟩ := hcut
   cases kq with
   | zero => exact absurd HA.out (by simp [gangerlaw05_ProfileMeets.j0])
   | succ kj10 =>
    have H := HA.out
    clear HA
    simp only [gangerlaw05_ProfileMeets.j0] at H
    by_cases c30 : x54_10 = true
    ·subst c30
     have H1 : (none) = some r := by rw [if_pos rfl] at H; exact H
     clear H
     have H := H1
     clear H1
     exact absurd H (by simp)
    ·replace c30 := Bool.eq_false_iff.mpr c30
     subst c30
     have H1 : (if t509 = 0 then (if 0 < (l0.length : Int) then (if a2 ≥ ((rd_T39 l0 0).f0) then (if 0 < (l1.length : Int) then (if a2 ≥ ((rd_T39 l1 0).f0) then ((profile_At.f kj10 t508 a2).bind fun t524 => ((profile_At.f kj10 l0 a2).bind fun t525 => ((profile_At.f kj10 l1 a2).bind fun t526 => (if t524 = (mn t525 t526) then ((gangerlaw05_known.f kj10).bind fun t527 => (some t527)) else (none))))) else ((gangerlaw05_known.f kj10).bind fun t528 => (some t528))) else (none)) else ((gangerlaw05_known.f kj10).bind fun t529 => (some t529))) else (none)) else ((gangerlaw05_known.f kj10).bind fun t530 => (some t530))) = some r := by rw [if_neg (show ¬ (false = true) by decide)] at H; exact H
     clear H
     have H := H1
     clear H1
     by_cases c31 : t509 = 0
     ·rw [if_pos c31] at H
      have c31b0 : (t509 == 0) = true := beq_iff_eq.mpr c31
      have c31b1 : (t509 != 0) = false := bne_eq_false_iff_eq.mpr c31
      clear c31
      by_cases c32 : 0 < (l0.length : Int)
      ·rw [if_pos c32] at H
       have c32b0 : decide (0 < (l0.length : Int)) = true := decide_eq_true c32
       have c32b1 : decide (0 < l0.length) = true := decide_eq_true (by omega)
       clear c32
       by_cases c33 : a2 ≥ ((rd_T39 l0 0).f0)
       ·rw [if_pos c33] at H
        have c33b0 : decide (((rd_T39 l0 0).f0) ≤ a2) = true := decide_eq_true c33
        clear c33
        by_cases c34 : 0 < (l1.length : Int)
        ·rw [if_pos c34] at H
         have c34b0 : decide (0 < (l1.length : Int)) = true := decide_eq_true c34
         have c34b1 : decide (0 < l1.length) = true := decide_eq_true (by omega)
         clear c34
         by_cases c35 : a2 ≥ ((rd_T39 l1 0).f0)
         ·rw [if_pos c35] at H
          have c35b0 : decide (((rd_T39 l1 0).f0) ≤ a2) = true := decide_eq_true c35
          clear c35
          replace H := Option.bind_eq_some_iff.mp H
          obtain ⟨t524, A360, H⟩ := H
          replace H : ((profile_At.f kj10 l0 a2).bind fun t525 => ((profile_At.f kj10 l1 a2).bind fun t526 => (if t524 = (mn t525 t526) then ((gangerlaw05_known.f kj10).bind fun t527 => (some t527)) else (none)))) = some r := H
          have A36 := Aside0.mk A360
          clear A360
          replace H := Option.bind_eq_some_iff.mp H
          obtain ⟨t525, A370, H⟩ := H
          replace H : ((profile_At.f kj10 l1 a2).bind fun t526 => (if t524 = (mn t525 t526) then ((gangerlaw05_known.f kj10).bind fun t527 => (some t527)) else (none))) = some r := H
          have A37 := Aside0.mk A370
          clear A370
          replace H := Option.bind_eq_some_iff.mp H
          obtain ⟨t526, A380, H⟩ := H
          replace H : (if t524 = (mn t525 t526) then ((gangerlaw05_known.f kj10).bind fun t527 => (some t527)) else (none)) = some r := H
          have A38 := Aside0.mk A380
          clear A380
          obtain ⟨ji39, hji39⟩ : ∃ j_ : Int, (mn t525 t526) = j_ := ⟨_, rfl⟩
          replace H : (if t524 = (ji39) then ((gangerlaw05_known.f kj10).bind fun t527 => (some t527)) else (none)) = some r := by first | (rw [hji39] at H; exact H) | (simp only [hji39] at H ⊢; exact H)
          (try rw [hji39] at A36)
          (try rw [hji39] at A37)
          (try rw [hji39] at A38)
          have hji39_ : (if t526 < t525 then t526 else t525) = ji39 := hji39
          by_cases c40 : t524 = (ji39)
          ·rw [if_pos c40] at H
           have c40b0 : (t524 == (ji39)) = true := beq_iff_eq.mpr c40
           have c40b1 : (t524 != (ji39)) = false := bne_eq_false_iff_eq.mpr c40
           clear c40
           replace H := Option.bind_eq_some_iff.mp H
           obtain ⟨t527, A410, H⟩ := H
           replace H : (some t527) = some r := H
           have A41 := Aside0.mk A410
           clear A410
           obtain rfl := Option.some.inj H
           have p522 : 0 ≤ (0 : Int) := (by omega)
           have q522 : 0 < (l0.length : Int) := of_decide_eq_true (by first | (with_reducible assumption) | assumption)
           obtain ⟨ad522, e522, hx522_0, hx522_1⟩ := at_T39 HR0.out 0 p522 q522
           cases e522
           have qi522 : (0 < l0.length) = True := eq_true (by omega)
           (try rw [show ((0 : Int)).toNat = 0 from rfl] at hx522_0)
           (try rw [show 0 * 2 = 0 from rfl] at hx522_0)
           (try rw [Addr.add_zero'] at hx522_0)
           (try rw [show ((0 : Int)).toNat = 0 from rfl] at hx522_1)
           (try rw [show 0 * 2 = 0 from rfl] at hx522_1)
           (try rw [Addr.add_zero'] at hx522_1)
           replace hx522_0 := (HB.out.cell (World.block_lt_of_cell? w _ hx522_0)).trans hx522_0
           replace hx522_1 := (HB.out.cell (World.block_lt_of_cell? w _ hx522_1)).trans hx522_1
           replace p522 := eq_true p522
           replace q522 := eq_true q522
           have p523 : 0 ≤ (0 : Int) := (by omega)
           have q523 : 0 < (l1.length : Int) := of_decide_eq_true (by first | (with_reducible assumption) | assumption)
           obtain ⟨ad523, e523, hx523_0, hx523_1⟩ := at_T39 HR1.out 0 p523 q523
           cases e523
           have qi523 : (0 < l1.length) = True := eq_true (by omega)
           (try rw [show ((0 : Int)).toNat = 0 from rfl] at hx523_0)
           (try rw [show 0 * 2 = 0 from rfl] at hx523_0)
           (try rw [Addr.add_zero'] at hx523_0)
           (try rw [show ((0 : Int)).toNat = 0 from rfl] at hx523_1)
           (try rw [show 0 * 2 = 0 from rfl] at hx523_1)
           (try rw [Addr.add_zero'] at hx523_1)
           replace hx523_0 := (HB.out.cell (World.block_lt_of_cell? w _ hx523_0)).trans hx523_0
           replace hx523_1 := (HB.out.cell (World.block_lt_of_cell? w _ hx523_1)).trans hx523_1
           replace p523 := eq_true p523
           replace q523 := eq_true q523
           obtain ⟨Ao42, co42, eo42⟩ := Kd.R_slice HO_7.out
           subst eo42
           go_wp2_with (first | (go_at_call 21; (with_reducible refine (profile_At.calls kj10 _ _ t508 a2 t524 _ ?side1 ?side2 A36.out).mono ?_); (case side1 => repeat (first | exact (Kd.R_reads' HO_7.out).2.2 | (with_reducible refine Kd.C_alloc ?_ _) | (with_reducible refine Kd.C_drewN ?_ _) | (with_reducible refine Kd.C_drew ?_))); (case side2 => exact (Kd.R_reads' HO_7.out).2.1); rintro e w43 ⟨rfl, hb⟩; have n0_ := Aside0.mk (Kd.R_below (by (with_reducible repeat (first | apply Kd.R_alloc | apply Kd.R_drewN | apply Kd.R_drew)); exact HO_7.out) hb); have n1_ := Aside0.mk (below_step (by repeat (first | (with_reducible first | exact HB.out | apply below_alloc | apply pw_below_drewN | apply below_drew1) | exact HB.out)) hb); clear HO_7; clear HB; have HO_7 := n0_; have HB := n1_; clear n0_ n1_; (try clear hb); (try clear hb2); (try clear hk); (try clear hi)) | (go_at_call 21; (with_reducible refine (profile_At.calls kj10 _ _ l0 a2 t525 _ ?side1 ?side2 A37.out).mono ?_); (case side1 => repeat (first | exact (Kd.C_below HR0.out HB.out) | (with_reducible refine Kd.C_alloc ?_ _) | (with_reducible refine Kd.C_drewN ?_ _) | (with_reducible refine Kd.C_drew ?_))); (case side2 => exact HC0.out); rintro e w44 ⟨rfl, hb⟩; have n0_ := Aside0.mk (Kd.R_below (by (with_reducible repeat (first | apply Kd.R_alloc | apply Kd.R_drewN | apply Kd.R_drew)); exact HO_7.out) hb); have n1_ := Aside0.mk (below_step (by repeat (first | (with_reducible first | exact HB.out | apply below_alloc | apply pw_below_drewN | apply below_drew1) | exact HB.out)) hb); clear HO_7; clear HB; have HO_7 := n0_; have HB := n1_; clear n0_ n1_; (try clear hb); (try clear hb2); (try clear hk); (try clear hi)) | (go_at_call 21; (with_reducible refine (profile_At.calls kj10 _ _ l1 a2 t526 _ ?side1 ?side2 A38.out).mono ?_); (case side1 => repeat (first | exact (Kd.C_below HR1.out HB.out) | (with_reducible refine Kd.C_alloc ?_ _) | (with_reducible refine Kd.C_drewN ?_ _) | (with_reducible refine Kd.C_drew ?_))); (case side2 => exact HC1.out); rintro e w45 ⟨rfl, hb⟩; have n0_ := Aside0.mk (Kd.R_below (by (with_reducible repeat (first | apply Kd.R_alloc | apply Kd.R_drewN | apply Kd.R_drew)); exact HO_7.out) hb); have n1_ := Aside0.mk (below_step (by repeat (first | (with_reducible first | exact HB.out | apply below_alloc | apply pw_below_drewN | apply below_drew1) | exact HB.out)) hb); clear HO_7; clear HB; have HO_7 := n0_; have HB := n1_; clear n0_ n1_; (try clear hb); (try clear hb2); (try clear hk); (try clear hi)) | ((with_reducible refine gate_callee (f := 12) rfl ?_); refine goesL_ (some 86) rfl rfl Try.func12 (by kernel_rfl) rfl #[] rfl (by (try simp only [List.map_toArray, List.map_cons, List.map_nil]); first | done | rfl | (simp only [List.length_drop, List.length_take]; rfl)) ?_; (with_reducible refine (gangerlaw05_known.calls kj10  t527 _ A41.out).mono ?_); rintro e w46 ⟨rfl, hb⟩; refine ⟨_, rfl, ?_⟩; have n0_ := Aside0.mk (Kd.R_below (by (with_reducible repeat (first | apply Kd.R_alloc | apply Kd.R_drewN | apply Kd.R_drew)); exact HO_7.out) hb); have n1_ := Aside0.mk (below_step (by repeat (first | (with_reducible first | exact HB.out | apply below_alloc | apply pw_below_drewN | apply below_drew1) | exact HB.out)) hb); clear HO_7; clear HB; have HO_7 := n0_; have HB := n1_; clear n0_ n1_; (try clear hb); (try clear hb2); (try clear hk); (try clear hi)))
           go_ret
           exact ⟨by first | rfl | (simp [errW_none, errW_some] <;> rfl) | (simp only [← hji39]; first | rfl | (simp [errW_none, errW_some] <;> rfl)) | (simp [*, errW_none, errW_some] <;> rfl), by repeat (first | (with_reducible first | exact HB.out | apply below_alloc | apply pw_below_drewN | apply below_drew1) | exact HB.out)⟩
          ·rw [if_neg c40] at H
           exact absurd H (by simp)
         ·rw [if_neg c35] at H
          have c35b0 : decide (((rd_T39 l1 0).f0) ≤ a2) = false := decide_eq_false c35
          clear c35
          replace H := Option.bind_eq_some_iff.mp H
          obtain ⟨t528, A470, H⟩ := H
          replace H : (some t528) = some r := H
          have A47 := Aside0.mk A470
          clear A470
          obtain rfl := Option.some.inj H
          have p522 : 0 ≤ (0 : Int) := (by omega)
          have q522 : 0 < (l0.length : Int) := of_decide_eq_true (by first | (with_reducible assumption) | assumption)
          obtain ⟨ad522, e522, hx522_0, hx522_1⟩ := at_T39 HR0.out 0 p522 q522
          cases e522
          have qi522 : (0 < l0.length) = True := eq_true (by omega)
          (try rw [show ((0 : Int)).toNat = 0 from rfl] at hx522_0)
          (try rw [show 0 * 2 = 0 from rfl] at hx522_0)
          (try rw [Addr.add_zero'] at hx522_0)
          (try rw [show ((0 : Int)).toNat = 0 from rfl] at hx522_1)
          (try rw [show 0 * 2 = 0 from rfl] at hx522_1)
          (try rw [Addr.add_zero'] at hx522_1)
          replace hx522_0 := (HB.out.cell (World.block_lt_of_cell? w _ hx522_0)).trans hx522_0
          replace hx522_1 := (HB.out.cell (World.block_lt_of_cell? w _ hx522_1)).trans hx522_1
          replace p522 := eq_true p522
          replace q522 := eq_true q522
          have p523 : 0 ≤ (0 : Int) := (by omega)
          have q523 : 0 < (l1.length : Int) := of_decide_eq_true (by first | (with_reducible assumption) | assumption)
          obtain ⟨ad523, e523, hx523_0, hx523_1⟩ := at_T39 HR1.out 0 p523 q523
          cases e523
          have qi523 : (0 < l1.length) = True := eq_true (by omega)
          (try rw [show ((0 : Int)).toNat = 0 from rfl] at hx523_0)
          (try rw [show 0 * 2 = 0 from rfl] at hx523_0)
          (try rw [Addr.add_zero'] at hx523_0)
          (try rw [show ((0 : Int)).toNat = 0 from rfl] at hx523_1)
          (try rw [show 0 * 2 = 0 from rfl] at hx523_1)
          (try rw [Addr.add_zero'] at hx523_1)
          replace hx523_0 := (HB.out.cell (World.block_lt_of_cell? w _ hx523_0)).trans hx523_0
          replace hx523_1 := (HB.out.cell (World.block_lt_of_cell? w _ hx523_1)).trans hx523_1
          replace p523 := eq_true p523
          replace q523 := eq_true q523
          go_wp2_with (first | ((with_reducible refine gate_callee (f := 12) rfl ?_); refine goesL_ (some 86) rfl rfl Try.func12 (by kernel_rfl) rfl #[] rfl (by (try simp only [List.map_toArray, List.map_cons, List.map_nil]); first | done | rfl | (simp only [List.length_drop, List.length_take]; rfl)) ?_; (with_reducible refine (gangerlaw05_known.calls kj10  t528 _ A47.out).mono ?_); rintro e w48 ⟨rfl, hb⟩; refine ⟨_, rfl, ?_⟩; have n0_ := Aside0.mk (Kd.R_below (by (with_reducible repeat (first | apply Kd.R_alloc | apply Kd.R_drewN | apply Kd.R_drew)); exact HO_7.out) hb); have n1_ := Aside0.mk (below_step (by repeat (first | (with_reducible first | exact HB.out | apply below_alloc | apply pw_below_drewN | apply below_drew1) | exact HB.out)) hb); clear HO_7; clear HB; have HO_7 := n0_; have HB := n1_; clear n0_ n1_; (try clear hb); (try clear hb2); (try clear hk); (try clear hi)))
          go_ret
          exact ⟨by first | rfl | (simp [errW_none, errW_some] <;> rfl) | (simp [*, errW_none, errW_some] <;> rfl), by repeat (first | (with_reducible first | exact HB.out | apply below_alloc | apply pw_below_drewN | apply below_drew1) | exact HB.out)⟩
        ·rw [if_neg c34] at H
         exact absurd H (by simp)
       ·rw [if_neg c33] at H
        have c33b0 : decide (((rd_T39 l0 0).f0) ≤ a2) = false := decide_eq_false c33
        clear c33
        replace H := Option.bind_eq_some_iff.mp H
        obtain ⟨t529, A490, H⟩ := H
        replace H : (some t529) = some r := H
        have A49 := Aside0.mk A490
        clear A490
        obtain rfl := Option.some.inj H
        have p522 : 0 ≤ (0 : Int) := (by omega)
        have q522 : 0 < (l0.length : Int) := of_decide_eq_true (by first | (with_reducible assumption) | assumption)
        obtain ⟨ad522, e522, hx522_0, hx522_1⟩ := at_T39 HR0.out 0 p522 q522
        cases e522
        have qi522 : (0 < l0.length) = True := eq_true (by omega)
        (try rw [show ((0 : Int)).toNat = 0 from rfl] at hx522_0)
        (try rw [show 0 * 2 = 0 from rfl] at hx522_0)
        (try rw [Addr.add_zero'] at hx522_0)
        (try rw [show ((0 : Int)).toNat = 0 from rfl] at hx522_1)
        (try rw [show 0 * 2 = 0 from rfl] at hx522_1)
        (try rw [Addr.add_zero'] at hx522_1)
        replace hx522_0 := (HB.out.cell (World.block_lt_of_cell? w _ hx522_0)).trans hx522_0
        replace hx522_1 := (HB.out.cell (World.block_lt_of_cell? w _ hx522_1)).trans hx522_1
        replace p522 := eq_true p522
        replace q522 := eq_true q522
        go_wp2_with (first | ((with_reducible refine gate_callee (f := 12) rfl ?_); refine goesL_ (some 86) rfl rfl Try.func12 (by kernel_rfl) rfl #[] rfl (by (try simp only [List.map_toArray, List.map_cons, List.map_nil]); first | done | rfl | (simp only [List.length_drop, List.length_take]; rfl)) ?_; (with_reducible refine (gangerlaw05_known.calls kj10  t529 _ A49.out).mono ?_); rintro e w50 ⟨rfl, hb⟩; refine ⟨_, rfl, ?_⟩; have n0_ := Aside0.mk (Kd.R_below (by (with_reducible repeat (first | apply Kd.R_alloc | apply Kd.R_drewN | apply Kd.R_drew)); exact HO_7.out) hb); have n1_ := Aside0.mk (below_step (by repeat (first | (with_reducible first | exact HB.out | apply below_alloc | apply pw_below_drewN | apply below_drew1) | exact HB.out)) hb); clear HO_7; clear HB; have HO_7 := n0_; have HB := n1_; clear n0_ n1_; (try clear hb); (try clear hb2); (try clear hk); (try clear hi)))
        go_ret
        exact ⟨by first | rfl | (simp [errW_none, errW_some] <;> rfl) | (simp [*, errW_none, errW_some] <;> rfl), by repeat (first | (with_reducible first | exact HB.out | apply below_alloc | apply pw_below_drewN | apply below_drew1) | exact HB.out)⟩
      ·rw [if_neg c32] at H
       exact absurd H (by simp)
     ·rw [if_neg c31] at H
      have c31b0 : (t509 == 0) = false := beq_eq_false_iff_ne.mpr c31
      have c31b1 : (t509 != 0) = true := bne_iff_ne.mpr c31
      replace H := Option.bind_eq_some_iff.mp H
      obtain ⟨t530, A510, H⟩ := H
      replace H : (some t530) = some r := H
      have A51 := Aside0.mk A510
      clear A510
      obtain rfl := Option.some.inj H
      go_wp2_with (first | ((with_reducible refine gate_callee (f := 12) rfl ?_); refine goesL_ (some 86) rfl rfl Try.func12 (by kernel_rfl) rfl #[] rfl (by (try simp only [List.map_toArray, List.map_cons, List.map_nil]); first | done | rfl | (simp only [List.length_drop, List.length_take]; rfl)) ?_; (with_reducible refine (gangerlaw05_known.calls kj10  t530 _ A51.out).mono ?_); rintro e w52 ⟨rfl, hb⟩; refine ⟨_, rfl, ?_⟩; have n0_ := Aside0.mk (Kd.R_below (by (with_reducible repeat (first | apply Kd.R_alloc | apply Kd.R_drewN | apply Kd.R_drew)); exact HO_7.out) hb); have n1_ := Aside0.mk (below_step (by repeat (first | (with_reducible first | exact HB.out | apply below_alloc | apply pw_below_drewN | apply below_drew1) | exact HB.out)) hb); clear HO_7; clear HB; have HO_7 := n0_; have HB := n1_; clear n0_ n1_; (try clear hb); (try clear hb2); (try clear hk); (try clear hi)))
      go_ret
      exact ⟨by first | rfl | (simp [errW_none, errW_some] <;> rfl) | (simp [*, errW_none, errW_some] <;> rfl), by repeat (first | (with_reducible first | exact HB.out | apply below_alloc | apply pw_below_drewN | apply below_drew1) | exact HB.out)⟩
def gangerlaw05_ProfileMeets.Pure : Prop := ∀ (l0 : List (S39)) (l1 : List (S39)) (a2 : Int), (l0.length ≤ maxLen ∧ ∀ x2 ∈ l0, (((Lit.int .i64 x2.f0).wf = true) ∧ ((Lit.int .i64 x2.f1).wf = true))) → (l1.length ≤ maxLen ∧ ∀ x2 ∈ l1, (((Lit.int .i64 x2.f0).wf = true) ∧ ((Lit.int .i64 x2.f1).wf = true))) → ((Lit.int .i64 a2).wf = true) → ∃ k, gangerlaw05_ProfileMeets.f k l0 l1 a2 = some true

end Go.Proofs.Ytfcmpnajokjaaaa.P
