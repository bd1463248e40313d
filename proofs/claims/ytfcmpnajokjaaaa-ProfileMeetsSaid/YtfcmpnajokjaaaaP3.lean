/- The machine's side of the laws of this seat: each function's plain form and its contract, written by a program of this session out of Lean's print of the loaded functions; no condition beyond what each statement says. -/
import Derived.Test.YtfcmpnajokjaaaaP0
import Derived.Test.YtfcmpnajokjaaaaP2
namespace Go.Proofs.Ytfcmpnajokjaaaa.P
open Go.RowKit Go.Proofs.YtfcmpnajokjaaaaW.PrintWords Go.Proofs.YtfcmpnajokjaaaaW.PrintLast Go.Proofs.YtfcmpnajokjaaaaW.PrintMore
attribute [local go_sem] max2_int min2_int max_two min_two max_three min_three max_four min_four   -- for this text's walks alone
set_option linter.unusedVariables false
set_option linter.unusedSimpArgs false

attribute [local go_sem] isSome_setCell
/-! ### profile_Fit: function 13 -/
mutual
def profile_Fit.l0 : Nat → List (S39) → Int → Int → Int → Int → Option (Int × Int)
  | 0, _, _, _, _, _ => none
  | k + 1, x0, x2, x3, x10, x11 => if x11 < (x0.length : Int) then (if 0 ≤ x11 then (if ((rd_T39 x0 x11).f1) < x3 then (profile_Fit.j1 k x0 x2 x3 x10 x11 ((wrap64 (x11 + 1)) == (x0.length : Int))) else (profile_Fit.j1 k x0 x2 x3 x10 x11 false)) else (none)) else (some (x10, 0))
def profile_Fit.j1 : Nat → List (S39) → Int → Int → Int → Int → Bool → Option (Int × Int)
  | 0, _, _, _, _, _, _ => none
  | k + 1, x0, x2, x3, x10, x11, x50 => if x50 = true then (some (0, 5)) else (if 0 ≤ x11 then (if x11 < (x0.length : Int) then (if ((rd_T39 x0 x11).f1) < x3 then (if 0 ≤ (wrap64 (x11 + 1)) then (if (wrap64 (x11 + 1)) < (x0.length : Int) then (profile_Fit.l0 k x0 x2 x3 ((rd_T39 x0 (wrap64 (x11 + 1))).f0) (wrap64 (x11 + 1))) else (none)) else (none)) else (if (wrap64 (x11 + 1)) = (x0.length : Int) then (some (x10, 0)) else (if 0 ≤ (wrap64 (x11 + 1)) then (if (wrap64 (x11 + 1)) < (x0.length : Int) then (if (wrap64 (((rd_T39 x0 (wrap64 (x11 + 1))).f0) - x10)) ≥ x2 then (some (x10, 0)) else (profile_Fit.l0 k x0 x2 x3 x10 (wrap64 (x11 + 1)))) else (none)) else (none)))) else (none)) else (none))
end
def profile_Fit.f (k : Nat) (l0 : List (S39)) (a1 : Int) (a2 : Int) (a3 : Int) : Option (Int × Int) := (profile_Check.f k l0).bind fun t112 => (if t112 = 0 then (if a2 < 1 then (some (0, 2)) else (if a2 > 1099511627776 then (some (0, 2)) else (if a1 < 0 then (some (0, 2)) else (if a1 > 1099511627776 then (some (0, 2)) else (if a3 < 0 then (some (0, 2)) else (if 0 < (l0.length : Int) then ((profile_find.f k l0 (mx a1 ((rd_T39 l0 0).f0))).bind fun t114 => (profile_Fit.l0 k l0 a2 a3 (mx a1 ((rd_T39 l0 0).f0)) t114)) else (none))))))) else (some (0, 50)))
theorem profile_Fit.mono_l : ∀ k, (∀ y0 y1 y2 y3 y4, LeO (profile_Fit.l0 k y0 y1 y2 y3 y4) (profile_Fit.l0 (k + 1) y0 y1 y2 y3 y4)) ∧ (∀ y0 y1 y2 y3 y4 y5, LeO (profile_Fit.j1 k y0 y1 y2 y3 y4 y5) (profile_Fit.j1 (k + 1) y0 y1 y2 y3 y4 y5))
  | 0 => ⟨fun _ _ _ _ _ r h => by simp [profile_Fit.l0] at h, fun _ _ _ _ _ _ r h => by simp [profile_Fit.j1] at h⟩
  | k + 1 => by
    obtain ⟨ih0, ih1⟩ := profile_Fit.mono_l k
    refine ⟨?_, ?_⟩
    · intro y0 y1 y2 y3 y4
      unfold profile_Fit.l0
      repeat' first
      | (with_reducible exact ih0 _ _ _ _ _)
      | (with_reducible exact ih1 _ _ _ _ _ _)
      | (with_reducible exact profile_Check.mono _ _)
      | (with_reducible exact profile_find.mono _ _ _)
      | (with_reducible exact LeO.refl _)
      | (with_reducible exact LeO.none _)
      | (with_reducible refine LeO.ite ?_ ?_)
      | (with_reducible refine LeO.bind ?_ (fun _ => ?_))
      | exact ih0 _ _ _ _ _
      | exact ih1 _ _ _ _ _ _
      | exact profile_Check.mono _ _
      | exact profile_find.mono _ _ _
      | exact LeO.none _
      | refine LeO.ite ?_ ?_
      | refine LeO.bind ?_ (fun _ => ?_)
    · intro y0 y1 y2 y3 y4 y5
      unfold profile_Fit.j1
      repeat' first
      | (with_reducible exact ih0 _ _ _ _ _)
      | (with_reducible exact ih1 _ _ _ _ _ _)
      | (with_reducible exact profile_Check.mono _ _)
      | (with_reducible exact profile_find.mono _ _ _)
      | (with_reducible exact LeO.refl _)
      | (with_reducible exact LeO.none _)
      | (with_reducible refine LeO.ite ?_ ?_)
      | (with_reducible refine LeO.bind ?_ (fun _ => ?_))
      | exact ih0 _ _ _ _ _
      | exact ih1 _ _ _ _ _ _
      | exact profile_Check.mono _ _
      | exact profile_find.mono _ _ _
      | exact LeO.none _
      | refine LeO.ite ?_ ?_
      | refine LeO.bind ?_ (fun _ => ?_)
theorem profile_Fit.mono : ∀ a0 a1 a2 a3 k, LeO (profile_Fit.f k a0 a1 a2 a3) (profile_Fit.f (k + 1) a0 a1 a2 a3) := by
  intro a0 a1 a2 a3 k
  obtain ⟨ih0, ih1⟩ := profile_Fit.mono_l k
  unfold profile_Fit.f
  repeat' first
      | (with_reducible exact ih0 _ _ _ _ _)
      | (with_reducible exact ih1 _ _ _ _ _ _)
      | (with_reducible exact profile_Check.mono _ _)
      | (with_reducible exact profile_find.mono _ _ _)
      | (with_reducible exact LeO.refl _)
      | (with_reducible exact LeO.none _)
      | (with_reducible refine LeO.ite ?_ ?_)
      | (with_reducible refine LeO.bind ?_ (fun _ => ?_))
      | exact ih0 _ _ _ _ _
      | exact ih1 _ _ _ _ _ _
      | exact profile_Check.mono _ _
      | exact profile_find.mono _ _ _
      | exact LeO.none _
      | refine LeO.ite ?_ ?_
      | refine LeO.bind ?_ (fun _ => ?_)
set_option maxHeartbeats 8000000 in
set_option maxRecDepth 100000 in
theorem profile_Fit.calls (k : Nat) (A0 : Option Addr) (c0 : Nat) (l0 : List (S39)) (a1 : Int) (a2 : Int) (a3 : Int) (r1 : Int) (r2 : Int) (w : World) (hr0 : Kd.C k39 w A0 l0.length l0) (hc0 : l0.length ≤ c0) (h : profile_Fit.f k l0 a1 a2 a3 = some (r1, r2)) :
    Calls Try.prog 13 #[.slice A0 l0.length c0, .int .i64 a1, .int .i64 a2, .int .i64 a3] w fun e w' => e = .returned (.tuple #[.int .i64 r1, .int .i64 r2]) ∧ Below w.heap.size w w' := by
  have HR0 := Aside0.mk hr0
  have HC0 := Aside0.mk hc0
  clear hr0 hc0
  have HB := Aside0.mk (Below.refl w.heap.size w)
  have H : ((profile_Check.f k l0).bind fun t112 => (if t112 = 0 then (if a2 < 1 then (some (0, 2)) else (if a2 > 1099511627776 then (some (0, 2)) else (if a1 < 0 then (some (0, 2)) else (if a1 > 1099511627776 then (some (0, 2)) else (if a3 < 0 then (some (0, 2)) else (if 0 < (l0.length : Int) then ((profile_find.f k l0 (mx a1 ((rd_T39 l0 0).f0))).bind fun t114 => (profile_Fit.l0 k l0 a2 a3 (mx a1 ((rd_T39 l0 0).f0)) t114)) else (none))))))) else (some (0, 50)))) = some (r1, r2) := h
  clear h
  replace H := Option.bind_eq_some_iff.mp H
  obtain ⟨t112, A50, H⟩ := H
  replace H : (if t112 = 0 then (if a2 < 1 then (some (0, 2)) else (if a2 > 1099511627776 then (some (0, 2)) else (if a1 < 0 then (some (0, 2)) else (if a1 > 1099511627776 then (some (0, 2)) else (if a3 < 0 then (some (0, 2)) else (if 0 < (l0.length : Int) then ((profile_find.f k l0 (mx a1 ((rd_T39 l0 0).f0))).bind fun t114 => (profile_Fit.l0 k l0 a2 a3 (mx a1 ((rd_T39 l0 0).f0)) t114)) else (none))))))) else (some (0, 50))) = some (r1, r2) := H
  have A5 := Aside0.mk A50
  clear A50
  by_cases c6 : t112 = 0
  · rw [if_pos c6] at H
    have c6b0 : (t112 == 0) = true := beq_iff_eq.mpr c6
    have c6b1 : (t112 != 0) = false := bne_eq_false_iff_eq.mpr c6
    clear c6
    by_cases c7 : a2 < 1
    · rw [if_pos c7] at H
      have c7b0 : decide (a2 < 1) = true := decide_eq_true c7
      clear c7
      simp only [Option.some.injEq, Prod.mk.injEq] at H
      obtain ⟨rfl, rfl⟩ := H
      go_enter Try.func13, Try.ntmps13
      go_wp2_with (first | ((with_reducible refine gate_callee (f := 20) rfl ?_); refine goesL_ (some 14) rfl rfl Try.func20 (by kernel_rfl) rfl #[.slice A0 l0.length c0] rfl (by (try simp only [List.map_toArray, List.map_cons, List.map_nil]); first | done | rfl | (simp only [List.length_drop, List.length_take]; rfl)) ?_; (with_reducible refine (profile_Check.calls k _ _ l0 t112 _ ?side1 ?side2 A5.out).mono ?_); (case side1 => repeat (first | exact HR0.out | (with_reducible refine Kd.C_alloc ?_ _) | (with_reducible refine Kd.C_drewN ?_ _) | (with_reducible refine Kd.C_drew ?_))); (case side2 => exact HC0.out); rintro e w8 ⟨rfl, hb⟩; refine ⟨_, rfl, ?_⟩; have n0_ := Aside0.mk (below_step (by repeat (first | (with_reducible first | exact HB.out | apply below_alloc | apply pw_below_drewN | apply below_drew1) | exact HB.out)) hb); clear HB; have HB := n0_; clear n0_; (try clear hb); (try clear hb2); (try clear hk); (try clear hi)))
      go_ret2
      exact ⟨by first | rfl | (simp [errW_none, errW_some] <;> rfl) | (simp [*, errW_none, errW_some] <;> rfl), by repeat (first | (with_reducible first | exact HB.out | apply below_alloc | apply pw_below_drewN | apply below_drew1) | exact HB.out)⟩
    · rw [if_neg c7] at H
      have c7b0 : decide (a2 < 1) = false := decide_eq_false c7
      clear c7
      by_cases c9 : a2 > 1099511627776
      · rw [if_pos c9] at H
        have c9b0 : decide (1099511627776 < a2) = true := decide_eq_true c9
        clear c9
        simp only [Option.some.injEq, Prod.mk.injEq] at H
        obtain ⟨rfl, rfl⟩ := H
        go_enter Try.func13, Try.ntmps13
        go_wp2_with (first | ((with_reducible refine gate_callee (f := 20) rfl ?_); refine goesL_ (some 14) rfl rfl Try.func20 (by kernel_rfl) rfl #[.slice A0 l0.length c0] rfl (by (try simp only [List.map_toArray, List.map_cons, List.map_nil]); first | done | rfl | (simp only [List.length_drop, List.length_take]; rfl)) ?_; (with_reducible refine (profile_Check.calls k _ _ l0 t112 _ ?side1 ?side2 A5.out).mono ?_); (case side1 => repeat (first | exact HR0.out | (with_reducible refine Kd.C_alloc ?_ _) | (with_reducible refine Kd.C_drewN ?_ _) | (with_reducible refine Kd.C_drew ?_))); (case side2 => exact HC0.out); rintro e w10 ⟨rfl, hb⟩; refine ⟨_, rfl, ?_⟩; have n0_ := Aside0.mk (below_step (by repeat (first | (with_reducible first | exact HB.out | apply below_alloc | apply pw_below_drewN | apply below_drew1) | exact HB.out)) hb); clear HB; have HB := n0_; clear n0_; (try clear hb); (try clear hb2); (try clear hk); (try clear hi)))
        go_ret2
        exact ⟨by first | rfl | (simp [errW_none, errW_some] <;> rfl) | (simp [*, errW_none, errW_some] <;> rfl), by repeat (first | (with_reducible first | exact HB.out | apply below_alloc | apply pw_below_drewN | apply below_drew1) | exact HB.out)⟩
      · rw [if_neg c9] at H
        have c9b0 : decide (1099511627776 < a2) = false := decide_eq_false c9
        clear c9
        by_cases c11 : a1 < 0
        · rw [if_pos c11] at H
          have c11b0 : decide (a1 < 0) = true := decide_eq_true c11
          clear c11
          simp only [Option.some.injEq, Prod.mk.injEq] at H
          obtain ⟨rfl, rfl⟩ := H
          go_enter Try.func13, Try.ntmps13
          go_wp2_with (first | ((with_reducible refine gate_callee (f := 20) rfl ?_); refine goesL_ (some 14) rfl rfl Try.func20 (by kernel_rfl) rfl #[.slice A0 l0.length c0] rfl (by (try simp only [List.map_toArray, List.map_cons, List.map_nil]); first | done | rfl | (simp only [List.length_drop, List.length_take]; rfl)) ?_; (with_reducible refine (profile_Check.calls k _ _ l0 t112 _ ?side1 ?side2 A5.out).mono ?_); (case side1 => repeat (first | exact HR0.out | (with_reducible refine Kd.C_alloc ?_ _) | (with_reducible refine Kd.C_drewN ?_ _) | (with_reducible refine Kd.C_drew ?_))); (case side2 => exact HC0.out); rintro e w12 ⟨rfl, hb⟩; refine ⟨_, rfl, ?_⟩; have n0_ := Aside0.mk (below_step (by repeat (first | (with_reducible first | exact HB.out | apply below_alloc | apply pw_below_drewN | apply below_drew1) | exact HB.out)) hb); clear HB; have HB := n0_; clear n0_; (try clear hb); (try clear hb2); (try clear hk); (try clear hi)))
          go_ret2
          exact ⟨by first | rfl | (simp [errW_none, errW_some] <;> rfl) | (simp [*, errW_none, errW_some] <;> rfl), by repeat (first | (with_reducible first | exact HB.out | apply below_alloc | apply pw_below_drewN | apply below_drew1) | exact HB.out)⟩
        · rw [if_neg c11] at H
          have c11b0 : decide (a1 < 0) = false := decide_eq_false c11
          clear c11
          by_cases c13 : a1 > 1099511627776
          · rw [if_pos c13] at H
            have c13b0 : decide (1099511627776 < a1) = true := decide_eq_true c13
            clear c13
            simp only [Option.some.injEq, Prod.mk.injEq] at H
            obtain ⟨rfl, rfl⟩ := H
            go_enter Try.func13, Try.ntmps13
            go_wp2_with (first | ((with_reducible refine gate_callee (f := 20) rfl ?_); refine goesL_ (some 14) rfl rfl Try.func20 (by kernel_rfl) rfl #[.slice A0 l0.length c0] rfl (by (try simp only [List.map_toArray, List.map_cons, List.map_nil]); first | done | rfl | (simp only [List.length_drop, List.length_take]; rfl)) ?_; (with_reducible refine (profile_Check.calls k _ _ l0 t112 _ ?side1 ?side2 A5.out).mono ?_); (case side1 => repeat (first | exact HR0.out | (with_reducible refine Kd.C_alloc ?_ _) | (with_reducible refine Kd.C_drewN ?_ _) | (with_reducible refine Kd.C_drew ?_))); (case side2 => exact HC0.out); rintro e w14 ⟨rfl, hb⟩; refine ⟨_, rfl, ?_⟩; have n0_ := Aside0.mk (below_step (by repeat (first | (with_reducible first | exact HB.out | apply below_alloc | apply pw_below_drewN | apply below_drew1) | exact HB.out)) hb); clear HB; have HB := n0_; clear n0_; (try clear hb); (try clear hb2); (try clear hk); (try clear hi)))
            go_ret2
            exact ⟨by first | rfl | (simp [errW_none, errW_some] <;> rfl) | (simp [*, errW_none, errW_some] <;> rfl), by repeat (first | (with_reducible first | exact HB.out | apply below_alloc | apply pw_below_drewN | apply below_drew1) | exact HB.out)⟩
          · rw [if_neg c13] at H
            have c13b0 : decide (1099511627776 < a1) = false := decide_eq_false c13
            clear c13
            by_cases c15 : a3 < 0
            · rw [if_pos c15] at H
              have c15b0 : decide (a3 < 0) = true := decide_eq_true c15
              clear c15
              simp only [Option.some.injEq, Prod.mk.injEq] at H
              obtain ⟨rfl, rfl⟩ := H
              go_enter Try.func13, Try.ntmps13
              go_wp2_with (first | ((with_reducible refine gate_callee (f := 20) rfl ?_); refine goesL_ (some 14) rfl rfl Try.func20 (by kernel_rfl) rfl #[.slice A0 l0.length c0] rfl (by (try simp only [List.map_toArray, List.map_cons, List.map_nil]); first | done | rfl | (simp only [List.length_drop, List.length_take]; rfl)) ?_; (with_reducible refine (profile_Check.calls k _ _ l0 t112 _ ?side1 ?side2 A5.out).mono ?_); (case side1 => repeat (first | exact HR0.out | (with_reducible refine Kd.C_alloc ?_ _) | (with_reducible refine Kd.C_drewN ?_ _) | (with_reducible refine Kd.C_drew ?_))); (case side2 => exact HC0.out); rintro e w16 ⟨rfl, hb⟩; refine ⟨_, rfl, ?_⟩; have n0_ := Aside0.mk (below_step (by repeat (first | (with_reducible first | exact HB.out | apply below_alloc | apply pw_below_drewN | apply below_drew1) | exact HB.out)) hb); clear HB; have HB := n0_; clear n0_; (try clear hb); (try clear hb2); (try clear hk); (try clear hi)))
              go_ret2
              exact ⟨by first | rfl | (simp [errW_none, errW_some] <;> rfl) | (simp [*, errW_none, errW_some] <;> rfl), by repeat (first | (with_reducible first | exact HB.out | apply below_alloc | apply pw_below_drewN | apply below_drew1) | exact HB.out)⟩
            · rw [if_neg c15] at H
              have c15b0 : decide (a3 < 0) = false := decide_eq_false c15
              clear c15
              by_cases c17 : 0 < (l0.length : Int)
              · rw [if_pos c17] at H
                have c17b0 : decide (0 < (l0.length : Int)) = true := decide_eq_true c17
                have c17b1 : decide (0 < l0.length) = true := decide_eq_true (by omega)
                clear c17
                obtain ⟨ji18, hji18⟩ : ∃ j_ : Int, (mx a1 ((rd_T39 l0 0).f0)) = j_ := ⟨_, rfl⟩
                replace H : ((profile_find.f k l0 (ji18)).bind fun t114 => (profile_Fit.l0 k l0 a2 a3 ji18 t114)) = some (r1, r2) := by first | (rw [hji18] at H; exact H) | (simp only [hji18] at H ⊢; exact H)
                (try rw [hji18] at A5)
                have hji18_ : (if a1 < ((rd_T39 l0 0).f0) then ((rd_T39 l0 0).f0) else a1) = ji18 := hji18
                replace H := Option.bind_eq_some_iff.mp H
                obtain ⟨t114, A190, H⟩ := H
                replace H : (profile_Fit.l0 k l0 a2 a3 ji18 t114) = some (r1, r2) := H
                have A19 := Aside0.mk A190
                clear A190
                have H' := Aside0.mk H
                clear H
                go_enter Try.func13, Try.ntmps13
                go_wp2_with (first | ((with_reducible refine gate_callee (f := 20) rfl ?_); refine goesL_ (some 14) rfl rfl Try.func20 (by kernel_rfl) rfl #[.slice A0 l0.length c0] rfl (by (try simp only [List.map_toArray, List.map_cons, List.map_nil]); first | done | rfl | (simp only [List.length_drop, List.length_take]; rfl)) ?_; (with_reducible refine (profile_Check.calls k _ _ l0 t112 _ ?side1 ?side2 A5.out).mono ?_); (case side1 => repeat (first | exact HR0.out | (with_reducible refine Kd.C_alloc ?_ _) | (with_reducible refine Kd.C_drewN ?_ _) | (with_reducible refine Kd.C_drew ?_))); (case side2 => exact HC0.out); rintro e w20 ⟨rfl, hb⟩; refine ⟨_, rfl, ?_⟩; have n0_ := Aside0.mk (below_step (by repeat (first | (with_reducible first | exact HB.out | apply below_alloc | apply pw_below_drewN | apply below_drew1) | exact HB.out)) hb); clear HB; have HB := n0_; clear n0_; (try clear hb); (try clear hb2); (try clear hk); (try clear hi); have p113 : 0 ≤ (0 : Int) := (by omega); have q113 : 0 < (l0.length : Int) := of_decide_eq_true (by first | (with_reducible assumption) | assumption); obtain ⟨ad113, e113, hx113_0, hx113_1⟩ := at_T39 HR0.out 0 p113 q113; cases e113; have qi113 : (0 < l0.length) = True := eq_true (by omega); (try rw [show ((0 : Int)).toNat = 0 from rfl] at hx113_0); (try rw [show 0 * 2 = 0 from rfl] at hx113_0); (try rw [Addr.add_zero'] at hx113_0); (try rw [show ((0 : Int)).toNat = 0 from rfl] at hx113_1); (try rw [show 0 * 2 = 0 from rfl] at hx113_1); (try rw [Addr.add_zero'] at hx113_1); replace hx113_0 := (HB.out.cell (World.block_lt_of_cell? w _ hx113_0)).trans hx113_0; replace hx113_1 := (HB.out.cell (World.block_lt_of_cell? w _ hx113_1)).trans hx113_1; replace p113 := eq_true p113; replace q113 := eq_true q113) | ((with_reducible refine gate_callee (f := 32) rfl ?_); refine goesL_ (some 43) rfl rfl Try.func32 (by kernel_rfl) rfl #[.slice (some ad113) l0.length c0, .int .i64 ji18] rfl (by (try simp only [List.map_toArray, List.map_cons, List.map_nil]); first | done | (simp only [hji18]; rfl) | rfl | (simp only [List.length_drop, List.length_take]; rfl)) ?_; (with_reducible refine (profile_find.calls k _ _ l0 ji18 t114 _ ?side1 ?side2 A19.out).mono ?_); (case side1 => repeat (first | exact (Kd.C_below HR0.out HB.out) | (with_reducible refine Kd.C_alloc ?_ _) | (with_reducible refine Kd.C_drewN ?_ _) | (with_reducible refine Kd.C_drew ?_))); (case side2 => exact HC0.out); rintro e w21 ⟨rfl, hb⟩; refine ⟨_, rfl, ?_⟩; have n0_ := Aside0.mk (below_step (by repeat (first | (with_reducible first | exact HB.out | apply below_alloc | apply pw_below_drewN | apply below_drew1) | exact HB.out)) hb); clear HB; have HB := n0_; clear n0_; (try clear hb); (try clear hb2); (try clear hk); (try clear hi)))
                go_loopg [10, 11] k (fun kq v10 v11 w' => ∃ (x10_1 : Int) (x11_1 : Int), v10 = .int .i64 x10_1 ∧ v11 = .int .i64 x11_1 ∧ Aside0 (profile_Fit.l0 kq l0 a2 a3 x10_1 x11_1 = some (r1, r2)) ∧ Aside0 (kq ≤ k) ∧ Aside0 (Below w.heap.size w w'))
                case atStart => exact ⟨(ji18), (t114), (by first | rfl | (simp; done) | (simp only [← hji18] <;> (first | rfl | simp)) | (simp [*]; done)), (by first | rfl | (simp; done) | (simp [*]; done)), H', ⟨Nat.le_refl _⟩, ⟨by repeat (first | (with_reducible first | exact HB.out | apply below_alloc | apply pw_below_drewN | apply below_drew1) | exact HB.out)⟩⟩
                case round =>
                  clear H'
                  try clear c1
                  try clear p1
                  try clear q1
                  try clear hx1
                  try clear qi1
                  try clear c2
                  try clear p2
                  try clear c3
                  try clear c6
                  try clear c6b0
                  try clear c6b1
                  try clear c7
                  try clear c7b0
                  try clear c9
                  try clear c9b0
                  try clear c11
                  try clear c11b0
                  try clear p11
                  try clear q11
                  try clear hx11
                  try clear qi11
                  try clear c13
                  try clear c13b0
                  try clear c15
                  try clear c15b0
                  try clear c17
                  try clear c17b0
                  try clear c17b1
                  try clear c20
                  try clear hx113_0
                  try clear hx113_1
                  try clear p113
                  try clear q113
                  obtain ⟨x10_1, x11_1, rfl, rfl, HA, HK1, HB⟩ := hrel
                  cases gk with
                  | zero => exact absurd HA.out (by simp [profile_Fit.l0])
                  | succ k1 =>
                    have H := HA.out
                    clear HA
                    simp only [profile_Fit.l0] at H
                    by_cases c22 : x11_1 < (l0.length : Int)
                    · rw [if_pos c22] at H
                      have c22b0 : decide (x11_1 < (l0.length : Int)) = true := decide_eq_true c22
                      clear c22
                      have HC23 := Aside0.mk H
                      clear H
                      go_upto_region 9 with (fail)
                      go_cut [50] (fun v50 wc => ∃ (kq : Nat) (x50_22 : Bool), v50 = .bool x50_22 ∧ Aside0 (profile_Fit.j1 kq l0 a2 a3 x10_1 x11_1 x50_22 = some (r1, r2)) ∧ Aside0 (kq ≤ k1) ∧ Aside0 (Below w.heap.size w wc))
                      case first =>
                        have H := HC23.out
                        clear HC23
                        by_cases c24 : 0 ≤ x11_1
                        · rw [if_pos c24] at H
                          have c24b0 : decide (0 ≤ x11_1) = true := decide_eq_true c24
                          clear c24
                          (first | rw [c24b0] | (simp only [i64_w, i32_w]; rw [c24b0]) | skip)
                          by_cases c25 : ((rd_T39 l0 x11_1).f1) < a3
                          · rw [if_pos c25] at H
                            have c25b0 : decide (((rd_T39 l0 x11_1).f1) < a3) = true := decide_eq_true c25
                            clear c25
                            have H' := Aside0.mk H
                            clear H
                            have p115 : 0 ≤ (x11_1 : Int) := of_decide_eq_true (by first | (with_reducible assumption) | assumption)
                            have q115 : x11_1 < (l0.length : Int) := of_decide_eq_true (by first | (with_reducible assumption) | assumption)
                            obtain ⟨ad115, e115, hx115_0, hx115_1⟩ := at_T39 HR0.out x11_1 p115 q115
                            obtain rfl : ad113 = ad115 := (by injection e115)
                            replace hx115_0 := (HB.out.cell (World.block_lt_of_cell? w _ hx115_0)).trans hx115_0
                            replace hx115_1 := (HB.out.cell (World.block_lt_of_cell? w _ hx115_1)).trans hx115_1
                            replace p115 := eq_true p115
                            replace q115 := eq_true q115
                            go_wp2
                            go_meet
                            case rel => exact ⟨_, (((wrap64 (x11_1 + 1)) == (l0.length : Int))), (by first | rfl | (simp; done) | (simp [*]; done)), H', ⟨by have := HK1.out; first | omega | exact Nat.le_refl _⟩, ⟨by repeat (first | (with_reducible first | exact HB.out | apply below_alloc | apply pw_below_drewN | apply below_drew1) | exact HB.out)⟩⟩
                          · rw [if_neg c25] at H
                            have c25b0 : decide (((rd_T39 l0 x11_1).f1) < a3) = false := decide_eq_false c25
                            clear c25
                            have H' := Aside0.mk H
                            clear H
                            have p115 : 0 ≤ (x11_1 : Int) := of_decide_eq_true (by first | (with_reducible assumption) | assumption)
                            have q115 : x11_1 < (l0.length : Int) := of_decide_eq_true (by first | (with_reducible assumption) | assumption)
                            obtain ⟨ad115, e115, hx115_0, hx115_1⟩ := at_T39 HR0.out x11_1 p115 q115
                            obtain rfl : ad113 = ad115 := (by injection e115)
                            replace hx115_0 := (HB.out.cell (World.block_lt_of_cell? w _ hx115_0)).trans hx115_0
                            replace hx115_1 := (HB.out.cell (World.block_lt_of_cell? w _ hx115_1)).trans hx115_1
                            replace p115 := eq_true p115
                            replace q115 := eq_true q115
                            go_wp2
                            go_meet
                            case rel => exact ⟨_, (false), (by first | rfl | (simp; done) | (simp [*]; done)), H', ⟨by have := HK1.out; first | omega | exact Nat.le_refl _⟩, ⟨by repeat (first | (with_reducible first | exact HB.out | apply below_alloc | apply pw_below_drewN | apply below_drew1) | exact HB.out)⟩⟩
                        · rw [if_neg c24] at H
                          exact absurd H (by simp)
                      case rest =>
                        clear HC23
                        try clear c1
                        try clear p1
                        try clear q1
                        try clear hx1
                        try clear qi1
                        try clear c2
                        try clear p2
                        try clear c3
                        try clear c6
                        try clear c6b0
                        try clear c6b1
                        try clear p6
                        try clear c7
                        try clear c7b0
                        try clear c9
                        try clear c9b0
                        try clear c11
                        try clear c11b0
                        try clear p11
                        try clear q11
                        try clear hx11
                        try clear qi11
                        try clear c13
                        try clear c13b0
                        try clear c15
                        try clear c15b0
                        try clear c17
                        try clear c17b0
                        try clear c17b1
                        try clear c20
                        try clear c22
                        try clear c22b0
                        try clear c24
                        try clear c24b0
                        try clear c25
                        try clear c25b0
                        try clear hx113_0
                        try clear hx113_1
                        try clear hx115_0
                        try clear hx115_1
                        try clear p1
                        try clear p11
                        try clear p113
                        try clear p115
                        try clear p2
                        try clear q1
                        try clear q11
                        try clear q113
                        try clear q115
                        obtain ⟨kq, x50_22, rfl, HA, HJ22, HB⟩ := hcut
                        cases kq with
                        | zero => exact absurd HA.out (by simp [profile_Fit.j1])
                        | succ kj22 =>
                          have H := HA.out
                          clear HA
                          simp only [profile_Fit.j1] at H
                          by_cases c26 : x50_22 = true
                          · subst c26
                            have H1 : (some (0, 5)) = some (r1, r2) := by rw [if_pos rfl] at H; exact H
                            clear H
                            have H := H1
                            clear H1
                            simp only [Option.some.injEq, Prod.mk.injEq] at H
                            obtain ⟨rfl, rfl⟩ := H
                            go_wp2
                            go_ret2
                            exact ⟨by first | rfl | (simp [errW_none, errW_some] <;> rfl) | (simp only [← hji18]; first | rfl | (simp [errW_none, errW_some] <;> rfl)) | (simp [*, errW_none, errW_some] <;> rfl), by repeat (first | (with_reducible first | exact HB.out | apply below_alloc | apply pw_below_drewN | apply below_drew1) | exact HB.out)⟩
                          · replace c26 := Bool.eq_false_iff.mpr c26
                            subst c26
                            have H1 : (if 0 ≤ x11_1 then (if x11_1 < (l0.length : Int) then (if ((rd_T39 l0 x11_1).f1) < a3 then (if 0 ≤ (wrap64 (x11_1 + 1)) then (if (wrap64 (x11_1 + 1)) < (l0.length : Int) then (profile_Fit.l0 kj22 l0 a2 a3 ((rd_T39 l0 (wrap64 (x11_1 + 1))).f0) (wrap64 (x11_1 + 1))) else (none)) else (none)) else (if (wrap64 (x11_1 + 1)) = (l0.length : Int) then (some (x10_1, 0)) else (if 0 ≤ (wrap64 (x11_1 + 1)) then (if (wrap64 (x11_1 + 1)) < (l0.length : Int) then (if (wrap64 (((rd_T39 l0 (wrap64 (x11_1 + 1))).f0) - x10_1)) ≥ a2 then (some (x10_1, 0)) else (profile_Fit.l0 kj22 l0 a2 a3 x10_1 (wrap64 (x11_1 + 1)))) else (none)) else (none)))) else (none)) else (none)) = some (r1, r2) := by rw [if_neg (show ¬ (false = true) by decide)] at H; exact H
                            clear H
                            have H := H1
                            clear H1
                            by_cases c27 : 0 ≤ x11_1
                            · rw [if_pos c27] at H
                              have c27b0 : decide (0 ≤ x11_1) = true := decide_eq_true c27
                              clear c27
                              by_cases c28 : x11_1 < (l0.length : Int)
                              · rw [if_pos c28] at H
                                have c28b0 : decide (x11_1 < (l0.length : Int)) = true := decide_eq_true c28
                                clear c28
                                by_cases c29 : ((rd_T39 l0 x11_1).f1) < a3
                                · rw [if_pos c29] at H
                                  have c29b0 : decide (((rd_T39 l0 x11_1).f1) < a3) = true := decide_eq_true c29
                                  clear c29
                                  obtain ⟨ji30, hji30⟩ : ∃ j_ : Int, (wrap64 (x11_1 + 1)) = j_ := ⟨_, rfl⟩
                                  replace H : (if 0 ≤ (ji30) then (if (ji30) < (l0.length : Int) then (profile_Fit.l0 kj22 l0 a2 a3 ((rd_T39 l0 (ji30)).f0) ji30) else (none)) else (none)) = some (r1, r2) := by first | (rw [hji30] at H; exact H) | (simp only [hji30] at H ⊢; exact H)
                                  have hji30w : (IntKind.i64.wrap (x11_1 + 1)) = ji30 := (i64_w _).trans hji30
                                  by_cases c31 : 0 ≤ (ji30)
                                  · rw [if_pos c31] at H
                                    have c31b0 : decide (0 ≤ (ji30)) = true := decide_eq_true c31
                                    clear c31
                                    by_cases c32 : (ji30) < (l0.length : Int)
                                    · rw [if_pos c32] at H
                                      have c32b0 : decide ((ji30) < (l0.length : Int)) = true := decide_eq_true c32
                                      clear c32
                                      have H' := Aside0.mk H
                                      clear H
                                      have p116 : 0 ≤ (x11_1 : Int) := of_decide_eq_true (by first | (with_reducible assumption) | assumption)
                                      have q116 : x11_1 < (l0.length : Int) := of_decide_eq_true (by first | (with_reducible assumption) | assumption)
                                      obtain ⟨ad116, e116, hx116_0, hx116_1⟩ := at_T39 HR0.out x11_1 p116 q116
                                      obtain rfl : ad113 = ad116 := (by injection e116)
                                      replace hx116_0 := (HB.out.cell (World.block_lt_of_cell? w _ hx116_0)).trans hx116_0
                                      replace hx116_1 := (HB.out.cell (World.block_lt_of_cell? w _ hx116_1)).trans hx116_1
                                      replace p116 := eq_true p116
                                      replace q116 := eq_true q116
                                      have p117 : 0 ≤ ((ji30) : Int) := of_decide_eq_true (by first | (with_reducible assumption) | assumption)
                                      have q117 : (ji30) < (l0.length : Int) := of_decide_eq_true (by first | (with_reducible assumption) | assumption)
                                      obtain ⟨ad117, e117, hx117_0, hx117_1⟩ := at_T39 HR0.out (ji30) p117 q117
                                      obtain rfl : ad113 = ad117 := (by injection e117)
                                      replace hx117_0 := (HB.out.cell (World.block_lt_of_cell? w _ hx117_0)).trans hx117_0
                                      replace hx117_1 := (HB.out.cell (World.block_lt_of_cell? w _ hx117_1)).trans hx117_1
                                      replace p117 := eq_true p117
                                      replace q117 := eq_true q117
                                      go_wp2
                                      go_roundg kj22
                                      case measure => have := HK1.out; have := HJ22.out; omega
                                      case rel => exact ⟨((rd_T39 l0 (ji30)).f0), (ji30), (by first | rfl | (simp; done) | (simp only [← hji30] <;> (first | rfl | simp)) | (simp [*]; done)), (by first | rfl | (simp; done) | (simp only [← hji30] <;> (first | rfl | simp)) | (simp [*]; done)), H', ⟨by have := HK1.out; have := HJ22.out; omega⟩, ⟨by repeat (first | (with_reducible first | exact HB.out | apply below_alloc | apply pw_below_drewN | apply below_drew1) | exact HB.out)⟩⟩
                                    · rw [if_neg c32] at H
                                      exact absurd H (by simp)
                                  · rw [if_neg c31] at H
                                    exact absurd H (by simp)
                                · rw [if_neg c29] at H
                                  have c29b0 : decide (((rd_T39 l0 x11_1).f1) < a3) = false := decide_eq_false c29
                                  clear c29
                                  by_cases c33 : (wrap64 (x11_1 + 1)) = (l0.length : Int)
                                  · rw [if_pos c33] at H
                                    have c33b0 : ((wrap64 (x11_1 + 1)) == (l0.length : Int)) = true := beq_iff_eq.mpr c33
                                    have c33b1 : ((wrap64 (x11_1 + 1)) != (l0.length : Int)) = false := bne_eq_false_iff_eq.mpr c33
                                    clear c33
                                    simp only [Option.some.injEq, Prod.mk.injEq] at H
                                    obtain ⟨rfl, rfl⟩ := H
                                    have p116 : 0 ≤ (x11_1 : Int) := of_decide_eq_true (by first | (with_reducible assumption) | assumption)
                                    have q116 : x11_1 < (l0.length : Int) := of_decide_eq_true (by first | (with_reducible assumption) | assumption)
                                    obtain ⟨ad116, e116, hx116_0, hx116_1⟩ := at_T39 HR0.out x11_1 p116 q116
                                    obtain rfl : ad113 = ad116 := (by injection e116)
                                    replace hx116_0 := (HB.out.cell (World.block_lt_of_cell? w _ hx116_0)).trans hx116_0
                                    replace hx116_1 := (HB.out.cell (World.block_lt_of_cell? w _ hx116_1)).trans hx116_1
                                    replace p116 := eq_true p116
                                    replace q116 := eq_true q116
                                    go_wp2
                                    go_ret2
                                    exact ⟨by first | rfl | (simp [errW_none, errW_some] <;> rfl) | (simp only [← hji18]; first | rfl | (simp [errW_none, errW_some] <;> rfl)) | (simp [*, errW_none, errW_some] <;> rfl), by repeat (first | (with_reducible first | exact HB.out | apply below_alloc | apply pw_below_drewN | apply below_drew1) | exact HB.out)⟩
                                  · rw [if_neg c33] at H
                                    have c33b0 : ((wrap64 (x11_1 + 1)) == (l0.length : Int)) = false := beq_eq_false_iff_ne.mpr c33
                                    have c33b1 : ((wrap64 (x11_1 + 1)) != (l0.length : Int)) = true := bne_iff_ne.mpr c33
                                    obtain ⟨ji34, hji34⟩ : ∃ j_ : Int, (wrap64 (x11_1 + 1)) = j_ := ⟨_, rfl⟩
                                    replace H : (if 0 ≤ (ji34) then (if (ji34) < (l0.length : Int) then (if (wrap64 (((rd_T39 l0 (ji34)).f0) - x10_1)) ≥ a2 then (some (x10_1, 0)) else (profile_Fit.l0 kj22 l0 a2 a3 x10_1 ji34)) else (none)) else (none)) = some (r1, r2) := by first | (rw [hji34] at H; exact H) | (simp only [hji34] at H ⊢; exact H)
                                    (try rw [hji34] at c33b0)
                                    (try rw [hji34] at c33b1)
                                    have hji34w : (IntKind.i64.wrap (x11_1 + 1)) = ji34 := (i64_w _).trans hji34
                                    by_cases c35 : 0 ≤ (ji34)
                                    · rw [if_pos c35] at H
                                      have c35b0 : decide (0 ≤ (ji34)) = true := decide_eq_true c35
                                      clear c35
                                      by_cases c36 : (ji34) < (l0.length : Int)
                                      · rw [if_pos c36] at H
                                        have c36b0 : decide ((ji34) < (l0.length : Int)) = true := decide_eq_true c36
                                        clear c36
                                        by_cases c37 : (wrap64 (((rd_T39 l0 (ji34)).f0) - x10_1)) ≥ a2
                                        · rw [if_pos c37] at H
                                          have c37b0 : decide (a2 ≤ (wrap64 (((rd_T39 l0 (ji34)).f0) - x10_1))) = true := decide_eq_true c37
                                          clear c37
                                          simp only [Option.some.injEq, Prod.mk.injEq] at H
                                          obtain ⟨rfl, rfl⟩ := H
                                          have p116 : 0 ≤ (x11_1 : Int) := of_decide_eq_true (by first | (with_reducible assumption) | assumption)
                                          have q116 : x11_1 < (l0.length : Int) := of_decide_eq_true (by first | (with_reducible assumption) | assumption)
                                          obtain ⟨ad116, e116, hx116_0, hx116_1⟩ := at_T39 HR0.out x11_1 p116 q116
                                          obtain rfl : ad113 = ad116 := (by injection e116)
                                          replace hx116_0 := (HB.out.cell (World.block_lt_of_cell? w _ hx116_0)).trans hx116_0
                                          replace hx116_1 := (HB.out.cell (World.block_lt_of_cell? w _ hx116_1)).trans hx116_1
                                          replace p116 := eq_true p116
                                          replace q116 := eq_true q116
                                          have p118 : 0 ≤ ((ji34) : Int) := of_decide_eq_true (by first | (with_reducible assumption) | assumption)
                                          have q118 : (ji34) < (l0.length : Int) := of_decide_eq_true (by first | (with_reducible assumption) | assumption)
                                          obtain ⟨ad118, e118, hx118_0, hx118_1⟩ := at_T39 HR0.out (ji34) p118 q118
                                          obtain rfl : ad113 = ad118 := (by injection e118)
                                          replace hx118_0 := (HB.out.cell (World.block_lt_of_cell? w _ hx118_0)).trans hx118_0
                                          replace hx118_1 := (HB.out.cell (World.block_lt_of_cell? w _ hx118_1)).trans hx118_1
                                          replace p118 := eq_true p118
                                          replace q118 := eq_true q118
                                          go_wp2
                                          go_ret2
                                          exact ⟨by first | rfl | (simp [errW_none, errW_some] <;> rfl) | (simp only [← hji18, ← hji34]; first | rfl | (simp [errW_none, errW_some] <;> rfl)) | (simp [*, errW_none, errW_some] <;> rfl), by repeat (first | (with_reducible first | exact HB.out | apply below_alloc | apply pw_below_drewN | apply below_drew1) | exact HB.out)⟩
                                        · rw [if_neg c37] at H
                                          have c37b0 : decide (a2 ≤ (wrap64 (((rd_T39 l0 (ji34)).f0) - x10_1))) = false := decide_eq_false c37
                                          clear c37
                                          have H' := Aside0.mk H
                                          clear H
                                          have p116 : 0 ≤ (x11_1 : Int) := of_decide_eq_true (by first | (with_reducible assumption) | assumption)
                                          have q116 : x11_1 < (l0.length : Int) := of_decide_eq_true (by first | (with_reducible assumption) | assumption)
                                          obtain ⟨ad116, e116, hx116_0, hx116_1⟩ := at_T39 HR0.out x11_1 p116 q116
                                          obtain rfl : ad113 = ad116 := (by injection e116)
                                          replace hx116_0 := (HB.out.cell (World.block_lt_of_cell? w _ hx116_0)).trans hx116_0
                                          replace hx116_1 := (HB.out.cell (World.block_lt_of_cell? w _ hx116_1)).trans hx116_1
                                          replace p116 := eq_true p116
                                          replace q116 := eq_true q116
                                          have p118 : 0 ≤ ((ji34) : Int) := of_decide_eq_true (by first | (with_reducible assumption) | assumption)
                                          have q118 : (ji34) < (l0.length : Int) := of_decide_eq_true (by first | (with_reducible assumption) | assumption)
                                          obtain ⟨ad118, e118, hx118_0, hx118_1⟩ := at_T39 HR0.out (ji34) p118 q118
                                          obtain rfl : ad113 = ad118 := (by injection e118)
                                          replace hx118_0 := (HB.out.cell (World.block_lt_of_cell? w _ hx118_0)).trans hx118_0
                                          replace hx118_1 := (HB.out.cell (World.block_lt_of_cell? w _ hx118_1)).trans hx118_1
                                          replace p118 := eq_true p118
                                          replace q118 := eq_true q118
                                          go_wp2
                                          go_roundg kj22
                                          case measure => have := HK1.out; have := HJ22.out; omega
                                          case rel => exact ⟨(x10_1), (ji34), (by first | rfl | (simp; done) | (simp [*]; done)), (by first | rfl | (simp; done) | (simp only [← hji34] <;> (first | rfl | simp)) | (simp [*]; done)), H', ⟨by have := HK1.out; have := HJ22.out; omega⟩, ⟨by repeat (first | (with_reducible first | exact HB.out | apply below_alloc | apply pw_below_drewN | apply below_drew1) | exact HB.out)⟩⟩
                                      · rw [if_neg c36] at H
                                        exact absurd H (by simp)
                                    · rw [if_neg c35] at H
                                      exact absurd H (by simp)
                              · rw [if_neg c28] at H
                                exact absurd H (by simp)
                            · rw [if_neg c27] at H
                              exact absurd H (by simp)
                    · rw [if_neg c22] at H
                      have c22b0 : decide (x11_1 < (l0.length : Int)) = false := decide_eq_false c22
                      clear c22
                      simp only [Option.some.injEq, Prod.mk.injEq] at H
                      obtain ⟨rfl, rfl⟩ := H
                      go_wp2
                      go_ret2
                      exact ⟨by first | rfl | (simp [errW_none, errW_some] <;> rfl) | (simp only [← hji18]; first | rfl | (simp [errW_none, errW_some] <;> rfl)) | (simp [*, errW_none, errW_some] <;> rfl), by repeat (first | (with_reducible first | exact HB.out | apply below_alloc | apply pw_below_drewN | apply below_drew1) | exact HB.out)⟩
              · rw [if_neg c17] at H
                exact absurd H (by simp)
  · rw [if_neg c6] at H
    have c6b0 : (t112 == 0) = false := beq_eq_false_iff_ne.mpr c6
    have c6b1 : (t112 != 0) = true := bne_iff_ne.mpr c6
    simp only [Option.some.injEq, Prod.mk.injEq] at H
    obtain ⟨rfl, rfl⟩ := H
    go_enter Try.func13, Try.ntmps13
    go_wp2_with (first | ((with_reducible refine gate_callee (f := 20) rfl ?_); refine goesL_ (some 14) rfl rfl Try.func20 (by kernel_rfl) rfl #[.slice A0 l0.length c0] rfl (by (try simp only [List.map_toArray, List.map_cons, List.map_nil]); first | done | rfl | (simp only [List.length_drop, List.length_take]; rfl)) ?_; (with_reducible refine (profile_Check.calls k _ _ l0 t112 _ ?side1 ?side2 A5.out).mono ?_); (case side1 => repeat (first | exact HR0.out | (with_reducible refine Kd.C_alloc ?_ _) | (with_reducible refine Kd.C_drewN ?_ _) | (with_reducible refine Kd.C_drew ?_))); (case side2 => exact HC0.out); rintro e w38 ⟨rfl, hb⟩; refine ⟨_, rfl, ?_⟩; have n0_ := Aside0.mk (below_step (by repeat (first | (with_reducible first | exact HB.out | apply below_alloc | apply pw_below_drewN | apply below_drew1) | exact HB.out)) hb); clear HB; have HB := n0_; clear n0_; (try clear hb); (try clear hb2); (try clear hk); (try clear hi)))
    go_ret2
    exact ⟨by first | rfl | (simp [errW_none, errW_some] <;> rfl) | (simp [*, errW_none, errW_some] <;> rfl), by repeat (first | (with_reducible first | exact HB.out | apply below_alloc | apply pw_below_drewN | apply below_drew1) | exact HB.out)⟩

-- NOT PRINTED: function 43 (api_Level_43)

-- NOT PRINTED: function 46 (api_Level_46)

-- NOT PRINTED: function 45 (api_Level_45)

-- NOT PRINTED: function 44 (api_Level_44)

end Go.Proofs.Ytfcmpnajokjaaaa.P
