/- The machine's side of the laws of this seat: each function's plain form and its contract, written by a program of this session out of Lean's print of the loaded functions; no condition beyond what each statement says. -/
import Derived.Test.YtfcmpnajokjaaaaP0
import Derived.Test.YtfcmpnajokjaaaaP2
import Derived.Test.YtfcmpnajokjaaaaP5
import Derived.Test.YtfcmpnajokjaaaaP6
import Derived.Test.YtfcmpnajokjaaaaP7
import Derived.Test.YtfcmpnajokjaaaaP8
namespace Go.Proofs.Ytfcmpnajokjaaaa.P
open Go.RowKit Go.Proofs.YtfcmpnajokjaaaaW.PrintWords Go.Proofs.YtfcmpnajokjaaaaW.PrintLast Go.Proofs.YtfcmpnajokjaaaaW.PrintMore
attribute [local go_sem] max2_int min2_int max_two min_two max_three min_three max_four min_four   -- for this text's walks alone
set_option linter.unusedVariables false
set_option linter.unusedSimpArgs false

attribute [local go_sem] isSome_setCell
/-! ### profile_Least: function 24 -/
mutual
def profile_Least.j0 : Nat → List (S39) → Int → Int → Bool → Option (Int)
  | 0, _, _, _, _ => none
  | k + 1, x0, x1, x2, x24 => if x24 = true then (some 0) else ((profile_find.f k x0 (mn x1 1099511627776)).bind fun t414 => (if 0 ≤ t414 then (if t414 ≤ (x0.length : Int) then ((some (x0.drop (t414 : Int).toNat : List (S39))).bind fun y415 => (profile_Least.l0 k (mn x1 1099511627776) (mn x2 1099511627776) 1099511627776 y415 (y415.length : Int) 0)) else (none)) else (none)))
def profile_Least.l0 : Nat → Int → Int → Int → List (S39) → Int → Int → Option (Int)
  | 0, _, _, _, _, _, _ => none
  | k + 1, x1, x2, x7, x33, x34, x35 => if x35 < x34 then (if 0 ≤ x35 then (if x35 < (x33.length : Int) then (if ((rd_T39 x33 x35).f0) ≥ (wrap64 (x1 + x2)) then (some x7) else (profile_Least.l0 k x1 x2 (mn x7 ((rd_T39 x33 x35).f1)) x33 x34 (wrap64 (x35 + 1)))) else (none)) else (none)) else (some x7)
end
def profile_Least.f (k : Nat) (l0 : List (S39)) (a1 : Int) (a2 : Int) : Option (Int) := (profile_Check.f k l0).bind fun t412 => (if t412 = 0 then (if a2 < 1 then (profile_Least.j0 k l0 a1 a2 true) else (if 0 < (l0.length : Int) then (profile_Least.j0 k l0 a1 a2 (decide (a1 < ((rd_T39 l0 0).f0)))) else (none))) else (profile_Least.j0 k l0 a1 a2 true))
theorem profile_Least.mono_l : ∀ k, (∀ y0 y1 y2 y3, LeO (profile_Least.j0 k y0 y1 y2 y3) (profile_Least.j0 (k + 1) y0 y1 y2 y3)) ∧ (∀ y0 y1 y2 y3 y4 y5, LeO (profile_Least.l0 k y0 y1 y2 y3 y4 y5) (profile_Least.l0 (k + 1) y0 y1 y2 y3 y4 y5))
  | 0 => ⟨fun _ _ _ _ r h => by simp [profile_Least.j0] at h, fun _ _ _ _ _ _ r h => by simp [profile_Least.l0] at h⟩
  | k + 1 => by
    obtain ⟨ih0, ih1⟩ := profile_Least.mono_l k
    refine ⟨?_, ?_⟩
    · intro y0 y1 y2 y3
      unfold profile_Least.j0
      repeat' first
      | (with_reducible exact ih0 _ _ _ _)
      | (with_reducible exact ih1 _ _ _ _ _ _)
      | (with_reducible exact profile_Check.mono _ _)
      | (with_reducible exact profile_find.mono _ _ _)
      | (with_reducible exact LeO.refl _)
      | (with_reducible exact LeO.none _)
      | (with_reducible refine LeO.ite ?_ ?_)
      | (with_reducible refine LeO.bind ?_ (fun _ => ?_))
      | exact ih0 _ _ _ _
      | exact ih1 _ _ _ _ _ _
      | exact profile_Check.mono _ _
      | exact profile_find.mono _ _ _
      | exact LeO.none _
      | refine LeO.ite ?_ ?_
      | refine LeO.bind ?_ (fun _ => ?_)
    · intro y0 y1 y2 y3 y4 y5
      unfold profile_Least.l0
      repeat' first
      | (with_reducible exact ih0 _ _ _ _)
      | (with_reducible exact ih1 _ _ _ _ _ _)
      | (with_reducible exact profile_Check.mono _ _)
      | (with_reducible exact profile_find.mono _ _ _)
      | (with_reducible exact LeO.refl _)
      | (with_reducible exact LeO.none _)
      | (with_reducible refine LeO.ite ?_ ?_)
      | (with_reducible refine LeO.bind ?_ (fun _ => ?_))
      | exact ih0 _ _ _ _
      | exact ih1 _ _ _ _ _ _
      | exact profile_Check.mono _ _
      | exact profile_find.mono _ _ _
      | exact LeO.none _
      | refine LeO.ite ?_ ?_
      | refine LeO.bind ?_ (fun _ => ?_)
theorem profile_Least.mono : ∀ a0 a1 a2 k, LeO (profile_Least.f k a0 a1 a2) (profile_Least.f (k + 1) a0 a1 a2) := by
  intro a0 a1 a2 k
  obtain ⟨ih0, ih1⟩ := profile_Least.mono_l k
  unfold profile_Least.f
  repeat' first
      | (with_reducible exact ih0 _ _ _ _)
      | (with_reducible exact ih1 _ _ _ _ _ _)
      | (with_reducible exact profile_Check.mono _ _)
      | (with_reducible exact profile_find.mono _ _ _)
      | (with_reducible exact LeO.refl _)
      | (with_reducible exact LeO.none _)
      | (with_reducible refine LeO.ite ?_ ?_)
      | (with_reducible refine LeO.bind ?_ (fun _ => ?_))
      | exact ih0 _ _ _ _
      | exact ih1 _ _ _ _ _ _
      | exact profile_Check.mono _ _
      | exact profile_find.mono _ _ _
      | exact LeO.none _
      | refine LeO.ite ?_ ?_
      | refine LeO.bind ?_ (fun _ => ?_)
set_option maxHeartbeats 8000000 in
set_option maxRecDepth 100000 in
theorem profile_Least.calls (k : Nat) (A0 : Option Addr) (c0 : Nat) (l0 : List (S39)) (a1 : Int) (a2 : Int) (r : Int) (w : World) (hr0 : Kd.C k39 w A0 l0.length l0) (hc0 : l0.length ≤ c0) (h : profile_Least.f k l0 a1 a2 = some r) :
    Calls Try.prog 24 #[.slice A0 l0.length c0, .int .i64 a1, .int .i64 a2] w fun e w' => e = .returned (.int .i64 r) ∧ Below w.heap.size w w' := by
  have hu39 := Try.underlying39
  have HR0 := Aside0.mk hr0
  have HC0 := Aside0.mk hc0
  clear hr0 hc0
  have HB := Aside0.mk (Below.refl w.heap.size w)
  have H : ((profile_Check.f k l0).bind fun t412 => (if t412 = 0 then (if a2 < 1 then (profile_Least.j0 k l0 a1 a2 true) else (if 0 < (l0.length : Int) then (profile_Least.j0 k l0 a1 a2 (decide (a1 < ((rd_T39 l0 0).f0)))) else (none))) else (profile_Least.j0 k l0 a1 a2 true))) = some r := h
  clear h
  have HC4 := Aside0.mk H
  clear H
  go_enter Try.func24, Try.ntmps24
  go_upto_region 1 with (fail)
  go_cut [24] (fun v24 wc => ∃ (kq : Nat) (x24_3 : Bool), v24 = .bool x24_3 ∧ Aside0 (profile_Least.j0 kq l0 a1 a2 x24_3 = some r) ∧ Aside0 (kq ≤ k) ∧ Aside0 (Below w.heap.size w wc))
  case first =>
    have H := HC4.out
    clear HC4
    replace H := Option.bind_eq_some_iff.mp H
    obtain ⟨t412, A50, H⟩ := H
    replace H : (if t412 = 0 then (if a2 < 1 then (profile_Least.j0 k l0 a1 a2 true) else (if 0 < (l0.length : Int) then (profile_Least.j0 k l0 a1 a2 (decide (a1 < ((rd_T39 l0 0).f0)))) else (none))) else (profile_Least.j0 k l0 a1 a2 true)) = some r := H
    have A5 := Aside0.mk A50
    clear A50
    by_cases c6 : t412 = 0
    · rw [if_pos c6] at H
      have c6b0 : (t412 == 0) = true := beq_iff_eq.mpr c6
      have c6b1 : (t412 != 0) = false := bne_eq_false_iff_eq.mpr c6
      clear c6
      (first | rw [c6b0] | (simp only [i64_w, i32_w]; rw [c6b0]) | skip)
      by_cases c7 : a2 < 1
      · rw [if_pos c7] at H
        have c7b0 : decide (a2 < 1) = true := decide_eq_true c7
        clear c7
        have H' := Aside0.mk H
        clear H
        go_wp2_with (first | ((with_reducible refine gate_callee (f := 20) rfl ?_); refine goesL_ (some 11) rfl rfl Try.func20 (by kernel_rfl) rfl #[.slice A0 l0.length c0] rfl (by (try simp only [List.map_toArray, List.map_cons, List.map_nil]); first | done | rfl | (simp only [List.length_drop, List.length_take]; rfl)) ?_; (with_reducible refine (profile_Check.calls k _ _ l0 t412 _ ?side1 ?side2 A5.out).mono ?_); (case side1 => repeat (first | exact (Kd.C_below HR0.out HB.out) | (with_reducible refine Kd.C_alloc ?_ _) | (with_reducible refine Kd.C_drewN ?_ _) | (with_reducible refine Kd.C_drew ?_))); (case side2 => exact HC0.out); rintro e w8 ⟨rfl, hb⟩; refine ⟨_, rfl, ?_⟩; have n0_ := Aside0.mk (below_step (by repeat (first | (with_reducible first | exact HB.out | apply below_alloc | apply pw_below_drewN | apply below_drew1) | exact HB.out)) hb); clear HB; have HB := n0_; clear n0_; (try clear hb); (try clear hb2); (try clear hk); (try clear hi)))
        go_meet
        case rel => exact ⟨_, (true), (by first | rfl | (simp; done) | (simp [*]; done)), H', ⟨by first | omega | exact Nat.le_refl _⟩, ⟨by repeat (first | (with_reducible first | exact HB.out | apply below_alloc | apply pw_below_drewN | apply below_drew1) | exact HB.out)⟩⟩
      · rw [if_neg c7] at H
        have c7b0 : decide (a2 < 1) = false := decide_eq_false c7
        clear c7
        by_cases c9 : 0 < (l0.length : Int)
        · rw [if_pos c9] at H
          have c9b0 : decide (0 < (l0.length : Int)) = true := decide_eq_true c9
          have c9b1 : decide (0 < l0.length) = true := decide_eq_true (by omega)
          clear c9
          have H' := Aside0.mk H
          clear H
          go_wp2_with (first | ((with_reducible refine gate_callee (f := 20) rfl ?_); refine goesL_ (some 11) rfl rfl Try.func20 (by kernel_rfl) rfl #[.slice A0 l0.length c0] rfl (by (try simp only [List.map_toArray, List.map_cons, List.map_nil]); first | done | rfl | (simp only [List.length_drop, List.length_take]; rfl)) ?_; (with_reducible refine (profile_Check.calls k _ _ l0 t412 _ ?side1 ?side2 A5.out).mono ?_); (case side1 => repeat (first | exact (Kd.C_below HR0.out HB.out) | (with_reducible refine Kd.C_alloc ?_ _) | (with_reducible refine Kd.C_drewN ?_ _) | (with_reducible refine Kd.C_drew ?_))); (case side2 => exact HC0.out); rintro e w10 ⟨rfl, hb⟩; refine ⟨_, rfl, ?_⟩; have n0_ := Aside0.mk (below_step (by repeat (first | (with_reducible first | exact HB.out | apply below_alloc | apply pw_below_drewN | apply below_drew1) | exact HB.out)) hb); clear HB; have HB := n0_; clear n0_; (try clear hb); (try clear hb2); (try clear hk); (try clear hi); have p413 : 0 ≤ (0 : Int) := (by omega); have q413 : 0 < (l0.length : Int) := of_decide_eq_true (by first | (with_reducible assumption) | assumption); obtain ⟨ad413, e413, hx413_0, hx413_1⟩ := at_T39 HR0.out 0 p413 q413; cases e413; have qi413 : (0 < l0.length) = True := eq_true (by omega); (try rw [show ((0 : Int)).toNat = 0 from rfl] at hx413_0); (try rw [show 0 * 2 = 0 from rfl] at hx413_0); (try rw [Addr.add_zero'] at hx413_0); (try rw [show ((0 : Int)).toNat = 0 from rfl] at hx413_1); (try rw [show 0 * 2 = 0 from rfl] at hx413_1); (try rw [Addr.add_zero'] at hx413_1); replace hx413_0 := (HB.out.cell (World.block_lt_of_cell? w _ hx413_0)).trans hx413_0; replace hx413_1 := (HB.out.cell (World.block_lt_of_cell? w _ hx413_1)).trans hx413_1; replace p413 := eq_true p413; replace q413 := eq_true q413))
          go_meet
          case rel => exact ⟨_, (decide (a1 < ((rd_T39 l0 0).f0))), (by first | rfl | (simp; done) | (simp [*]; done)), H', ⟨by first | omega | exact Nat.le_refl _⟩, ⟨by repeat (first | (with_reducible first | exact HB.out | apply below_alloc | apply pw_below_drewN | apply below_drew1) | exact HB.out)⟩⟩
        · rw [if_neg c9] at H
          exact absurd H (by simp)
    · rw [if_neg c6] at H
      have c6b0 : (t412 == 0) = false := beq_eq_false_iff_ne.mpr c6
      have c6b1 : (t412 != 0) = true := bne_iff_ne.mpr c6
      (first | rw [c6b0] | (simp only [i64_w, i32_w]; rw [c6b0]) | skip)
      have H' := Aside0.mk H
      clear H
      go_wp2_with (first | ((with_reducible refine gate_callee (f := 20) rfl ?_); refine goesL_ (some 11) rfl rfl Try.func20 (by kernel_rfl) rfl #[.slice A0 l0.length c0] rfl (by (try simp only [List.map_toArray, List.map_cons, List.map_nil]); first | done | rfl | (simp only [List.length_drop, List.length_take]; rfl)) ?_; (with_reducible refine (profile_Check.calls k _ _ l0 t412 _ ?side1 ?side2 A5.out).mono ?_); (case side1 => repeat (first | exact (Kd.C_below HR0.out HB.out) | (with_reducible refine Kd.C_alloc ?_ _) | (with_reducible refine Kd.C_drewN ?_ _) | (with_reducible refine Kd.C_drew ?_))); (case side2 => exact HC0.out); rintro e w11 ⟨rfl, hb⟩; refine ⟨_, rfl, ?_⟩; have n0_ := Aside0.mk (below_step (by repeat (first | (with_reducible first | exact HB.out | apply below_alloc | apply pw_below_drewN | apply below_drew1) | exact HB.out)) hb); clear HB; have HB := n0_; clear n0_; (try clear hb); (try clear hb2); (try clear hk); (try clear hi)))
      go_meet
      case rel => exact ⟨_, (true), (by first | rfl | (simp; done) | (simp [*]; done)), H', ⟨by first | omega | exact Nat.le_refl _⟩, ⟨by repeat (first | (with_reducible first | exact HB.out | apply below_alloc | apply pw_below_drewN | apply below_drew1) | exact HB.out)⟩⟩
  case rest =>
    clear HC4
    try clear c2
    try clear p2
    try clear p4
    try clear q4
    try clear hx4
    try clear qi4
    try clear c6
    try clear c6b0
    try clear c6b1
    try clear c7
    try clear c7b0
    try clear c9
    try clear c9b0
    try clear c9b1
    try clear hx413_0
    try clear hx413_1
    try clear p413
    try clear q413
    obtain ⟨kq, x24_3, rfl, HA, HJ3, HB⟩ := hcut
    cases kq with
    | zero => exact absurd HA.out (by simp [profile_Least.j0])
    | succ kj3 =>
      have H := HA.out
      clear HA
      simp only [profile_Least.j0] at H
      by_cases c12 : x24_3 = true
      · subst c12
        have H1 : (some 0) = some r := by rw [if_pos rfl] at H; exact H
        clear H
        have H := H1
        clear H1
        obtain rfl := Option.some.inj H
        go_wp2
        go_ret
        exact ⟨by first | rfl | (simp [errW_none, errW_some] <;> rfl) | (simp [*, errW_none, errW_some] <;> rfl), by repeat (first | (with_reducible first | exact HB.out | apply below_alloc | apply pw_below_drewN | apply below_drew1) | exact HB.out)⟩
      · replace c12 := Bool.eq_false_iff.mpr c12
        subst c12
        have H1 : ((profile_find.f kj3 l0 (mn a1 1099511627776)).bind fun t414 => (if 0 ≤ t414 then (if t414 ≤ (l0.length : Int) then ((some (l0.drop (t414 : Int).toNat : List (S39))).bind fun y415 => (profile_Least.l0 kj3 (mn a1 1099511627776) (mn a2 1099511627776) 1099511627776 y415 (y415.length : Int) 0)) else (none)) else (none))) = some r := by rw [if_neg (show ¬ (false = true) by decide)] at H; exact H
        clear H
        have H := H1
        clear H1
        obtain ⟨ji13, hji13⟩ : ∃ j_ : Int, (mn a1 1099511627776) = j_ := ⟨_, rfl⟩
        replace H : ((profile_find.f kj3 l0 (ji13)).bind fun t414 => (if 0 ≤ t414 then (if t414 ≤ (l0.length : Int) then ((some (l0.drop (t414 : Int).toNat : List (S39))).bind fun y415 => (profile_Least.l0 kj3 ji13 (mn a2 1099511627776) 1099511627776 y415 (y415.length : Int) 0)) else (none)) else (none))) = some r := by first | (rw [hji13] at H; exact H) | (simp only [hji13] at H ⊢; exact H)
        (try (have hji13h : ji13 ≤ 1099511627776 := by (rw [← hji13]; unfold mn; (repeat' split) <;> omega)))
        (try (have hji13g : ji13 ≤ 64 := by omega))
        have hji13_ : (if 1099511627776 < a1 then 1099511627776 else a1) = ji13 := hji13
        obtain ⟨ji14, hji14⟩ : ∃ j_ : Int, (mn a2 1099511627776) = j_ := ⟨_, rfl⟩
        replace H : ((profile_find.f kj3 l0 (ji13)).bind fun t414 => (if 0 ≤ t414 then (if t414 ≤ (l0.length : Int) then ((some (l0.drop (t414 : Int).toNat : List (S39))).bind fun y415 => (profile_Least.l0 kj3 ji13 ji14 1099511627776 y415 (y415.length : Int) 0)) else (none)) else (none))) = some r := by first | (rw [hji14] at H; exact H) | (simp only [hji14] at H ⊢; exact H)
        have hji14_ : (if 1099511627776 < a2 then 1099511627776 else a2) = ji14 := hji14
        replace H := Option.bind_eq_some_iff.mp H
        obtain ⟨t414, A150, H⟩ := H
        replace H : (if 0 ≤ t414 then (if t414 ≤ (l0.length : Int) then ((some (l0.drop (t414 : Int).toNat : List (S39))).bind fun y415 => (profile_Least.l0 kj3 ji13 ji14 1099511627776 y415 (y415.length : Int) 0)) else (none)) else (none)) = some r := H
        have A15 := Aside0.mk A150
        clear A150
        by_cases c16 : 0 ≤ t414
        · rw [if_pos c16] at H
          have c16b0 := eq_true c16
          have c16b1 : decide (0 ≤ t414) = true := decide_eq_true c16
          clear c16
          by_cases c17 : t414 ≤ (l0.length : Int)
          · rw [if_pos c17] at H
            have c17b0 := eq_true c17
            have c17b1 : decide (t414 ≤ (l0.length : Int)) = true := decide_eq_true c17
            clear c17
            obtain ⟨y415, hy415⟩ : ∃ y_ : List (S39), y_ = (l0.drop (t414 : Int).toNat) := ⟨_, rfl⟩
            replace H : (profile_Least.l0 kj3 ji13 ji14 1099511627776 y415 (y415.length : Int) 0) = some r := by first | (rw [hy415]; with_reducible exact H) | (have H2_ := (Option.bind_some _ _).symm.trans H; rw [hy415]; with_reducible exact H2_) | (have H2_ := (Option.bind_some _ _).symm.trans H; with_reducible exact H2_) | with_reducible exact H | (rw [hy415]; exact H) | exact H
            have Ny415 := Aside0.mk hy415
            clear hy415
            have H' := Aside0.mk H
            clear H
            go_wp2_with (first | ((with_reducible refine gate_callee (f := 32) rfl ?_); refine goesL_ (some 32) rfl rfl Try.func32 (by kernel_rfl) rfl #[.slice A0 l0.length c0, .int .i64 ji13] rfl (by (try simp only [List.map_toArray, List.map_cons, List.map_nil]); first | done | (simp only [hji13]; rfl) | rfl | (simp only [List.length_drop, List.length_take]; rfl)) ?_; (with_reducible refine (profile_find.calls kj3 _ _ l0 ji13 t414 _ ?side1 ?side2 A15.out).mono ?_); (case side1 => repeat (first | exact (Kd.C_below HR0.out HB.out) | (with_reducible refine Kd.C_alloc ?_ _) | (with_reducible refine Kd.C_drewN ?_ _) | (with_reducible refine Kd.C_drew ?_))); (case side2 => exact HC0.out); rintro e w18 ⟨rfl, hb⟩; refine ⟨_, rfl, ?_⟩; have n0_ := Aside0.mk (below_step (by repeat (first | (with_reducible first | exact HB.out | apply below_alloc | apply pw_below_drewN | apply below_drew1) | exact HB.out)) hb); clear HB; have HB := n0_; clear n0_; (try clear hb); (try clear hb2); (try clear hk); (try clear hi); have q19 : (t414 : Int) ≤ ((l0.length : Int) : Int) := of_decide_eq_true (by first | (with_reducible assumption) | assumption); obtain ⟨i019, hi019, _, hsz19, _⟩ := info_parts info39; have hroom19 : l0.length ≤ c0 := HC0.out; have hC19 : Kd.C k39 _ A0 l0.length l0 := HR0.out; have q019 : (0 : Int) ≤ (t414 : Int) := of_decide_eq_true (by first | (with_reducible assumption) | assumption); have hcut19 := cut_from (P := Try.prog) 22 39 .i64 Try.underlying22 hi019 2 hsz19 A0 l0.length c0 t414 q019 q19; have hr19 := Kd.C_drop (m := (t414 : Int).toNat) (c := c0) hC19 (by omega) hroom19; obtain ⟨A19, hA19⟩ : ∃ A1, A1 = (if c0 = (t414 : Int).toNat then A0 else (A0 : Option Addr).map (·.add ((t414 : Int).toNat * 2))) := ⟨_, rfl⟩; obtain ⟨c19, hc19⟩ : ∃ c1, c1 = c0 - (t414 : Int).toNat := ⟨_, rfl⟩; have hy19 : y415.length = l0.length - (t414 : Int).toNat := (by rw [Ny415.out, List.length_drop] <;> omega); rw [show (l0).drop (t414 : Int).toNat = y415 from Ny415.out.symm] at hr19; replace hr19 : Kd.C k39 _ A19 y415.length y415 := (by rw [hA19]; exact hr19); rw [← hy19, ← hA19, ← hc19] at hcut19; have HR418 := Aside0.mk hr19; have HC418 := Aside0.mk (show y415.length ≤ c19 from by rw [hy19, hc19]; exact Nat.sub_le_sub_right hroom19 _); clear hr19 hC19 hroom19 hi019 hsz19 hc19; have KY19 := Aside0.mk hy19; have KA19 := Aside0.mk hA19; clear hy19 hA19; replace q19 := eq_true q19))
            go_loopg [7, 35] kj3 (fun kq v7 v35 w' => ∃ (x7_2 : Int) (x35_2 : Int), v7 = .int .i64 x7_2 ∧ v35 = .int .i64 x35_2 ∧ Aside0 (profile_Least.l0 kq ji13 ji14 x7_2 y415 (y415.length : Int) x35_2 = some r) ∧ Aside0 (kq ≤ kj3) ∧ Aside0 (Below w.heap.size w w'))
            case atStart => exact ⟨(1099511627776), (0), (by first | rfl | (simp; done) | (simp [*]; done)), (by first | rfl | (simp; done) | (simp [*]; done)), H', ⟨Nat.le_refl _⟩, ⟨by repeat (first | (with_reducible first | exact HB.out | apply below_alloc | apply pw_below_drewN | apply below_drew1) | exact HB.out)⟩⟩
            case round =>
              clear H'
              try clear c1
              try clear q1
              try clear c2
              try clear p2
              try clear c3
              try clear p4
              try clear q4
              try clear hx4
              try clear qi4
              try clear c6
              try clear c6b0
              try clear c6b1
              try clear c7
              try clear c7b0
              try clear c9
              try clear c9b0
              try clear c9b1
              try clear c12
              try clear c16
              try clear c16b0
              try clear c16b1
              try clear c17
              try clear c17b0
              try clear c17b1
              try clear c19
              try clear q19
              try clear hx413_0
              try clear hx413_1
              try clear p2
              try clear p4
              try clear p413
              try clear q019
              try clear q19
              try clear q4
              try clear q413
              obtain ⟨x7_2, x35_2, rfl, rfl, HA, HK2, HB⟩ := hrel
              cases gk with
              | zero => exact absurd HA.out (by simp [profile_Least.l0])
              | succ k2 =>
                have H := HA.out
                clear HA
                simp only [profile_Least.l0] at H
                by_cases c20 : x35_2 < (y415.length : Int)
                · rw [if_pos c20] at H
                  have c20b0 : decide (x35_2 < (y415.length : Int)) = true := decide_eq_true c20
                  clear c20
                  by_cases c21 : 0 ≤ x35_2
                  · rw [if_pos c21] at H
                    have c21b0 : decide (0 ≤ x35_2) = true := decide_eq_true c21
                    clear c21
                    by_cases c22 : x35_2 < (y415.length : Int)
                    · rw [if_pos c22] at H
                      have c22b0 : decide (x35_2 < (y415.length : Int)) = true := decide_eq_true c22
                      clear c22
                      by_cases c23 : ((rd_T39 y415 x35_2).f0) ≥ (wrap64 (ji13 + ji14))
                      · rw [if_pos c23] at H
                        have c23b0 : decide ((wrap64 (ji13 + ji14)) ≤ ((rd_T39 y415 x35_2).f0)) = true := decide_eq_true c23
                        clear c23
                        obtain rfl := Option.some.inj H
                        have p419 : 0 ≤ (x35_2 : Int) := of_decide_eq_true (by first | (with_reducible assumption) | assumption)
                        have q419 : x35_2 < (y415.length : Int) := of_decide_eq_true (by first | (with_reducible assumption) | assumption)
                        obtain ⟨ad419, e419, hx419_0, hx419_1⟩ := at_T39 HR418.out x35_2 p419 q419
                        cases e419
                        replace hx419_0 := (HB.out.cell (World.block_lt_of_cell? w _ hx419_0)).trans hx419_0
                        replace hx419_1 := (HB.out.cell (World.block_lt_of_cell? w _ hx419_1)).trans hx419_1
                        replace p419 := eq_true p419
                        replace q419 := eq_true q419
                        go_wp2_with (first | ((with_reducible refine gate_dst (N := 9) rfl ?_); refine box_event ?hg (N := 9) ?hd (cs := #[.int .i64 0, .int .i64 0]) (t := 39) ?hr ?_; (case hd => rfl); (case hg => rfl); (case hr => first | (go_simp; done) | (go_simp; rfl)); intro gb420 hg w24 hbox hb; have n0_ := Aside0.mk (below_step (by repeat (first | (with_reducible first | exact HB.out | apply below_alloc | apply pw_below_drewN | apply below_drew1) | exact HB.out)) hb); have n1_ := Aside0.mk (hbox); have n2_ := Aside0.mk ((by rw [hg]; exact (below_size (by repeat (first | (with_reducible first | exact HB.out | apply below_alloc | apply pw_below_drewN | apply below_drew1) | exact HB.out))) : w.heap.size ≤ gb420)); have n3_ := Aside0.mk ((by rw [hg]; exact (below_size (by repeat (first | (with_reducible first | exact HB.out | apply below_alloc | apply pw_below_drewN | apply below_drew1) | exact HB.out))) : w.heap.size ≤ gb420)); clear HB; have HB := n0_; have BK420 := n1_; have GW420 := n2_; have GE420 := n3_; clear n0_ n1_ n2_ n3_; clear hb hbox hg; have hcz25_0 : w24.cell? ⟨gb420, 0, none⟩ = some (.int .i64 0) := (blk_cell BK420.out 0).trans rfl; have hcz25_1 : w24.cell? ⟨gb420, 1, none⟩ = some (.int .i64 0) := (blk_cell BK420.out 1).trans rfl; have hfz25_0 := blk_frozen BK420.out 0; have hfz25_1 := blk_frozen BK420.out 1))
                        go_ret
                        exact ⟨by first | rfl | (simp [errW_none, errW_some] <;> rfl) | (simp only [← hji13, ← hji14]; first | rfl | (simp [errW_none, errW_some] <;> rfl)) | (simp [*, errW_none, errW_some] <;> rfl), by repeat (first | (with_reducible first | exact HB.out | apply below_alloc | apply pw_below_drewN | apply below_drew1 | refine below_set ?_ GE420.out) | exact HB.out)⟩
                      · rw [if_neg c23] at H
                        have c23b0 : decide ((wrap64 (ji13 + ji14)) ≤ ((rd_T39 y415 x35_2).f0)) = false := decide_eq_false c23
                        clear c23
                        obtain ⟨ji26, hji26⟩ : ∃ j_ : Int, (mn x7_2 ((rd_T39 y415 x35_2).f1)) = j_ := ⟨_, rfl⟩
                        replace H : (profile_Least.l0 k2 ji13 ji14 ji26 y415 (y415.length : Int) (wrap64 (x35_2 + 1))) = some r := by first | (rw [hji26] at H; exact H) | (simp only [hji26] at H ⊢; exact H)
                        have hji26_ : (if ((rd_T39 y415 x35_2).f1) < x7_2 then ((rd_T39 y415 x35_2).f1) else x7_2) = ji26 := hji26
                        have H' := Aside0.mk H
                        clear H
                        have p419 : 0 ≤ (x35_2 : Int) := of_decide_eq_true (by first | (with_reducible assumption) | assumption)
                        have q419 : x35_2 < (y415.length : Int) := of_decide_eq_true (by first | (with_reducible assumption) | assumption)
                        obtain ⟨ad419, e419, hx419_0, hx419_1⟩ := at_T39 HR418.out x35_2 p419 q419
                        cases e419
                        replace hx419_0 := (HB.out.cell (World.block_lt_of_cell? w _ hx419_0)).trans hx419_0
                        replace hx419_1 := (HB.out.cell (World.block_lt_of_cell? w _ hx419_1)).trans hx419_1
                        replace p419 := eq_true p419
                        replace q419 := eq_true q419
                        go_wp2_with (first | ((with_reducible refine gate_dst (N := 9) rfl ?_); refine box_event ?hg (N := 9) ?hd (cs := #[.int .i64 0, .int .i64 0]) (t := 39) ?hr ?_; (case hd => rfl); (case hg => rfl); (case hr => first | (go_simp; done) | (go_simp; rfl)); intro gb420 hg w27 hbox hb; have n0_ := Aside0.mk (below_step (by repeat (first | (with_reducible first | exact HB.out | apply below_alloc | apply pw_below_drewN | apply below_drew1) | exact HB.out)) hb); have n1_ := Aside0.mk (hbox); have n2_ := Aside0.mk ((by rw [hg]; exact (below_size (by repeat (first | (with_reducible first | exact HB.out | apply below_alloc | apply pw_below_drewN | apply below_drew1) | exact HB.out))) : w.heap.size ≤ gb420)); have n3_ := Aside0.mk ((by rw [hg]; exact (below_size (by repeat (first | (with_reducible first | exact HB.out | apply below_alloc | apply pw_below_drewN | apply below_drew1) | exact HB.out))) : w.heap.size ≤ gb420)); clear HB; have HB := n0_; have BK420 := n1_; have GW420 := n2_; have GE420 := n3_; clear n0_ n1_ n2_ n3_; clear hb hbox hg; have hcz28_0 : w27.cell? ⟨gb420, 0, none⟩ = some (.int .i64 0) := (blk_cell BK420.out 0).trans rfl; have hcz28_1 : w27.cell? ⟨gb420, 1, none⟩ = some (.int .i64 0) := (blk_cell BK420.out 1).trans rfl; have hfz28_0 := blk_frozen BK420.out 0; have hfz28_1 := blk_frozen BK420.out 1))
                        go_roundg k2
                        case measure => have := HJ3.out; have := HK2.out; omega
                        case rel => exact ⟨(ji26), (wrap64 (x35_2 + 1)), (by first | rfl | (simp; done) | (simp only [← hji26] <;> (first | rfl | simp)) | (simp [*]; done)), (by first | rfl | (simp; done) | (simp [*]; done)), H', ⟨by have := HJ3.out; have := HK2.out; omega⟩, ⟨by repeat (first | (with_reducible first | exact HB.out | apply below_alloc | apply pw_below_drewN | apply below_drew1 | refine below_set ?_ GE420.out) | exact HB.out)⟩⟩
                    · rw [if_neg c22] at H
                      exact absurd H (by simp)
                  · rw [if_neg c21] at H
                    exact absurd H (by simp)
                · rw [if_neg c20] at H
                  have c20b0 : decide (x35_2 < (y415.length : Int)) = false := decide_eq_false c20
                  clear c20
                  obtain rfl := Option.some.inj H
                  go_wp2
                  go_ret
                  exact ⟨by first | rfl | (simp [errW_none, errW_some] <;> rfl) | (simp only [← hji13, ← hji14]; first | rfl | (simp [errW_none, errW_some] <;> rfl)) | (simp [*, errW_none, errW_some] <;> rfl), by repeat (first | (with_reducible first | exact HB.out | apply below_alloc | apply pw_below_drewN | apply below_drew1) | exact HB.out)⟩
          · rw [if_neg c17] at H
            exact absurd H (by simp)
        · rw [if_neg c16] at H
          exact absurd H (by simp)

/-! ### gangerref05_New: function 26 -/
def gangerref05_New.f (k : Nat) (a0 : Int) (a1 : Int) : Option ((List (S39)) × Int) := (some (([(⟨a0, a1⟩ : S39)] : List (S39)) : List (S39))).bind fun y421 => ((gangerref05_Check.f k y421).bind fun t424 => (if t424 = 0 then (some (y421, 0)) else (some (([] : List (S39)), t424))))
theorem gangerref05_New.mono : ∀ a0 a1 k, LeO (gangerref05_New.f k a0 a1) (gangerref05_New.f (k + 1) a0 a1) := by
  intro a0 a1 k
  unfold gangerref05_New.f
  repeat' first
      | (with_reducible exact gangerref05_Check.mono _ _)
      | (with_reducible exact LeO.refl _)
      | (with_reducible exact LeO.none _)
      | (with_reducible refine LeO.ite ?_ ?_)
      | (with_reducible refine LeO.bind ?_ (fun _ => ?_))
      | exact gangerref05_Check.mono _ _
      | exact LeO.none _
      | refine LeO.ite ?_ ?_
      | refine LeO.bind ?_ (fun _ => ?_)
set_option maxHeartbeats 8000000 in
set_option maxRecDepth 100000 in
theorem gangerref05_New.calls (k : Nat) (a0 : Int) (a1 : Int) (r1 : List (S39)) (r2 : Int) (w : World) (h : gangerref05_New.f k a0 a1 = some (r1, r2)) :
    Calls Try.prog 26 #[.int .i64 a0, .int .i64 a1] w fun e w' => ∃ v0_ : Value, e = .returned (.tuple #[v0_, .int .i64 r2]) ∧ Kd.R k39 39 w' w.heap.size (fun _ => True) v0_ r1 ∧ Below w.heap.size w w' := by
  have hu39 := Try.underlying39
  have HB := Aside0.mk (Below.refl w.heap.size w)
  have H : ((some (([(⟨a0, a1⟩ : S39)] : List (S39)) : List (S39))).bind fun y421 => ((gangerref05_Check.f k y421).bind fun t424 => (if t424 = 0 then (some (y421, 0)) else (some (([] : List (S39)), t424))))) = some (r1, r2) := h
  clear h
  obtain ⟨y421, hy421⟩ : ∃ y_ : List (S39), y_ = (([(⟨a0, a1⟩ : S39)] : List (S39))) := ⟨_, rfl⟩
  replace H : ((gangerref05_Check.f k y421).bind fun t424 => (if t424 = 0 then (some (y421, 0)) else (some (([] : List (S39)), t424)))) = some (r1, r2) := by first | (rw [hy421]; with_reducible exact H) | (have H2_ := (Option.bind_some _ _).symm.trans H; rw [hy421]; with_reducible exact H2_) | (have H2_ := (Option.bind_some _ _).symm.trans H; with_reducible exact H2_) | with_reducible exact H | (rw [hy421]; exact H) | exact H
  have Ny421 := Aside0.mk hy421
  clear hy421
  replace H := Option.bind_eq_some_iff.mp H
  obtain ⟨t424, A30, H⟩ := H
  replace H : (if t424 = 0 then (some (y421, 0)) else (some (([] : List (S39)), t424))) = some (r1, r2) := H
  have A3 := Aside0.mk A30
  clear A30
  by_cases c4 : t424 = 0
  · rw [if_pos c4] at H
    have c4b0 : (t424 == 0) = true := beq_iff_eq.mpr c4
    have c4b1 : (t424 != 0) = false := bne_eq_false_iff_eq.mpr c4
    clear c4
    simp only [Option.some.injEq, Prod.mk.injEq] at H
    obtain ⟨rfl, rfl⟩ := H
    go_enter Try.func26, Try.ntmps26
    go_wp2_with (first | ((with_reducible refine gate_dst (N := 11) rfl ?_); refine Kd.R_lit k39 _ 39 ?hg (N := 11) ?hd (xs := ([(⟨a0, a1⟩ : S39)] : List (S39))) (inner := [.int .i64 a0, .int .i64 a1]) (ok := fun _ => True) (okp := fun _ => True) ?hr ?hp (fun _ hk => hk) trivial (Below.refl _ _) (Nat.le_refl _) (by simp) ?_; (case hd => rfl); (case hg => rfl); (case hr => first | (go_simp; done) | (go_simp; rfl)); (case hp => exact (Reps.c2 (show Kd.M k39 _ _ _ (⟨a0, a1⟩ : S39) [.int .i64 a0, .int .i64 a1] from (k39_mkM _ _ _ (⟨a0, a1⟩ : S39) )) (Reps.none _ _))); intro v422 w5 ho6 hb hg_ hnew_; clear hg_ hnew_; (first | rw [← Ny421.out] at ho6 | (simp only [Int.reduceToNat] at ho6; rw [← Ny421.out] at ho6)); have n0_ := Aside0.mk (Kd.R_lower ho6 (below_size (by repeat (first | (with_reducible first | exact HB.out | apply below_alloc | apply pw_below_drewN | apply below_drew1) | exact HB.out)))); have n1_ := Aside0.mk (below_step (by repeat (first | (with_reducible first | exact HB.out | apply below_alloc | apply pw_below_drewN | apply below_drew1) | exact HB.out)) hb); clear HB; have HO423 := n0_; have HB := n1_; clear n0_ n1_; clear hb ho6; obtain ⟨Ao7, co7, eo7⟩ := Kd.R_slice HO423.out; subst eo7) | ((with_reducible refine gate_callee (f := 27) rfl ?_); refine goesL_ (some 13) rfl rfl Try.func27 (by kernel_rfl) rfl #[.slice Ao7 y421.length co7] rfl (by (try simp only [List.map_toArray, List.map_cons, List.map_nil]); first | done | rfl | (simp only [List.length_drop, List.length_take]; rfl)) ?_; (with_reducible refine (gangerref05_Check.calls k _ _ y421 t424 _ ?side1 ?side2 A3.out).mono ?_); (case side1 => repeat (first | exact (Kd.R_reads' HO423.out).2.2 | (with_reducible refine Kd.C_alloc ?_ _) | (with_reducible refine Kd.C_drewN ?_ _) | (with_reducible refine Kd.C_drew ?_))); (case side2 => exact (Kd.R_reads' HO423.out).2.1); rintro e w' ⟨rfl, ⟨nd, rfl⟩⟩; refine ⟨_, rfl, ?_⟩))
    go_ret2
    exact ⟨_, by first | rfl | (simp [errW_none, errW_some] <;> rfl) | (simp [*, errW_none, errW_some] <;> rfl), by (with_reducible repeat (first | apply Kd.R_alloc | apply Kd.R_drewN | apply Kd.R_drew)); exact HO423.out, by repeat (first | (with_reducible first | exact HB.out | apply below_alloc | apply pw_below_drewN | apply below_drew1) | exact HB.out)⟩
  · rw [if_neg c4] at H
    have c4b0 : (t424 == 0) = false := beq_eq_false_iff_ne.mpr c4
    have c4b1 : (t424 != 0) = true := bne_iff_ne.mpr c4
    simp only [Option.some.injEq, Prod.mk.injEq] at H
    obtain ⟨rfl, rfl⟩ := H
    go_enter Try.func26, Try.ntmps26
    go_wp2_with (first | ((with_reducible refine gate_dst (N := 11) rfl ?_); refine Kd.R_lit k39 _ 39 ?hg (N := 11) ?hd (xs := ([(⟨a0, a1⟩ : S39)] : List (S39))) (inner := [.int .i64 a0, .int .i64 a1]) (ok := fun _ => True) (okp := fun _ => True) ?hr ?hp (fun _ hk => hk) trivial (Below.refl _ _) (Nat.le_refl _) (by simp) ?_; (case hd => rfl); (case hg => rfl); (case hr => first | (go_simp; done) | (go_simp; rfl)); (case hp => exact (Reps.c2 (show Kd.M k39 _ _ _ (⟨a0, a1⟩ : S39) [.int .i64 a0, .int .i64 a1] from (k39_mkM _ _ _ (⟨a0, a1⟩ : S39) )) (Reps.none _ _))); intro v422 w8 ho9 hb hg_ hnew_; clear hg_ hnew_; (first | rw [← Ny421.out] at ho9 | (simp only [Int.reduceToNat] at ho9; rw [← Ny421.out] at ho9)); have n0_ := Aside0.mk (Kd.R_lower ho9 (below_size (by repeat (first | (with_reducible first | exact HB.out | apply below_alloc | apply pw_below_drewN | apply below_drew1) | exact HB.out)))); have n1_ := Aside0.mk (below_step (by repeat (first | (with_reducible first | exact HB.out | apply below_alloc | apply pw_below_drewN | apply below_drew1) | exact HB.out)) hb); clear HB; have HO423 := n0_; have HB := n1_; clear n0_ n1_; clear hb ho9; obtain ⟨Ao10, co10, eo10⟩ := Kd.R_slice HO423.out; subst eo10) | ((with_reducible refine gate_callee (f := 27) rfl ?_); refine goesL_ (some 13) rfl rfl Try.func27 (by kernel_rfl) rfl #[.slice Ao10 y421.length co10] rfl (by (try simp only [List.map_toArray, List.map_cons, List.map_nil]); first | done | rfl | (simp only [List.length_drop, List.length_take]; rfl)) ?_; (with_reducible refine (gangerref05_Check.calls k _ _ y421 t424 _ ?side1 ?side2 A3.out).mono ?_); (case side1 => repeat (first | exact (Kd.R_reads' HO423.out).2.2 | (with_reducible refine Kd.C_alloc ?_ _) | (with_reducible refine Kd.C_drewN ?_ _) | (with_reducible refine Kd.C_drew ?_))); (case side2 => exact (Kd.R_reads' HO423.out).2.1); rintro e w' ⟨rfl, ⟨nd, rfl⟩⟩; refine ⟨_, rfl, ?_⟩))
    go_ret2
    exact ⟨_, by first | rfl | (simp [errW_none, errW_some] <;> rfl) | (simp [*, errW_none, errW_some] <;> rfl), by first | exact Kd.R_nil _ _ _ _ _ | exact Kd.N_nil _ _ _ _ _ | exact Kd.V_nil _ _ _ _ _ | exact Kd.Q_nil _ _ _ _ _ | exact Kd.S_nil _ _ _ _ _, by repeat (first | (with_reducible first | exact HB.out | apply below_alloc | apply pw_below_drewN | apply below_drew1) | exact HB.out)⟩

/-! ### gangerlaw05_ProfileTells: function 8 -/
def gangerlaw05_ProfileTells.f (k : Nat) (l0 : List (S39)) (a1 : Int) (a2 : Int) : Option (Bool) := (gangerlaw05_many.f l0 ([] : List (S39))).bind fun t425 => (if t425 = true then ((gangerlaw05_known.f k).bind fun t426 => (some t426)) else ((gangerlaw05_copied.f l0).bind fun t427 => ((profile_Check.f k t427).bind fun t430 => ((profile_At.f k t427 a1).bind fun t431 => ((profile_Least.f k t427 a1 a2).bind fun t432 => ((profile_New.f k a1 a2).bind fun bt433 => ((gangerref05_New.f k a1 a2).bind fun bt437 => ((gangerref05_Check.f k l0).bind fun t441 => (if t430 = t441 then ((gangerref05_At.f k l0 a1).bind fun t442 => (if t431 = t442 then ((gangerref05_Least.f k l0 a1 a2).bind fun t443 => (if t432 = t443 then ((gangerref05_Same.f k bt433.1 bt437.1).bind fun t444 => (if t444 = true then (if bt433.2 = bt437.2 then ((gangerref05_Same.f k t427 l0).bind fun t445 => (if t445 = true then ((gangerlaw05_known.f k).bind fun t446 => (some t446)) else (none))) else (none)) else (none))) else (none))) else (none))) else (none))))))))))
theorem gangerlaw05_ProfileTells.mono : ∀ a0 a1 a2 k, LeO (gangerlaw05_ProfileTells.f k a0 a1 a2) (gangerlaw05_ProfileTells.f (k + 1) a0 a1 a2) := by
  intro a0 a1 a2 k
  unfold gangerlaw05_ProfileTells.f
  repeat' first
      | (with_reducible exact gangerlaw05_known.mono _)
      | (with_reducible exact gangerref05_At.mono _ _ _)
      | (with_reducible exact gangerref05_Check.mono _ _)
      | (with_reducible exact gangerref05_Least.mono _ _ _ _)
      | (with_reducible exact gangerref05_New.mono _ _ _)
      | (with_reducible exact gangerref05_Same.mono _ _ _)
      | (with_reducible exact profile_At.mono _ _ _)
      | (with_reducible exact profile_Check.mono _ _)
      | (with_reducible exact profile_Least.mono _ _ _ _)
      | (with_reducible exact profile_New.mono _ _ _)
      | (with_reducible exact LeO.refl _)
      | (with_reducible exact LeO.none _)
      | (with_reducible refine LeO.ite ?_ ?_)
      | (with_reducible refine LeO.bind ?_ (fun _ => ?_))
      | exact gangerlaw05_known.mono _
      | exact gangerref05_At.mono _ _ _
      | exact gangerref05_Check.mono _ _
      | exact gangerref05_Least.mono _ _ _ _
      | exact gangerref05_New.mono _ _ _
      | exact gangerref05_Same.mono _ _ _
      | exact profile_At.mono _ _ _
      | exact profile_Check.mono _ _
      | exact profile_Least.mono _ _ _ _
      | exact profile_New.mono _ _ _
      | exact LeO.none _
      | refine LeO.ite ?_ ?_
      | refine LeO.bind ?_ (fun _ => ?_)
set_option maxHeartbeats 8000000 in
set_option maxRecDepth 100000 in
theorem gangerlaw05_ProfileTells.calls (k : Nat) (A0 : Option Addr) (c0 : Nat) (l0 : List (S39)) (a1 : Int) (a2 : Int) (r : Bool) (w : World) (hr0 : Kd.C k39 w A0 l0.length l0) (hc0 : l0.length ≤ c0) (h : gangerlaw05_ProfileTells.f k l0 a1 a2 = some r) :
    Calls Try.prog 8 #[.slice A0 l0.length c0, .int .i64 a1, .int .i64 a2] w fun e w' => e = .returned (.bool r) ∧ Below w.heap.size w w' := by
  have HR0 := Aside0.mk hr0
  have HC0 := Aside0.mk hc0
  clear hr0 hc0
  have HB := Aside0.mk (Below.refl w.heap.size w)
  have H : ((gangerlaw05_many.f l0 ([] : List (S39))).bind fun t425 => (if t425 = true then ((gangerlaw05_known.f k).bind fun t426 => (some t426)) else ((gangerlaw05_copied.f l0).bind fun t427 => ((profile_Check.f k t427).bind fun t430 => ((profile_At.f k t427 a1).bind fun t431 => ((profile_Least.f k t427 a1 a2).bind fun t432 => ((profile_New.f k a1 a2).bind fun bt433 => ((gangerref05_New.f k a1 a2).bind fun bt437 => ((gangerref05_Check.f k l0).bind fun t441 => (if t430 = t441 then ((gangerref05_At.f k l0 a1).bind fun t442 => (if t431 = t442 then ((gangerref05_Least.f k l0 a1 a2).bind fun t443 => (if t432 = t443 then ((gangerref05_Same.f k bt433.1 bt437.1).bind fun t444 => (if t444 = true then (if bt433.2 = bt437.2 then ((gangerref05_Same.f k t427 l0).bind fun t445 => (if t445 = true then ((gangerlaw05_known.f k).bind fun t446 => (some t446)) else (none))) else (none)) else (none))) else (none))) else (none))) else (none))))))))))) = some r := h
  clear h
  replace H := Option.bind_eq_some_iff.mp H
  obtain ⟨t425, A40, H⟩ := H
  replace H : (if t425 = true then ((gangerlaw05_known.f k).bind fun t426 => (some t426)) else ((gangerlaw05_copied.f l0).bind fun t427 => ((profile_Check.f k t427).bind fun t430 => ((profile_At.f k t427 a1).bind fun t431 => ((profile_Least.f k t427 a1 a2).bind fun t432 => ((profile_New.f k a1 a2).bind fun bt433 => ((gangerref05_New.f k a1 a2).bind fun bt437 => ((gangerref05_Check.f k l0).bind fun t441 => (if t430 = t441 then ((gangerref05_At.f k l0 a1).bind fun t442 => (if t431 = t442 then ((gangerref05_Least.f k l0 a1 a2).bind fun t443 => (if t432 = t443 then ((gangerref05_Same.f k bt433.1 bt437.1).bind fun t444 => (if t444 = true then (if bt433.2 = bt437.2 then ((gangerref05_Same.f k t427 l0).bind fun t445 => (if t445 = true then ((gangerlaw05_known.f k).bind fun t446 => (some t446)) else (none))) else (none)) else (none))) else (none))) else (none))) else (none)))))))))) = some r := H
  have A4 := Aside0.mk A40
  clear A40
  by_cases c5 : t425 = true
  · subst c5
    have H1 : ((gangerlaw05_known.f k).bind fun t426 => (some t426)) = some r := by rw [if_pos rfl] at H; exact H
    clear H
    have H := H1
    clear H1
    replace H := Option.bind_eq_some_iff.mp H
    obtain ⟨t426, A60, H⟩ := H
    replace H : (some t426) = some r := H
    have A6 := Aside0.mk A60
    clear A60
    obtain rfl := Option.some.inj H
    go_enter Try.func8, Try.ntmps8
    go_wp2_with (first | ((with_reducible refine gate_callee (f := 11) rfl ?_); refine goesL_ (some 16) rfl rfl Try.func11 (by kernel_rfl) rfl #[.slice A0 l0.length c0, .slice none 0 0] rfl (by (try simp only [List.map_toArray, List.map_cons, List.map_nil]); first | done | rfl | (simp only [List.length_drop, List.length_take]; rfl)) ?_; (refine (gangerlaw05_many.calls _ _ l0 _ _ ([] : List (S39)) true _ ?side1 ?side2 ?side3 ?side4 A4.out).mono ?_); (case side1 => repeat (first | exact HR0.out | (with_reducible refine Kd.C_alloc ?_ _) | (with_reducible refine Kd.C_drewN ?_ _) | (with_reducible refine Kd.C_drew ?_))); (case side2 => exact HC0.out); (case side3 => exact Kd.C_nil _ _); (case side4 => exact Nat.le_refl _); rintro e w' ⟨rfl, ⟨nd, rfl⟩⟩; refine ⟨_, rfl, ?_⟩) | ((with_reducible refine gate_callee (f := 12) rfl ?_); refine goesL_ (some 17) rfl rfl Try.func12 (by kernel_rfl) rfl #[] rfl (by (try simp only [List.map_toArray, List.map_cons, List.map_nil]); first | done | rfl | (simp only [List.length_drop, List.length_take]; rfl)) ?_; (with_reducible refine (gangerlaw05_known.calls k  t426 _ A6.out).mono ?_); rintro e w7 ⟨rfl, hb⟩; refine ⟨_, rfl, ?_⟩; have n0_ := Aside0.mk (below_step (by repeat (first | (with_reducible first | exact HB.out | apply below_alloc | apply pw_below_drewN | apply below_drew1) | exact HB.out)) hb); clear HB; have HB := n0_; clear n0_; (try clear hb); (try clear hb2); (try clear hk); (try clear hi)))
    go_ret
    exact ⟨by first | rfl | (simp [errW_none, errW_some] <;> rfl) | (simp [*, errW_none, errW_some] <;> rfl), by repeat (first | (with_reducible first | exact HB.out | apply below_alloc | apply pw_below_drewN | apply below_drew1) | exact HB.out)⟩
  · replace c5 := Bool.eq_false_iff.mpr c5
    subst c5
    have H1 : ((gangerlaw05_copied.f l0).bind fun t427 => ((profile_Check.f k t427).bind fun t430 => ((profile_At.f k t427 a1).bind fun t431 => ((profile_Least.f k t427 a1 a2).bind fun t432 => ((profile_New.f k a1 a2).bind fun bt433 => ((gangerref05_New.f k a1 a2).bind fun bt437 => ((gangerref05_Check.f k l0).bind fun t441 => (if t430 = t441 then ((gangerref05_At.f k l0 a1).bind fun t442 => (if t431 = t442 then ((gangerref05_Least.f k l0 a1 a2).bind fun t443 => (if t432 = t443 then ((gangerref05_Same.f k bt433.1 bt437.1).bind fun t444 => (if t444 = true then (if bt433.2 = bt437.2 then ((gangerref05_Same.f k t427 l0).bind fun t445 => (if t445 = true then ((gangerlaw05_known.f k).bind fun t446 => (some t446)) else (none))) else (none)) else (none))) else (none))) else (none))) else (none))))))))) = some r := by rw [if_neg (show ¬ (false = true) by decide)] at H; exact H
    clear H
    have H := H1
    clear H1
    replace H := Option.bind_eq_some_iff.mp H
    obtain ⟨t427, A80, H⟩ := H
    replace H : ((profile_Check.f k t427).bind fun t430 => ((profile_At.f k t427 a1).bind fun t431 => ((profile_Least.f k t427 a1 a2).bind fun t432 => ((profile_New.f k a1 a2).bind fun bt433 => ((gangerref05_New.f k a1 a2).bind fun bt437 => ((gangerref05_Check.f k l0).bind fun t441 => (if t430 = t441 then ((gangerref05_At.f k l0 a1).bind fun t442 => (if t431 = t442 then ((gangerref05_Least.f k l0 a1 a2).bind fun t443 => (if t432 = t443 then ((gangerref05_Same.f k bt433.1 bt437.1).bind fun t444 => (if t444 = true then (if bt433.2 = bt437.2 then ((gangerref05_Same.f k t427 l0).bind fun t445 => (if t445 = true then ((gangerlaw05_known.f k).bind fun t446 => (some t446)) else (none))) else (none)) else (none))) else (none))) else (none))) else (none)))))))) = some r := H
    have A8 := Aside0.mk A80
    clear A80
    replace H := Option.bind_eq_some_iff.mp H
    obtain ⟨t430, A90, H⟩ := H
    replace H : ((profile_At.f k t427 a1).bind fun t431 => ((profile_Least.f k t427 a1 a2).bind fun t432 => ((profile_New.f k a1 a2).bind fun bt433 => ((gangerref05_New.f k a1 a2).bind fun bt437 => ((gangerref05_Check.f k l0).bind fun t441 => (if t430 = t441 then ((gangerref05_At.f k l0 a1).bind fun t442 => (if t431 = t442 then ((gangerref05_Least.f k l0 a1 a2).bind fun t443 => (if t432 = t443 then ((gangerref05_Same.f k bt433.1 bt437.1).bind fun t444 => (if t444 = true then (if bt433.2 = bt437.2 then ((gangerref05_Same.f k t427 l0).bind fun t445 => (if t445 = true then ((gangerlaw05_known.f k).bind fun t446 => (some t446)) else (none))) else (none)) else (none))) else (none))) else (none))) else (none))))))) = some r := H
    have A9 := Aside0.mk A90
    clear A90
    replace H := Option.bind_eq_some_iff.mp H
    obtain ⟨t431, A100, H⟩ := H
    replace H : ((profile_Least.f k t427 a1 a2).bind fun t432 => ((profile_New.f k a1 a2).bind fun bt433 => ((gangerref05_New.f k a1 a2).bind fun bt437 => ((gangerref05_Check.f k l0).bind fun t441 => (if t430 = t441 then ((gangerref05_At.f k l0 a1).bind fun t442 => (if t431 = t442 then ((gangerref05_Least.f k l0 a1 a2).bind fun t443 => (if t432 = t443 then ((gangerref05_Same.f k bt433.1 bt437.1).bind fun t444 => (if t444 = true then (if bt433.2 = bt437.2 then ((gangerref05_Same.f k t427 l0).bind fun t445 => (if t445 = true then ((gangerlaw05_known.f k).bind fun t446 => (some t446)) else (none))) else (none)) else (none))) else (none))) else (none))) else (none)))))) = some r := H
    have A10 := Aside0.mk A100
    clear A100
    replace H := Option.bind_eq_some_iff.mp H
    obtain ⟨t432, A110, H⟩ := H
    replace H : ((profile_New.f k a1 a2).bind fun bt433 => ((gangerref05_New.f k a1 a2).bind fun bt437 => ((gangerref05_Check.f k l0).bind fun t441 => (if t430 = t441 then ((gangerref05_At.f k l0 a1).bind fun t442 => (if t431 = t442 then ((gangerref05_Least.f k l0 a1 a2).bind fun t443 => (if t432 = t443 then ((gangerref05_Same.f k bt433.1 bt437.1).bind fun t444 => (if t444 = true then (if bt433.2 = bt437.2 then ((gangerref05_Same.f k t427 l0).bind fun t445 => (if t445 = true then ((gangerlaw05_known.f k).bind fun t446 => (some t446)) else (none))) else (none)) else (none))) else (none))) else (none))) else (none))))) = some r := H
    have A11 := Aside0.mk A110
    clear A110
    replace H := Option.bind_eq_some_iff.mp H
    obtain ⟨⟨t433, t434⟩, A120, H⟩ := H
    replace H : ((gangerref05_New.f k a1 a2).bind fun bt437 => ((gangerref05_Check.f k l0).bind fun t441 => (if t430 = t441 then ((gangerref05_At.f k l0 a1).bind fun t442 => (if t431 = t442 then ((gangerref05_Least.f k l0 a1 a2).bind fun t443 => (if t432 = t443 then ((gangerref05_Same.f k t433 bt437.1).bind fun t444 => (if t444 = true then (if t434 = bt437.2 then ((gangerref05_Same.f k t427 l0).bind fun t445 => (if t445 = true then ((gangerlaw05_known.f k).bind fun t446 => (some t446)) else (none))) else (none)) else (none))) else (none))) else (none))) else (none)))) = some r := H
    have A12 := Aside0.mk A120
    clear A120
    replace H := Option.bind_eq_some_iff.mp H
    obtain ⟨⟨t437, t438⟩, A130, H⟩ := H
    replace H : ((gangerref05_Check.f k l0).bind fun t441 => (if t430 = t441 then ((gangerref05_At.f k l0 a1).bind fun t442 => (if t431 = t442 then ((gangerref05_Least.f k l0 a1 a2).bind fun t443 => (if t432 = t443 then ((gangerref05_Same.f k t433 t437).bind fun t444 => (if t444 = true then (if t434 = t438 then ((gangerref05_Same.f k t427 l0).bind fun t445 => (if t445 = true then ((gangerlaw05_known.f k).bind fun t446 => (some t446)) else (none))) else (none)) else (none))) else (none))) else (none))) else (none))) = some r := H
    have A13 := Aside0.mk A130
    clear A130
    replace H := Option.bind_eq_some_iff.mp H
    obtain ⟨t441, A140, H⟩ := H
    replace H : (if t430 = t441 then ((gangerref05_At.f k l0 a1).bind fun t442 => (if t431 = t442 then ((gangerref05_Least.f k l0 a1 a2).bind fun t443 => (if t432 = t443 then ((gangerref05_Same.f k t433 t437).bind fun t444 => (if t444 = true then (if t434 = t438 then ((gangerref05_Same.f k t427 l0).bind fun t445 => (if t445 = true then ((gangerlaw05_known.f k).bind fun t446 => (some t446)) else (none))) else (none)) else (none))) else (none))) else (none))) else (none)) = some r := H
    have A14 := Aside0.mk A140
    clear A140
    by_cases c15 : t430 = t441
    · rw [if_pos c15] at H
      have c15b0 : (t430 == t441) = true := beq_iff_eq.mpr c15
      have c15b1 : (t430 != t441) = false := bne_eq_false_iff_eq.mpr c15
      clear c15
      replace H := Option.bind_eq_some_iff.mp H
      obtain ⟨t442, A160, H⟩ := H
      replace H : (if t431 = t442 then ((gangerref05_Least.f k l0 a1 a2).bind fun t443 => (if t432 = t443 then ((gangerref05_Same.f k t433 t437).bind fun t444 => (if t444 = true then (if t434 = t438 then ((gangerref05_Same.f k t427 l0).bind fun t445 => (if t445 = true then ((gangerlaw05_known.f k).bind fun t446 => (some t446)) else (none))) else (none)) else (none))) else (none))) else (none)) = some r := H
      have A16 := Aside0.mk A160
      clear A160
      by_cases c17 : t431 = t442
      · rw [if_pos c17] at H
        have c17b0 : (t431 == t442) = true := beq_iff_eq.mpr c17
        have c17b1 : (t431 != t442) = false := bne_eq_false_iff_eq.mpr c17
        clear c17
        replace H := Option.bind_eq_some_iff.mp H
        obtain ⟨t443, A180, H⟩ := H
        replace H : (if t432 = t443 then ((gangerref05_Same.f k t433 t437).bind fun t444 => (if t444 = true then (if t434 = t438 then ((gangerref05_Same.f k t427 l0).bind fun t445 => (if t445 = true then ((gangerlaw05_known.f k).bind fun t446 => (some t446)) else (none))) else (none)) else (none))) else (none)) = some r := H
        have A18 := Aside0.mk A180
        clear A180
        by_cases c19 : t432 = t443
        · rw [if_pos c19] at H
          have c19b0 : (t432 == t443) = true := beq_iff_eq.mpr c19
          have c19b1 : (t432 != t443) = false := bne_eq_false_iff_eq.mpr c19
          clear c19
          replace H := Option.bind_eq_some_iff.mp H
          obtain ⟨t444, A200, H⟩ := H
          replace H : (if t444 = true then (if t434 = t438 then ((gangerref05_Same.f k t427 l0).bind fun t445 => (if t445 = true then ((gangerlaw05_known.f k).bind fun t446 => (some t446)) else (none))) else (none)) else (none)) = some r := H
          have A20 := Aside0.mk A200
          clear A200
          by_cases c21 : t444 = true
          · subst c21
            have H1 : (if t434 = t438 then ((gangerref05_Same.f k t427 l0).bind fun t445 => (if t445 = true then ((gangerlaw05_known.f k).bind fun t446 => (some t446)) else (none))) else (none)) = some r := by rw [if_pos rfl] at H; exact H
            clear H
            have H := H1
            clear H1
            by_cases c22 : t434 = t438
            · rw [if_pos c22] at H
              have c22b0 : (t434 == t438) = true := beq_iff_eq.mpr c22
              have c22b1 : (t434 != t438) = false := bne_eq_false_iff_eq.mpr c22
              clear c22
              replace H := Option.bind_eq_some_iff.mp H
              obtain ⟨t445, A230, H⟩ := H
              replace H : (if t445 = true then ((gangerlaw05_known.f k).bind fun t446 => (some t446)) else (none)) = some r := H
              have A23 := Aside0.mk A230
              clear A230
              by_cases c24 : t445 = true
              · subst c24
                have H1 : ((gangerlaw05_known.f k).bind fun t446 => (some t446)) = some r := by rw [if_pos rfl] at H; exact H
                clear H
                have H := H1
                clear H1
                replace H := Option.bind_eq_some_iff.mp H
                obtain ⟨t446, A250, H⟩ := H
                replace H : (some t446) = some r := H
                have A25 := Aside0.mk A250
                clear A250
                obtain rfl := Option.some.inj H
                go_enter Try.func8, Try.ntmps8
                go_wp2_with (first | ((with_reducible refine gate_callee (f := 11) rfl ?_); refine goesL_ (some 16) rfl rfl Try.func11 (by kernel_rfl) rfl #[.slice A0 l0.length c0, .slice none 0 0] rfl (by (try simp only [List.map_toArray, List.map_cons, List.map_nil]); first | done | rfl | (simp only [List.length_drop, List.length_take]; rfl)) ?_; (refine (gangerlaw05_many.calls _ _ l0 _ _ ([] : List (S39)) false _ ?side1 ?side2 ?side3 ?side4 A4.out).mono ?_); (case side1 => repeat (first | exact HR0.out | (with_reducible refine Kd.C_alloc ?_ _) | (with_reducible refine Kd.C_drewN ?_ _) | (with_reducible refine Kd.C_drew ?_))); (case side2 => exact HC0.out); (case side3 => exact Kd.C_nil _ _); (case side4 => exact Nat.le_refl _); rintro e w' ⟨rfl, ⟨nd, rfl⟩⟩; refine ⟨_, rfl, ?_⟩) | ((with_reducible refine gate_callee (f := 15) rfl ?_); refine goesL_ (some 19) rfl rfl Try.func15 (by kernel_rfl) rfl #[.slice A0 l0.length c0] rfl (by (try simp only [List.map_toArray, List.map_cons, List.map_nil]); first | done | rfl | (simp only [List.length_drop, List.length_take]; rfl)) ?_; (with_reducible refine (gangerlaw05_copied.calls _ _ l0 t427 _ ?side1 ?side2 A8.out).mono ?_); (case side1 => repeat (first | exact HR0.out | (with_reducible refine Kd.C_alloc ?_ _) | (with_reducible refine Kd.C_drewN ?_ _) | (with_reducible refine Kd.C_drew ?_))); (case side2 => exact HC0.out); rintro e w26 ⟨v428, rfl, ho0, hb⟩; refine ⟨_, rfl, ?_⟩; have n0_ := Aside0.mk (Kd.R_lower ho0 (below_size (by repeat (first | (with_reducible first | exact HB.out | apply below_alloc | apply pw_below_drewN | apply below_drew1) | exact HB.out)))); have n1_ := Aside0.mk (below_step (by repeat (first | (with_reducible first | exact HB.out | apply below_alloc | apply pw_below_drewN | apply below_drew1) | exact HB.out)) hb); clear HB; have HO429 := n0_; have HB := n1_; clear n0_ n1_; (try clear hb); (try clear hb2); (try clear hk); (try clear hi); (try clear ho0); obtain ⟨Ao27, co27, eo27⟩ := Kd.R_slice HO429.out; subst eo27) | ((with_reducible refine gate_callee (f := 20) rfl ?_); refine goesL_ (some 21) rfl rfl Try.func20 (by kernel_rfl) rfl #[.slice Ao27 t427.length co27] rfl (by (try simp only [List.map_toArray, List.map_cons, List.map_nil]); first | done | rfl | (simp only [List.length_drop, List.length_take]; rfl)) ?_; (with_reducible refine (profile_Check.calls k _ _ t427 t430 _ ?side1 ?side2 A9.out).mono ?_); (case side1 => repeat (first | exact (Kd.R_reads' HO429.out).2.2 | (with_reducible refine Kd.C_alloc ?_ _) | (with_reducible refine Kd.C_drewN ?_ _) | (with_reducible refine Kd.C_drew ?_))); (case side2 => exact (Kd.R_reads' HO429.out).2.1); rintro e w28 ⟨rfl, hb⟩; refine ⟨_, rfl, ?_⟩; have n0_ := Aside0.mk (Kd.R_below (by (with_reducible repeat (first | apply Kd.R_alloc | apply Kd.R_drewN | apply Kd.R_drew)); exact HO429.out) hb); have n1_ := Aside0.mk (below_step (by repeat (first | (with_reducible first | exact HB.out | apply below_alloc | apply pw_below_drewN | apply below_drew1) | exact HB.out)) hb); clear HO429; clear HB; have HO429 := n0_; have HB := n1_; clear n0_ n1_; (try clear hb); (try clear hb2); (try clear hk); (try clear hi)) | ((with_reducible refine gate_callee (f := 21) rfl ?_); refine goesL_ (some 24) rfl rfl Try.func21 (by kernel_rfl) rfl #[.slice Ao27 t427.length co27, .int .i64 a1] rfl (by (try simp only [List.map_toArray, List.map_cons, List.map_nil]); first | done | rfl | (simp only [List.length_drop, List.length_take]; rfl)) ?_; (with_reducible refine (profile_At.calls k _ _ t427 a1 t431 _ ?side1 ?side2 A10.out).mono ?_); (case side1 => repeat (first | exact (Kd.R_reads' HO429.out).2.2 | (with_reducible refine Kd.C_alloc ?_ _) | (with_reducible refine Kd.C_drewN ?_ _) | (with_reducible refine Kd.C_drew ?_))); (case side2 => exact (Kd.R_reads' HO429.out).2.1); rintro e w29 ⟨rfl, hb⟩; refine ⟨_, rfl, ?_⟩; have n0_ := Aside0.mk (Kd.R_below (by (with_reducible repeat (first | apply Kd.R_alloc | apply Kd.R_drewN | apply Kd.R_drew)); exact HO429.out) hb); have n1_ := Aside0.mk (below_step (by repeat (first | (with_reducible first | exact HB.out | apply below_alloc | apply pw_below_drewN | apply below_drew1) | exact HB.out)) hb); clear HO429; clear HB; have HO429 := n0_; have HB := n1_; clear n0_ n1_; (try clear hb); (try clear hb2); (try clear hk); (try clear hi)) | ((with_reducible refine gate_callee (f := 24) rfl ?_); refine goesL_ (some 28) rfl rfl Try.func24 (by kernel_rfl) rfl #[.slice Ao27 t427.length co27, .int .i64 a1, .int .i64 a2] rfl (by (try simp only [List.map_toArray, List.map_cons, List.map_nil]); first | done | rfl | (simp only [List.length_drop, List.length_take]; rfl)) ?_; (with_reducible refine (profile_Least.calls k _ _ t427 a1 a2 t432 _ ?side1 ?side2 A11.out).mono ?_); (case side1 => repeat (first | exact (Kd.R_reads' HO429.out).2.2 | (with_reducible refine Kd.C_alloc ?_ _) | (with_reducible refine Kd.C_drewN ?_ _) | (with_reducible refine Kd.C_drew ?_))); (case side2 => exact (Kd.R_reads' HO429.out).2.1); rintro e w30 ⟨rfl, hb⟩; refine ⟨_, rfl, ?_⟩; have n0_ := Aside0.mk (Kd.R_below (by (with_reducible repeat (first | apply Kd.R_alloc | apply Kd.R_drewN | apply Kd.R_drew)); exact HO429.out) hb); have n1_ := Aside0.mk (below_step (by repeat (first | (with_reducible first | exact HB.out | apply below_alloc | apply pw_below_drewN | apply below_drew1) | exact HB.out)) hb); clear HO429; clear HB; have HO429 := n0_; have HB := n1_; clear n0_ n1_; (try clear hb); (try clear hb2); (try clear hk); (try clear hi)) | ((with_reducible refine gate_callee (f := 25) rfl ?_); refine goesL_ (some 32) rfl rfl Try.func25 (by kernel_rfl) rfl #[.int .i64 a1, .int .i64 a2] rfl (by (try simp only [List.map_toArray, List.map_cons, List.map_nil]); first | done | rfl | (simp only [List.length_drop, List.length_take]; rfl)) ?_; (with_reducible refine (profile_New.calls k a1 a2 t433 t434 _ A12.out).mono ?_); rintro e w31 ⟨v435, rfl, ho0, hb⟩; refine ⟨_, rfl, ?_⟩; have n0_ := Aside0.mk (Kd.R_elder' (by (with_reducible repeat (first | apply Kd.R_alloc | apply Kd.R_drewN | apply Kd.R_drew)); exact HO429.out) (Kd.R_base ho0) hb); have n1_ := Aside0.mk (Kd.R_lower (Kd.R_new' ho0 (Kd.R_lt (by (with_reducible repeat (first | apply Kd.R_alloc | apply Kd.R_drewN | apply Kd.R_drew)); exact HO429.out))) (below_size (by repeat (first | (with_reducible first | exact HB.out | apply below_alloc | apply pw_below_drewN | apply below_drew1) | exact HB.out)))); have n2_ := Aside0.mk (below_step (by repeat (first | (with_reducible first | exact HB.out | apply below_alloc | apply pw_below_drewN | apply below_drew1) | exact HB.out)) hb); clear HO429; clear HB; have HO429 := n0_; have HO436 := n1_; have HB := n2_; clear n0_ n1_ n2_; (try clear hb); (try clear hb2); (try clear hk); (try clear hi); (try clear ho0)) | ((with_reducible refine gate_callee (f := 26) rfl ?_); refine goesL_ (some 38) rfl rfl Try.func26 (by kernel_rfl) rfl #[.int .i64 a1, .int .i64 a2] rfl (by (try simp only [List.map_toArray, List.map_cons, List.map_nil]); first | done | rfl | (simp only [List.length_drop, List.length_take]; rfl)) ?_; (with_reducible refine (gangerref05_New.calls k a1 a2 t437 t438 _ A13.out).mono ?_); rintro e w32 ⟨v439, rfl, ho0, hb⟩; refine ⟨_, rfl, ?_⟩; have n0_ := Aside0.mk (Kd.R_elder' (by (with_reducible repeat (first | apply Kd.R_alloc | apply Kd.R_drewN | apply Kd.R_drew)); exact HO429.out) (Kd.R_base ho0) hb); have n1_ := Aside0.mk (Kd.R_elder' (by (with_reducible repeat (first | apply Kd.R_alloc | apply Kd.R_drewN | apply Kd.R_drew)); exact HO436.out) (Kd.R_base ho0) hb); have n2_ := Aside0.mk (Kd.R_lower (Kd.R_new' (Kd.R_new' ho0 (Kd.R_lt (by (with_reducible repeat (first | apply Kd.R_alloc | apply Kd.R_drewN | apply Kd.R_drew)); exact HO429.out))) (Kd.R_lt (by (with_reducible repeat (first | apply Kd.R_alloc | apply Kd.R_drewN | apply Kd.R_drew)); exact HO436.out))) (below_size (by repeat (first | (with_reducible first | exact HB.out | apply below_alloc | apply pw_below_drewN | apply below_drew1) | exact HB.out)))); have n3_ := Aside0.mk (below_step (by repeat (first | (with_reducible first | exact HB.out | apply below_alloc | apply pw_below_drewN | apply below_drew1) | exact HB.out)) hb); clear HO429; clear HO436; clear HB; have HO429 := n0_; have HO436 := n1_; have HO440 := n2_; have HB := n3_; clear n0_ n1_ n2_ n3_; (try clear hb); (try clear hb2); (try clear hk); (try clear hi); (try clear ho0)) | ((with_reducible refine gate_callee (f := 27) rfl ?_); refine goesL_ (some 43) rfl rfl Try.func27 (by kernel_rfl) rfl #[.slice A0 l0.length c0] rfl (by (try simp only [List.map_toArray, List.map_cons, List.map_nil]); first | done | rfl | (simp only [List.length_drop, List.length_take]; rfl)) ?_; (with_reducible refine (gangerref05_Check.calls k _ _ l0 t441 _ ?side1 ?side2 A14.out).mono ?_); (case side1 => repeat (first | exact (Kd.C_below HR0.out HB.out) | (with_reducible refine Kd.C_alloc ?_ _) | (with_reducible refine Kd.C_drewN ?_ _) | (with_reducible refine Kd.C_drew ?_))); (case side2 => exact HC0.out); rintro e w' ⟨rfl, ⟨nd, rfl⟩⟩; refine ⟨_, rfl, ?_⟩) | (go_at_call 28; (with_reducible refine (gangerref05_At.calls k _ _ l0 a1 t442 _ ?side1 ?side2 A16.out).mono ?_); (case side1 => repeat (first | exact (Kd.C_below HR0.out (by repeat (first | (with_reducible first | exact HB.out | apply below_alloc | apply pw_below_drewN | apply below_drew1) | exact HB.out))) | (with_reducible refine Kd.C_alloc ?_ _) | (with_reducible refine Kd.C_drewN ?_ _) | (with_reducible refine Kd.C_drew ?_))); (case side2 => exact HC0.out); rintro e w' ⟨rfl, ⟨nd, rfl⟩⟩) | (go_at_call 29; (with_reducible refine (gangerref05_Least.calls k _ _ l0 a1 a2 t443 _ ?side1 ?side2 A18.out).mono ?_); (case side1 => repeat (first | exact (Kd.C_below HR0.out (by repeat (first | (with_reducible first | exact HB.out | apply below_alloc | apply pw_below_drewN | apply below_drew1) | exact HB.out))) | (with_reducible refine Kd.C_alloc ?_ _) | (with_reducible refine Kd.C_drewN ?_ _) | (with_reducible refine Kd.C_drew ?_))); (case side2 => exact HC0.out); rintro e w33 ⟨rfl, hb⟩; have n0_ := Aside0.mk (Kd.R_below (by (with_reducible repeat (first | apply Kd.R_alloc | apply Kd.R_drewN | apply Kd.R_drew)); exact HO429.out) hb); have n1_ := Aside0.mk (Kd.R_below (by (with_reducible repeat (first | apply Kd.R_alloc | apply Kd.R_drewN | apply Kd.R_drew)); exact HO436.out) hb); have n2_ := Aside0.mk (Kd.R_below (by (with_reducible repeat (first | apply Kd.R_alloc | apply Kd.R_drewN | apply Kd.R_drew)); exact HO440.out) hb); have n3_ := Aside0.mk (below_step (by repeat (first | (with_reducible first | exact HB.out | apply below_alloc | apply pw_below_drewN | apply below_drew1) | exact HB.out)) hb); clear HO429; clear HO436; clear HO440; clear HB; have HO429 := n0_; have HO436 := n1_; have HO440 := n2_; have HB := n3_; clear n0_ n1_ n2_ n3_; (try clear hb); (try clear hb2); (try clear hk); (try clear hi); obtain ⟨Ao34, co34, eo34⟩ := Kd.R_slice HO436.out; subst eo34; obtain ⟨Ao35, co35, eo35⟩ := Kd.R_slice HO440.out; subst eo35) | (go_at_call 18; (with_reducible refine (gangerref05_Same.calls k _ _ t433 _ _ t437 true _ ?side1 ?side2 ?side3 ?side4 A20.out).mono ?_); (case side1 => repeat (first | exact (Kd.R_reads' HO436.out).2.2 | (with_reducible refine Kd.C_alloc ?_ _) | (with_reducible refine Kd.C_drewN ?_ _) | (with_reducible refine Kd.C_drew ?_))); (case side2 => exact (Kd.R_reads' HO436.out).2.1); (case side3 => repeat (first | exact (Kd.R_reads' HO440.out).2.2 | (with_reducible refine Kd.C_alloc ?_ _) | (with_reducible refine Kd.C_drewN ?_ _) | (with_reducible refine Kd.C_drew ?_))); (case side4 => exact (Kd.R_reads' HO440.out).2.1); rintro e w' ⟨rfl, ⟨nd, rfl⟩⟩) | (go_at_call 18; (with_reducible refine (gangerref05_Same.calls k _ _ t427 _ _ l0 true _ ?side1 ?side2 ?side3 ?side4 A23.out).mono ?_); (case side1 => repeat (first | exact (Kd.R_reads' HO429.out).2.2 | (with_reducible refine Kd.C_alloc ?_ _) | (with_reducible refine Kd.C_drewN ?_ _) | (with_reducible refine Kd.C_drew ?_))); (case side2 => exact (Kd.R_reads' HO429.out).2.1); (case side3 => repeat (first | exact (Kd.C_below HR0.out (by repeat (first | (with_reducible first | exact HB.out | apply below_alloc | apply pw_below_drewN | apply below_drew1) | exact HB.out))) | (with_reducible refine Kd.C_alloc ?_ _) | (with_reducible refine Kd.C_drewN ?_ _) | (with_reducible refine Kd.C_drew ?_))); (case side4 => exact HC0.out); rintro e w' ⟨rfl, ⟨nd, rfl⟩⟩) | (go_at_call 12; (with_reducible refine (gangerlaw05_known.calls k  t446 _ A25.out).mono ?_); rintro e w36 ⟨rfl, hb⟩; have n0_ := Aside0.mk (Kd.R_below (by (with_reducible repeat (first | apply Kd.R_alloc | apply Kd.R_drewN | apply Kd.R_drew)); exact HO429.out) hb); have n1_ := Aside0.mk (Kd.R_below (by (with_reducible repeat (first | apply Kd.R_alloc | apply Kd.R_drewN | apply Kd.R_drew)); exact HO436.out) hb); have n2_ := Aside0.mk (Kd.R_below (by (with_reducible repeat (first | apply Kd.R_alloc | apply Kd.R_drewN | apply Kd.R_drew)); exact HO440.out) hb); have n3_ := Aside0.mk (below_step (by repeat (first | (with_reducible first | exact HB.out | apply below_alloc | apply pw_below_drewN | apply below_drew1) | exact HB.out)) hb); clear HO429; clear HO436; clear HO440; clear HB; have HO429 := n0_; have HO436 := n1_; have HO440 := n2_; have HB := n3_; clear n0_ n1_ n2_ n3_; (try clear hb); (try clear hb2); (try clear hk); (try clear hi)))
                go_ret
                exact ⟨by first | rfl | (simp [errW_none, errW_some] <;> rfl) | (simp [*, errW_none, errW_some] <;> rfl), by repeat (first | (with_reducible first | exact HB.out | apply below_alloc | apply pw_below_drewN | apply below_drew1) | exact HB.out)⟩
              · replace c24 := Bool.eq_false_iff.mpr c24
                subst c24
                have H1 : (none) = some r := by rw [if_neg (show ¬ (false = true) by decide)] at H; exact H
                clear H
                have H := H1
                clear H1
                exact absurd H (by simp)
            · rw [if_neg c22] at H
              exact absurd H (by simp)
          · replace c21 := Bool.eq_false_iff.mpr c21
            subst c21
            have H1 : (none) = some r := by rw [if_neg (show ¬ (false = true) by decide)] at H; exact H
            clear H
            have H := H1
            clear H1
            exact absurd H (by simp)
        · rw [if_neg c19] at H
          exact absurd H (by simp)
      · rw [if_neg c17] at H
        exact absurd H (by simp)
    · rw [if_neg c15] at H
      exact absurd H (by simp)
def gangerlaw05_ProfileTells.Pure : Prop := ∀ (l0 : List (S39)) (a1 : Int) (a2 : Int), (l0.length ≤ maxLen ∧ ∀ x2 ∈ l0, (((Lit.int .i64 x2.f0).wf = true) ∧ ((Lit.int .i64 x2.f1).wf = true))) → ((Lit.int .i64 a1).wf = true) → ((Lit.int .i64 a2).wf = true) → ∃ k, gangerlaw05_ProfileTells.f k l0 a1 a2 = some true

end Go.Proofs.Ytfcmpnajokjaaaa.P
