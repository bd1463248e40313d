/- The machine's side of the laws of this seat: each function's plain form and its contract, written by a program of this session out of Lean's print of the loaded functions; no condition beyond what each statement says. -/
import Derived.Test.YtfcmpnajokjaaaaP0
import Derived.Test.YtfcmpnajokjaaaaP6
import Derived.Test.YtfcmpnajokjaaaaP7
import Derived.Test.YtfcmpnajokjaaaaP8
import Derived.Test.YtfcmpnajokjaaaaP9
namespace Go.Proofs.Ytfcmpnajokjaaaa.P
open Go.RowKit Go.Proofs.YtfcmpnajokjaaaaW.PrintWords Go.Proofs.YtfcmpnajokjaaaaW.PrintLast Go.Proofs.YtfcmpnajokjaaaaW.PrintMore
attribute [local go_sem] max2_int min2_int max_two min_two max_three min_three max_four min_four   -- for this text's walks alone
set_option linter.unusedVariables false
set_option linter.unusedSimpArgs false

attribute [local go_sem] isSome_setCell
/-! ### gangerref05_Change: function 17 -/
mutual
def gangerref05_Change.j0 : Nat → List (S39) → Int → Int → Int → Bool → Option ((List (S39)) × Int)
  | 0, _, _, _, _, _ => none
  | k + 1, x0, x1, x2, x3, x46 => if x46 = true then (some (([] : List (S39)), 2)) else (if 0 < (x0.length : Int) then ((gangerref05_ends.f k x0 (([(⟨x1, 0⟩ : S39), (⟨wrap64 (x1 + x2), 0⟩ : S39)] : List (S39))) ((rd_T39 x0 0).f0)).bind fun t287 => (gangerref05_Change.l0 k x0 x1 x2 x3 t287 ([] : List Int) 0)) else (none))
def gangerref05_Change.l0 : Nat → List (S39) → Int → Int → Int → List Int → List Int → Int → Option ((List (S39)) × Int)
  | 0, _, _, _, _, _, _, _ => none
  | k + 1, x0, x1, x2, x3, x11, x12, x13 => if x13 < (x11.length : Int) then (if 0 ≤ x13 then ((gangerref05_At.f k x0 (rd x11 x13)).bind fun t294 => (if (rd x11 x13) ≥ x1 then (gangerref05_Change.j2 k x0 x1 x2 x3 x11 x12 x13 t294 (decide ((rd x11 x13) < (wrap64 (x1 + x2))))) else (gangerref05_Change.j2 k x0 x1 x2 x3 x11 x12 x13 t294 false))) else (none)) else ((gangerref05_of.f k x11 x12).bind fun t290 => (some (t290, 0)))
def gangerref05_Change.j2 : Nat → List (S39) → Int → Int → Int → List Int → List Int → Int → Int → Bool → Option ((List (S39)) × Int)
  | 0, _, _, _, _, _, _, _, _, _ => none
  | k + 1, x0, x1, x2, x3, x11, x12, x13, x14, x87 => if x87 = true then (if (wrap64 (x14 + x3)) < 0 then (some (([] : List (S39)), 5)) else (if (wrap64 (x14 + x3)) > 1099511627776 then (some (([] : List (S39)), 5)) else (if x12.length < 17592186044416 then (gangerref05_Change.l0 k x0 x1 x2 x3 x11 (x12 ++ [wrap64 (x14 + x3)]) (wrap64 (x13 + 1))) else (none)))) else (if x14 < 0 then (some (([] : List (S39)), 5)) else (if x14 > 1099511627776 then (some (([] : List (S39)), 5)) else (if x12.length < 17592186044416 then (gangerref05_Change.l0 k x0 x1 x2 x3 x11 (x12 ++ [x14]) (wrap64 (x13 + 1))) else (none))))
end
def gangerref05_Change.f (k : Nat) (l0 : List (S39)) (a1 : Int) (a2 : Int) (a3 : Int) : Option ((List (S39)) × Int) := (gangerref05_Check.f k l0).bind fun t281 => (if t281 = 0 then (if 0 < (l0.length : Int) then (if a1 < ((rd_T39 l0 0).f0) then (gangerref05_Change.j0 k l0 a1 a2 a3 true) else (if a1 > 1099511627776 then (gangerref05_Change.j0 k l0 a1 a2 a3 true) else (if a2 < 1 then (gangerref05_Change.j0 k l0 a1 a2 a3 true) else (if a2 > (wrap64 (1099511627776 - a1)) then (gangerref05_Change.j0 k l0 a1 a2 a3 true) else (if a3 < (-1099511627776) then (gangerref05_Change.j0 k l0 a1 a2 a3 true) else (gangerref05_Change.j0 k l0 a1 a2 a3 (decide (a3 > 1099511627776)))))))) else (none)) else (some (([] : List (S39)), 50)))
theorem gangerref05_Change.mono_l : ∀ k, (∀ y0 y1 y2 y3 y4, LeO (gangerref05_Change.j0 k y0 y1 y2 y3 y4) (gangerref05_Change.j0 (k + 1) y0 y1 y2 y3 y4)) ∧ (∀ y0 y1 y2 y3 y4 y5 y6, LeO (gangerref05_Change.l0 k y0 y1 y2 y3 y4 y5 y6) (gangerref05_Change.l0 (k + 1) y0 y1 y2 y3 y4 y5 y6)) ∧ (∀ y0 y1 y2 y3 y4 y5 y6 y7 y8, LeO (gangerref05_Change.j2 k y0 y1 y2 y3 y4 y5 y6 y7 y8) (gangerref05_Change.j2 (k + 1) y0 y1 y2 y3 y4 y5 y6 y7 y8))
  | 0 => ⟨fun _ _ _ _ _ r h => by simp [gangerref05_Change.j0] at h, fun _ _ _ _ _ _ _ r h => by simp [gangerref05_Change.l0] at h, fun _ _ _ _ _ _ _ _ _ r h => by simp [gangerref05_Change.j2] at h⟩
  | k + 1 => by
    obtain ⟨ih0, ih1, ih2⟩ := gangerref05_Change.mono_l k
    refine ⟨?_, ?_, ?_⟩
    · intro y0 y1 y2 y3 y4
      unfold gangerref05_Change.j0
      repeat' first
      | (with_reducible exact ih0 _ _ _ _ _)
      | (with_reducible exact ih1 _ _ _ _ _ _ _)
      | (with_reducible exact ih2 _ _ _ _ _ _ _ _ _)
      | (with_reducible exact gangerref05_At.mono _ _ _)
      | (with_reducible exact gangerref05_Check.mono _ _)
      | (with_reducible exact gangerref05_ends.mono _ _ _ _)
      | (with_reducible exact gangerref05_of.mono _ _ _)
      | (with_reducible exact LeO.refl _)
      | (with_reducible exact LeO.none _)
      | (with_reducible refine LeO.ite ?_ ?_)
      | (with_reducible refine LeO.bind ?_ (fun _ => ?_))
      | exact ih0 _ _ _ _ _
      | exact ih1 _ _ _ _ _ _ _
      | exact ih2 _ _ _ _ _ _ _ _ _
      | exact gangerref05_At.mono _ _ _
      | exact gangerref05_Check.mono _ _
      | exact gangerref05_ends.mono _ _ _ _
      | exact gangerref05_of.mono _ _ _
      | exact LeO.none _
      | refine LeO.ite ?_ ?_
      | refine LeO.bind ?_ (fun _ => ?_)
    · intro y0 y1 y2 y3 y4 y5 y6
      unfold gangerref05_Change.l0
      repeat' first
      | (with_reducible exact ih0 _ _ _ _ _)
      | (with_reducible exact ih1 _ _ _ _ _ _ _)
      | (with_reducible exact ih2 _ _ _ _ _ _ _ _ _)
      | (with_reducible exact gangerref05_At.mono _ _ _)
      | (with_reducible exact gangerref05_Check.mono _ _)
      | (with_reducible exact gangerref05_ends.mono _ _ _ _)
      | (with_reducible exact gangerref05_of.mono _ _ _)
      | (with_reducible exact LeO.refl _)
      | (with_reducible exact LeO.none _)
      | (with_reducible refine LeO.ite ?_ ?_)
      | (with_reducible refine LeO.bind ?_ (fun _ => ?_))
      | exact ih0 _ _ _ _ _
      | exact ih1 _ _ _ _ _ _ _
      | exact ih2 _ _ _ _ _ _ _ _ _
      | exact gangerref05_At.mono _ _ _
      | exact gangerref05_Check.mono _ _
      | exact gangerref05_ends.mono _ _ _ _
      | exact gangerref05_of.mono _ _ _
      | exact LeO.none _
      | refine LeO.ite ?_ ?_
      | refine LeO.bind ?_ (fun _ => ?_)
    · intro y0 y1 y2 y3 y4 y5 y6 y7 y8
      unfold gangerref05_Change.j2
      repeat' first
      | (with_reducible exact ih0 _ _ _ _ _)
      | (with_reducible exact ih1 _ _ _ _ _ _ _)
      | (with_reducible exact ih2 _ _ _ _ _ _ _ _ _)
      | (with_reducible exact gangerref05_At.mono _ _ _)
      | (with_reducible exact gangerref05_Check.mono _ _)
      | (with_reducible exact gangerref05_ends.mono _ _ _ _)
      | (with_reducible exact gangerref05_of.mono _ _ _)
      | (with_reducible exact LeO.refl _)
      | (with_reducible exact LeO.none _)
      | (with_reducible refine LeO.ite ?_ ?_)
      | (with_reducible refine LeO.bind ?_ (fun _ => ?_))
      | exact ih0 _ _ _ _ _
      | exact ih1 _ _ _ _ _ _ _
      | exact ih2 _ _ _ _ _ _ _ _ _
      | exact gangerref05_At.mono _ _ _
      | exact gangerref05_Check.mono _ _
      | exact gangerref05_ends.mono _ _ _ _
      | exact gangerref05_of.mono _ _ _
      | exact LeO.none _
      | refine LeO.ite ?_ ?_
      | refine LeO.bind ?_ (fun _ => ?_)
theorem gangerref05_Change.mono : ∀ a0 a1 a2 a3 k, LeO (gangerref05_Change.f k a0 a1 a2 a3) (gangerref05_Change.f (k + 1) a0 a1 a2 a3) := by
  intro a0 a1 a2 a3 k
  obtain ⟨ih0, ih1, ih2⟩ := gangerref05_Change.mono_l k
  unfold gangerref05_Change.f
  repeat' first
      | (with_reducible exact ih0 _ _ _ _ _)
      | (with_reducible exact ih1 _ _ _ _ _ _ _)
      | (with_reducible exact ih2 _ _ _ _ _ _ _ _ _)
      | (with_reducible exact gangerref05_At.mono _ _ _)
      | (with_reducible exact gangerref05_Check.mono _ _)
      | (with_reducible exact gangerref05_ends.mono _ _ _ _)
      | (with_reducible exact gangerref05_of.mono _ _ _)
      | (with_reducible exact LeO.refl _)
      | (with_reducible exact LeO.none _)
      | (with_reducible refine LeO.ite ?_ ?_)
      | (with_reducible refine LeO.bind ?_ (fun _ => ?_))
      | exact ih0 _ _ _ _ _
      | exact ih1 _ _ _ _ _ _ _
      | exact ih2 _ _ _ _ _ _ _ _ _
      | exact gangerref05_At.mono _ _ _
      | exact gangerref05_Check.mono _ _
      | exact gangerref05_ends.mono _ _ _ _
      | exact gangerref05_of.mono _ _ _
      | exact LeO.none _
      | refine LeO.ite ?_ ?_
      | refine LeO.bind ?_ (fun _ => ?_)
set_option maxHeartbeats 8000000 in
set_option maxRecDepth 100000 in
theorem gangerref05_Change.calls (k : Nat) (A0 : Option Addr) (c0 : Nat) (l0 : List (S39)) (a1 : Int) (a2 : Int) (a3 : Int) (r1 : List (S39)) (r2 : Int) (w : World) (hr0 : Kd.C k39 w A0 l0.length l0) (hc0 : l0.length ≤ c0) (h : gangerref05_Change.f k l0 a1 a2 a3 = some (r1, r2)) :
    Calls Try.prog 17 #[.slice A0 l0.length c0, .int .i64 a1, .int .i64 a2, .int .i64 a3] w fun e w' => ∃ v0_ : Value, e = .returned (.tuple #[v0_, .int .i64 r2]) ∧ Kd.R k39 39 w' w.heap.size (fun _ => True) v0_ r1 ∧ Below w.heap.size w w' := by
  have hu39 := Try.underlying39
  have HR0 := Aside0.mk hr0
  have HC0 := Aside0.mk hc0
  clear hr0 hc0
  have HB := Aside0.mk (Below.refl w.heap.size w)
  have H : ((gangerref05_Check.f k l0).bind fun t281 => (if t281 = 0 then (if 0 < (l0.length : Int) then (if a1 < ((rd_T39 l0 0).f0) then (gangerref05_Change.j0 k l0 a1 a2 a3 true) else (if a1 > 1099511627776 then (gangerref05_Change.j0 k l0 a1 a2 a3 true) else (if a2 < 1 then (gangerref05_Change.j0 k l0 a1 a2 a3 true) else (if a2 > (wrap64 (1099511627776 - a1)) then (gangerref05_Change.j0 k l0 a1 a2 a3 true) else (if a3 < (-1099511627776) then (gangerref05_Change.j0 k l0 a1 a2 a3 true) else (gangerref05_Change.j0 k l0 a1 a2 a3 (decide (a3 > 1099511627776)))))))) else (none)) else (some (([] : List (S39)), 50)))) = some (r1, r2) := h
  clear h
  replace H := Option.bind_eq_some_iff.mp H
  obtain ⟨t281, A50, H⟩ := H
  replace H : (if t281 = 0 then (if 0 < (l0.length : Int) then (if a1 < ((rd_T39 l0 0).f0) then (gangerref05_Change.j0 k l0 a1 a2 a3 true) else (if a1 > 1099511627776 then (gangerref05_Change.j0 k l0 a1 a2 a3 true) else (if a2 < 1 then (gangerref05_Change.j0 k l0 a1 a2 a3 true) else (if a2 > (wrap64 (1099511627776 - a1)) then (gangerref05_Change.j0 k l0 a1 a2 a3 true) else (if a3 < (-1099511627776) then (gangerref05_Change.j0 k l0 a1 a2 a3 true) else (gangerref05_Change.j0 k l0 a1 a2 a3 (decide (a3 > 1099511627776)))))))) else (none)) else (some (([] : List (S39)), 50))) = some (r1, r2) := H
  have A5 := Aside0.mk A50
  clear A50
  by_cases c6 : t281 = 0
  · rw [if_pos c6] at H
    have c6b0 : (t281 == 0) = true := beq_iff_eq.mpr c6
    have c6b1 : (t281 != 0) = false := bne_eq_false_iff_eq.mpr c6
    clear c6
    have HC7 := Aside0.mk H
    clear H
    go_enter Try.func17, Try.ntmps17
    go_upto_region 4 with (first | ((with_reducible refine gate_callee (f := 27) rfl ?_); refine goesL_ (some 16) rfl rfl Try.func27 (by kernel_rfl) rfl #[.slice A0 l0.length c0] rfl (by (try simp only [List.map_toArray, List.map_cons, List.map_nil]); first | done | rfl | (simp only [List.length_drop, List.length_take]; rfl)) ?_; (with_reducible refine (gangerref05_Check.calls k _ _ l0 t281 _ ?side1 ?side2 A5.out).mono ?_); (case side1 => repeat (first | exact HR0.out | (with_reducible refine Kd.C_alloc ?_ _) | (with_reducible refine Kd.C_drewN ?_ _) | (with_reducible refine Kd.C_drew ?_))); (case side2 => exact HC0.out); rintro e w' ⟨rfl, ⟨nd, rfl⟩⟩; refine ⟨_, rfl, ?_⟩))
    (try simp only [Act.put, List.setIfInBounds_toArray, List.set_cons_zero, List.set_cons_succ])
    go_cut [46] (fun v46 wc => ∃ (kq : Nat) (x46_6 : Bool), v46 = .bool x46_6 ∧ Aside0 (gangerref05_Change.j0 kq l0 a1 a2 a3 x46_6 = some (r1, r2)) ∧ Aside0 (kq ≤ k) ∧ Aside0 (Below w.heap.size w wc))
    case first =>
      have H := HC7.out
      clear HC7
      by_cases c8 : 0 < (l0.length : Int)
      · rw [if_pos c8] at H
        have c8b0 : decide (0 < (l0.length : Int)) = true := decide_eq_true c8
        have c8b1 : decide (0 < l0.length) = true := decide_eq_true (by omega)
        clear c8
        (first | rw [c8b0] | (simp only [i64_w, i32_w]; rw [c8b0]) | skip)
        by_cases c9 : a1 < ((rd_T39 l0 0).f0)
        · rw [if_pos c9] at H
          have c9b0 : decide (a1 < ((rd_T39 l0 0).f0)) = true := decide_eq_true c9
          clear c9
          have H' := Aside0.mk H
          clear H
          have p282 : 0 ≤ (0 : Int) := (by omega)
          have q282 : 0 < (l0.length : Int) := of_decide_eq_true (by first | (with_reducible assumption) | assumption)
          obtain ⟨ad282, e282, hx282_0, hx282_1⟩ := at_T39 HR0.out 0 p282 q282
          cases e282
          have qi282 : (0 < l0.length) = True := eq_true (by omega)
          (try rw [show ((0 : Int)).toNat = 0 from rfl] at hx282_0)
          (try rw [show 0 * 2 = 0 from rfl] at hx282_0)
          (try rw [Addr.add_zero'] at hx282_0)
          (try rw [show ((0 : Int)).toNat = 0 from rfl] at hx282_1)
          (try rw [show 0 * 2 = 0 from rfl] at hx282_1)
          (try rw [Addr.add_zero'] at hx282_1)
          replace hx282_0 := (HB.out.cell (World.block_lt_of_cell? w _ hx282_0)).trans hx282_0
          replace hx282_1 := (HB.out.cell (World.block_lt_of_cell? w _ hx282_1)).trans hx282_1
          replace p282 := eq_true p282
          replace q282 := eq_true q282
          go_wp2
          go_meet
          case rel => exact ⟨_, (true), (by first | rfl | (simp; done) | (simp [*]; done)), H', ⟨by first | omega | exact Nat.le_refl _⟩, ⟨by repeat (first | (with_reducible first | exact HB.out | apply below_alloc | apply pw_below_drewN | apply below_drew1) | exact HB.out)⟩⟩
        · rw [if_neg c9] at H
          have c9b0 : decide (a1 < ((rd_T39 l0 0).f0)) = false := decide_eq_false c9
          clear c9
          by_cases c10 : a1 > 1099511627776
          · rw [if_pos c10] at H
            have c10b0 : decide (1099511627776 < a1) = true := decide_eq_true c10
            clear c10
            have H' := Aside0.mk H
            clear H
            have p282 : 0 ≤ (0 : Int) := (by omega)
            have q282 : 0 < (l0.length : Int) := of_decide_eq_true (by first | (with_reducible assumption) | assumption)
            obtain ⟨ad282, e282, hx282_0, hx282_1⟩ := at_T39 HR0.out 0 p282 q282
            cases e282
            have qi282 : (0 < l0.length) = True := eq_true (by omega)
            (try rw [show ((0 : Int)).toNat = 0 from rfl] at hx282_0)
            (try rw [show 0 * 2 = 0 from rfl] at hx282_0)
            (try rw [Addr.add_zero'] at hx282_0)
            (try rw [show ((0 : Int)).toNat = 0 from rfl] at hx282_1)
            (try rw [show 0 * 2 = 0 from rfl] at hx282_1)
            (try rw [Addr.add_zero'] at hx282_1)
            replace hx282_0 := (HB.out.cell (World.block_lt_of_cell? w _ hx282_0)).trans hx282_0
            replace hx282_1 := (HB.out.cell (World.block_lt_of_cell? w _ hx282_1)).trans hx282_1
            replace p282 := eq_true p282
            replace q282 := eq_true q282
            go_wp2
            go_meet
            case rel => exact ⟨_, (true), (by first | rfl | (simp; done) | (simp [*]; done)), H', ⟨by first | omega | exact Nat.le_refl _⟩, ⟨by repeat (first | (with_reducible first | exact HB.out | apply below_alloc | apply pw_below_drewN | apply below_drew1) | exact HB.out)⟩⟩
          · rw [if_neg c10] at H
            have c10b0 : decide (1099511627776 < a1) = false := decide_eq_false c10
            clear c10
            by_cases c11 : a2 < 1
            · rw [if_pos c11] at H
              have c11b0 : decide (a2 < 1) = true := decide_eq_true c11
              clear c11
              have H' := Aside0.mk H
              clear H
              have p282 : 0 ≤ (0 : Int) := (by omega)
              have q282 : 0 < (l0.length : Int) := of_decide_eq_true (by first | (with_reducible assumption) | assumption)
              obtain ⟨ad282, e282, hx282_0, hx282_1⟩ := at_T39 HR0.out 0 p282 q282
              cases e282
              have qi282 : (0 < l0.length) = True := eq_true (by omega)
              (try rw [show ((0 : Int)).toNat = 0 from rfl] at hx282_0)
              (try rw [show 0 * 2 = 0 from rfl] at hx282_0)
              (try rw [Addr.add_zero'] at hx282_0)
              (try rw [show ((0 : Int)).toNat = 0 from rfl] at hx282_1)
              (try rw [show 0 * 2 = 0 from rfl] at hx282_1)
              (try rw [Addr.add_zero'] at hx282_1)
              replace hx282_0 := (HB.out.cell (World.block_lt_of_cell? w _ hx282_0)).trans hx282_0
              replace hx282_1 := (HB.out.cell (World.block_lt_of_cell? w _ hx282_1)).trans hx282_1
              replace p282 := eq_true p282
              replace q282 := eq_true q282
              go_wp2
              go_meet
              case rel => exact ⟨_, (true), (by first | rfl | (simp; done) | (simp [*]; done)), H', ⟨by first | omega | exact Nat.le_refl _⟩, ⟨by repeat (first | (with_reducible first | exact HB.out | apply below_alloc | apply pw_below_drewN | apply below_drew1) | exact HB.out)⟩⟩
            · rw [if_neg c11] at H
              have c11b0 : decide (a2 < 1) = false := decide_eq_false c11
              clear c11
              by_cases c12 : a2 > (wrap64 (1099511627776 - a1))
              · rw [if_pos c12] at H
                have c12b0 : decide ((wrap64 (1099511627776 - a1)) < a2) = true := decide_eq_true c12
                clear c12
                have H' := Aside0.mk H
                clear H
                have p282 : 0 ≤ (0 : Int) := (by omega)
                have q282 : 0 < (l0.length : Int) := of_decide_eq_true (by first | (with_reducible assumption) | assumption)
                obtain ⟨ad282, e282, hx282_0, hx282_1⟩ := at_T39 HR0.out 0 p282 q282
                cases e282
                have qi282 : (0 < l0.length) = True := eq_true (by omega)
                (try rw [show ((0 : Int)).toNat = 0 from rfl] at hx282_0)
                (try rw [show 0 * 2 = 0 from rfl] at hx282_0)
                (try rw [Addr.add_zero'] at hx282_0)
                (try rw [show ((0 : Int)).toNat = 0 from rfl] at hx282_1)
                (try rw [show 0 * 2 = 0 from rfl] at hx282_1)
                (try rw [Addr.add_zero'] at hx282_1)
                replace hx282_0 := (HB.out.cell (World.block_lt_of_cell? w _ hx282_0)).trans hx282_0
                replace hx282_1 := (HB.out.cell (World.block_lt_of_cell? w _ hx282_1)).trans hx282_1
                replace p282 := eq_true p282
                replace q282 := eq_true q282
                go_wp2
                go_meet
                case rel => exact ⟨_, (true), (by first | rfl | (simp; done) | (simp [*]; done)), H', ⟨by first | omega | exact Nat.le_refl _⟩, ⟨by repeat (first | (with_reducible first | exact HB.out | apply below_alloc | apply pw_below_drewN | apply below_drew1) | exact HB.out)⟩⟩
              · rw [if_neg c12] at H
                have c12b0 : decide ((wrap64 (1099511627776 - a1)) < a2) = false := decide_eq_false c12
                clear c12
                by_cases c13 : a3 < (-1099511627776)
                · rw [if_pos c13] at H
                  have c13b0 : decide (a3 < (-1099511627776)) = true := decide_eq_true c13
                  clear c13
                  have H' := Aside0.mk H
                  clear H
                  have p282 : 0 ≤ (0 : Int) := (by omega)
                  have q282 : 0 < (l0.length : Int) := of_decide_eq_true (by first | (with_reducible assumption) | assumption)
                  obtain ⟨ad282, e282, hx282_0, hx282_1⟩ := at_T39 HR0.out 0 p282 q282
                  cases e282
                  have qi282 : (0 < l0.length) = True := eq_true (by omega)
                  (try rw [show ((0 : Int)).toNat = 0 from rfl] at hx282_0)
                  (try rw [show 0 * 2 = 0 from rfl] at hx282_0)
                  (try rw [Addr.add_zero'] at hx282_0)
                  (try rw [show ((0 : Int)).toNat = 0 from rfl] at hx282_1)
                  (try rw [show 0 * 2 = 0 from rfl] at hx282_1)
                  (try rw [Addr.add_zero'] at hx282_1)
                  replace hx282_0 := (HB.out.cell (World.block_lt_of_cell? w _ hx282_0)).trans hx282_0
                  replace hx282_1 := (HB.out.cell (World.block_lt_of_cell? w _ hx282_1)).trans hx282_1
                  replace p282 := eq_true p282
                  replace q282 := eq_true q282
                  go_wp2
                  go_meet
                  case rel => exact ⟨_, (true), (by first | rfl | (simp; done) | (simp [*]; done)), H', ⟨by first | omega | exact Nat.le_refl _⟩, ⟨by repeat (first | (with_reducible first | exact HB.out | apply below_alloc | apply pw_below_drewN | apply below_drew1) | exact HB.out)⟩⟩
                · rw [if_neg c13] at H
                  have c13b0 : decide (a3 < (-1099511627776)) = false := decide_eq_false c13
                  clear c13
                  have H' := Aside0.mk H
                  clear H
                  have p282 : 0 ≤ (0 : Int) := (by omega)
                  have q282 : 0 < (l0.length : Int) := of_decide_eq_true (by first | (with_reducible assumption) | assumption)
                  obtain ⟨ad282, e282, hx282_0, hx282_1⟩ := at_T39 HR0.out 0 p282 q282
                  cases e282
                  have qi282 : (0 < l0.length) = True := eq_true (by omega)
                  (try rw [show ((0 : Int)).toNat = 0 from rfl] at hx282_0)
                  (try rw [show 0 * 2 = 0 from rfl] at hx282_0)
                  (try rw [Addr.add_zero'] at hx282_0)
                  (try rw [show ((0 : Int)).toNat = 0 from rfl] at hx282_1)
                  (try rw [show 0 * 2 = 0 from rfl] at hx282_1)
                  (try rw [Addr.add_zero'] at hx282_1)
                  replace hx282_0 := (HB.out.cell (World.block_lt_of_cell? w _ hx282_0)).trans hx282_0
                  replace hx282_1 := (HB.out.cell (World.block_lt_of_cell? w _ hx282_1)).trans hx282_1
                  replace p282 := eq_true p282
                  replace q282 := eq_true q282
                  go_wp2
                  go_meet
                  case rel => exact ⟨_, (decide (a3 > 1099511627776)), (by first | rfl | (simp; done) | (simp [*]; done)), H', ⟨by first | omega | exact Nat.le_refl _⟩, ⟨by repeat (first | (with_reducible first | exact HB.out | apply below_alloc | apply pw_below_drewN | apply below_drew1) | exact HB.out)⟩⟩
      · rw [if_neg c8] at H
        exact absurd H (by simp)
    case rest =>
      clear HC7
      try clear c1
      try clear c2
      try clear p2
      try clear q2
      try clear hx2
      try clear qi2
      try clear c6
      try clear c6b0
      try clear c6b1
      try clear p6
      try clear c8
      try clear c8b0
      try clear c8b1
      try clear c9
      try clear c9b0
      try clear c10
      try clear c10b0
      try clear c11
      try clear c11b0
      try clear c12
      try clear c12b0
      try clear c13
      try clear c13b0
      try clear hx282_0
      try clear hx282_1
      try clear p282
      try clear q282
      obtain ⟨kq, x46_6, rfl, HA, HJ6, HB⟩ := hcut
      cases kq with
      | zero => exact absurd HA.out (by simp [gangerref05_Change.j0])
      | succ kj6 =>
        have H := HA.out
        clear HA
        simp only [gangerref05_Change.j0] at H
        by_cases c14 : x46_6 = true
        · subst c14
          have H1 : (some (([] : List (S39)), 2)) = some (r1, r2) := by rw [if_pos rfl] at H; exact H
          clear H
          have H := H1
          clear H1
          simp only [Option.some.injEq, Prod.mk.injEq] at H
          obtain ⟨rfl, rfl⟩ := H
          go_wp2
          go_ret2
          exact ⟨_, by first | rfl | (simp [errW_none, errW_some] <;> rfl) | (simp [*, errW_none, errW_some] <;> rfl), by first | exact Kd.R_nil _ _ _ _ _ | exact Kd.N_nil _ _ _ _ _ | exact Kd.V_nil _ _ _ _ _ | exact Kd.Q_nil _ _ _ _ _ | exact Kd.S_nil _ _ _ _ _, by repeat (first | (with_reducible first | exact HB.out | apply below_alloc | apply pw_below_drewN | apply below_drew1) | exact HB.out)⟩
        · replace c14 := Bool.eq_false_iff.mpr c14
          subst c14
          have H1 : (if 0 < (l0.length : Int) then ((gangerref05_ends.f kj6 l0 (([(⟨a1, 0⟩ : S39), (⟨wrap64 (a1 + a2), 0⟩ : S39)] : List (S39))) ((rd_T39 l0 0).f0)).bind fun t287 => (gangerref05_Change.l0 kj6 l0 a1 a2 a3 t287 ([] : List Int) 0)) else (none)) = some (r1, r2) := by rw [if_neg (show ¬ (false = true) by decide)] at H; exact H
          clear H
          have H := H1
          clear H1
          obtain ⟨y283, hy283⟩ : ∃ y_ : List (S39), y_ = (([(⟨a1, 0⟩ : S39), (⟨wrap64 (a1 + a2), 0⟩ : S39)] : List (S39))) := ⟨_, rfl⟩
          replace H : (if 0 < (l0.length : Int) then ((gangerref05_ends.f kj6 l0 y283 ((rd_T39 l0 0).f0)).bind fun t287 => (gangerref05_Change.l0 kj6 l0 a1 a2 a3 t287 ([] : List Int) 0)) else (none)) = some (r1, r2) := by first | (rw [hy283]; with_reducible exact H) | (have H2_ := (Option.bind_some _ _).symm.trans H; rw [hy283]; with_reducible exact H2_) | (have H2_ := (Option.bind_some _ _).symm.trans H; with_reducible exact H2_) | with_reducible exact H | (rw [hy283]; exact H) | exact H
          have Ny283 := Aside0.mk hy283
          clear hy283
          by_cases c15 : 0 < (l0.length : Int)
          · rw [if_pos c15] at H
            have c15b0 : decide (0 < (l0.length : Int)) = true := decide_eq_true c15
            have c15b1 : decide (0 < l0.length) = true := decide_eq_true (by omega)
            clear c15
            replace H := Option.bind_eq_some_iff.mp H
            obtain ⟨t287, A160, H⟩ := H
            replace H : (gangerref05_Change.l0 kj6 l0 a1 a2 a3 t287 ([] : List Int) 0) = some (r1, r2) := H
            have A16 := Aside0.mk A160
            clear A160
            have H' := Aside0.mk H
            clear H
            go_wp2_with (first | ((with_reducible refine gate_dst (N := 54) rfl ?_); refine Kd.R_lit k39 _ 39 ?hg (N := 54) ?hd (xs := ([(⟨a1, 0⟩ : S39), (⟨wrap64 (a1 + a2), 0⟩ : S39)] : List (S39))) (inner := [.int .i64 a1, .int .i64 0, .int .i64 (wrap64 (a1 + a2)), .int .i64 0]) (ok := fun _ => True) (okp := fun _ => True) ?hr ?hp (fun _ hk => hk) trivial (Below.refl _ _) (Nat.le_refl _) (by simp) ?_; (case hd => rfl); (case hg => rfl); (case hr => first | (go_simp; done) | (go_simp; rfl)); (case hp => exact (Reps.c2 (show Kd.M k39 _ _ _ (⟨a1, 0⟩ : S39) [.int .i64 a1, .int .i64 0] from (k39_mkM _ _ _ (⟨a1, 0⟩ : S39) )) (Reps.c2 (show Kd.M k39 _ _ _ (⟨wrap64 (a1 + a2), 0⟩ : S39) [.int .i64 (wrap64 (a1 + a2)), .int .i64 0] from (k39_mkM _ _ _ (⟨wrap64 (a1 + a2), 0⟩ : S39) )) (Reps.none _ _)))); intro v284 w17 ho18 hb hg_ hnew_; clear hg_ hnew_; (first | rw [← Ny283.out] at ho18 | (simp only [Int.reduceToNat] at ho18; rw [← Ny283.out] at ho18)); have n0_ := Aside0.mk (Kd.R_lower ho18 (below_size (by repeat (first | (with_reducible first | exact HB.out | apply below_alloc | apply pw_below_drewN | apply below_drew1) | exact HB.out)))); have n1_ := Aside0.mk (below_step (by repeat (first | (with_reducible first | exact HB.out | apply below_alloc | apply pw_below_drewN | apply below_drew1) | exact HB.out)) hb); clear HB; have HO285 := n0_; have HB := n1_; clear n0_ n1_; clear hb ho18; have p286 : 0 ≤ (0 : Int) := (by omega); have q286 : 0 < (l0.length : Int) := of_decide_eq_true (by first | (with_reducible assumption) | assumption); obtain ⟨ad286, e286, hx286_0, hx286_1⟩ := at_T39 HR0.out 0 p286 q286; cases e286; have qi286 : (0 < l0.length) = True := eq_true (by omega); (try rw [show ((0 : Int)).toNat = 0 from rfl] at hx286_0); (try rw [show 0 * 2 = 0 from rfl] at hx286_0); (try rw [Addr.add_zero'] at hx286_0); (try rw [show ((0 : Int)).toNat = 0 from rfl] at hx286_1); (try rw [show 0 * 2 = 0 from rfl] at hx286_1); (try rw [Addr.add_zero'] at hx286_1); replace hx286_0 := (HB.out.cell (World.block_lt_of_cell? w _ hx286_0)).trans hx286_0; replace hx286_1 := (HB.out.cell (World.block_lt_of_cell? w _ hx286_1)).trans hx286_1; replace p286 := eq_true p286; replace q286 := eq_true q286; obtain ⟨Ao19, co19, eo19⟩ := Kd.R_slice HO285.out; subst eo19) | ((with_reducible refine gate_callee (f := 33) rfl ?_); refine goesL_ (some 59) rfl rfl Try.func33 (by kernel_rfl) rfl #[.slice (some ad286) l0.length c0, .slice Ao19 y283.length co19, .int .i64 ((rd_T39 l0 0).f0)] rfl (by (try simp only [List.map_toArray, List.map_cons, List.map_nil]); first | done | rfl | (simp only [List.length_drop, List.length_take]; rfl)) ?_; (with_reducible refine (gangerref05_ends.calls kj6 _ _ l0 _ _ y283 ((rd_T39 l0 0).f0) t287 _ ?side1 ?side2 ?side3 ?side4 A16.out).mono ?_); (case side1 => repeat (first | exact (Kd.C_below HR0.out HB.out) | (with_reducible refine Kd.C_alloc ?_ _) | (with_reducible refine Kd.C_drewN ?_ _) | (with_reducible refine Kd.C_drew ?_))); (case side2 => exact HC0.out); (case side3 => repeat (first | exact (Kd.R_reads' HO285.out).2.2 | (with_reducible refine Kd.C_alloc ?_ _) | (with_reducible refine Kd.C_drewN ?_ _) | (with_reducible refine Kd.C_drew ?_))); (case side4 => exact (Kd.R_reads' HO285.out).2.1); rintro e w20 ⟨v288, rfl, ho0, hb⟩; refine ⟨_, rfl, ?_⟩; have n0_ := Aside0.mk (Kd.R_below (by (with_reducible repeat (first | apply Kd.R_alloc | apply Kd.R_drewN | apply Kd.R_drew)); exact HO285.out) hb); have n1_ := Aside0.mk (Kd.R_lower ho0 (below_size (by repeat (first | (with_reducible first | exact HB.out | apply below_alloc | apply pw_below_drewN | apply below_drew1) | exact HB.out)))); have n2_ := Aside0.mk (below_step (by repeat (first | (with_reducible first | exact HB.out | apply below_alloc | apply pw_below_drewN | apply below_drew1) | exact HB.out)) hb); clear HO285; clear HB; have HO285 := n0_; have HO289 := n1_; have HB := n2_; clear n0_ n1_ n2_; (try clear hb); (try clear hb2); (try clear hk); (try clear hi); (try clear ho0)))
            go_loopg [12, 13] kj6 (fun kq v12 v13 w' => ∃ (x12_2 : List Int) (x13_2 : Int), v13 = .int .i64 x13_2 ∧ Aside0 (gangerref05_Change.l0 kq l0 a1 a2 a3 t287 x12_2 x13_2 = some (r1, r2)) ∧ Aside0 (kq ≤ kj6) ∧ Aside0 (Kd.R (Kd.int .i64) 3 w' w.heap.size (fun k_ => some k_ ≠ (v12 : Value).ownBlock) v288 t287) ∧ Aside0 (Kd.R (Kd.int .i64) 3 w' w.heap.size (fun k_ => some k_ ≠ (v288 : Value).ownBlock) v12 x12_2) ∧ Aside0 (Below w.heap.size w w'))
            case atStart => exact ⟨(([] : List Int)), (0), (by first | rfl | (simp; done) | (simp [*]; done)), H', ⟨Nat.le_refl _⟩, ⟨by (with_reducible repeat (first | apply Kd.R_alloc | apply Kd.R_drewN | apply Kd.R_drew)); exact Kd.R_mono HO289.out (fun _ hk => (by simp [Value.ownBlock]))⟩, ⟨by first | exact Kd.R_nil _ _ _ _ _ | exact Kd.N_nil _ _ _ _ _ | exact Kd.V_nil _ _ _ _ _ | exact Kd.Q_nil _ _ _ _ _ | exact Kd.S_nil _ _ _ _ _⟩, ⟨by repeat (first | (with_reducible first | exact HB.out | apply below_alloc | apply pw_below_drewN | apply below_drew1) | exact HB.out)⟩⟩
            case round =>
              clear H'
              try clear c1
              try clear c2
              try clear p2
              try clear q2
              try clear hx2
              try clear qi2
              try clear c3
              try clear c6
              try clear c6b0
              try clear c6b1
              try clear p6
              try clear c8
              try clear c8b0
              try clear c8b1
              try clear c9
              try clear c9b0
              try clear c10
              try clear c10b0
              try clear c11
              try clear c11b0
              try clear c12
              try clear c12b0
              try clear c13
              try clear c13b0
              try clear c14
              try clear c15
              try clear c15b0
              try clear c15b1
              try clear c17
              try clear hx282_0
              try clear hx282_1
              try clear hx286_0
              try clear hx286_1
              try clear p2
              try clear p282
              try clear p286
              try clear p6
              try clear q2
              try clear q282
              try clear q286
              obtain ⟨x12_2, x13_2, rfl, HA, HK2, HO_11, HO_12, HB⟩ := hrel
              cases gk with
              | zero => exact absurd HA.out (by simp [gangerref05_Change.l0])
              | succ k2 =>
                have H := HA.out
                clear HA
                simp only [gangerref05_Change.l0] at H
                by_cases c21 : x13_2 < (t287.length : Int)
                · rw [if_pos c21] at H
                  have c21b0 : decide (x13_2 < (t287.length : Int)) = true := decide_eq_true c21
                  clear c21
                  by_cases c22 : 0 ≤ x13_2
                  · rw [if_pos c22] at H
                    have c22b0 : decide (0 ≤ x13_2) = true := decide_eq_true c22
                    clear c22
                    replace H := Option.bind_eq_some_iff.mp H
                    obtain ⟨t294, A230, H⟩ := H
                    replace H : (if (rd t287 x13_2) ≥ a1 then (gangerref05_Change.j2 k2 l0 a1 a2 a3 t287 x12_2 x13_2 t294 (decide ((rd t287 x13_2) < (wrap64 (a1 + a2))))) else (gangerref05_Change.j2 k2 l0 a1 a2 a3 t287 x12_2 x13_2 t294 false)) = some (r1, r2) := H
                    have A23 := Aside0.mk A230
                    clear A230
                    have HC24 := Aside0.mk H
                    clear H
                    obtain ⟨Ao25, co25, eo25⟩ := Kd.R_slice HO_11.out
                    subst eo25
                    have p293 : 0 ≤ (x13_2 : Int) := of_decide_eq_true (by first | (with_reducible assumption) | assumption)
                    have q293 : x13_2 < (t287.length : Int) := of_decide_eq_true (by first | (with_reducible assumption) | assumption)
                    obtain ⟨ad293, e293, hx293_0⟩ := Kd.at_int (Kd.R_reads' HO_11.out).2.2 x13_2 p293 q293
                    cases e293
                    replace p293 := eq_true p293
                    replace q293 := eq_true q293
                    go_upto_region 12 with (first | ((with_reducible refine gate_callee (f := 28) rfl ?_); refine goesL_ (some 71) rfl rfl Try.func28 (by kernel_rfl) rfl #[.slice (some ad286) l0.length c0, .int .i64 (rd t287 x13_2)] rfl (by (try simp only [List.map_toArray, List.map_cons, List.map_nil]); first | done | rfl | (simp only [List.length_drop, List.length_take]; rfl)) ?_; (with_reducible refine (gangerref05_At.calls k2 _ _ l0 (rd t287 x13_2) t294 _ ?side1 ?side2 A23.out).mono ?_); (case side1 => repeat (first | exact (Kd.C_below HR0.out HB.out) | (with_reducible refine Kd.C_alloc ?_ _) | (with_reducible refine Kd.C_drewN ?_ _) | (with_reducible refine Kd.C_drew ?_))); (case side2 => exact HC0.out); rintro e w' ⟨rfl, ⟨nd, rfl⟩⟩; refine ⟨_, rfl, ?_⟩))
                    (try simp only [Act.put, List.setIfInBounds_toArray, List.set_cons_zero, List.set_cons_succ])
                    go_cut [87] (fun v87 wc => ∃ (kq : Nat) (x87_23 : Bool), v87 = .bool x87_23 ∧ Aside0 (gangerref05_Change.j2 kq l0 a1 a2 a3 t287 x12_2 x13_2 t294 x87_23 = some (r1, r2)) ∧ Aside0 (kq ≤ k2) ∧ Aside0 (Kd.R (Kd.int .i64) 3 wc w.heap.size (fun k_ => some k_ ≠ (u12 : Value).ownBlock) (.slice (some ad293) t287.length co25) t287) ∧ Aside0 (Kd.R (Kd.int .i64) 3 wc w.heap.size (fun k_ => some k_ ≠ ((.slice (some ad293) t287.length co25) : Value).ownBlock) u12 x12_2) ∧ Aside0 (Below w.heap.size w wc))
                    case first =>
                      have H := HC24.out
                      clear HC24
                      by_cases c26 : (rd t287 x13_2) ≥ a1
                      · rw [if_pos c26] at H
                        have c26b0 : decide (a1 ≤ (rd t287 x13_2)) = true := decide_eq_true c26
                        clear c26
                        (first | rw [c26b0] | (simp only [i64_w, i32_w]; rw [c26b0]) | skip)
                        have H' := Aside0.mk H
                        clear H
                        have p295 : 0 ≤ (x13_2 : Int) := of_decide_eq_true (by first | (with_reducible assumption) | assumption)
                        have q295 : x13_2 < (t287.length : Int) := of_decide_eq_true (by first | (with_reducible assumption) | assumption)
                        obtain ⟨ad295, e295, hx295_0⟩ := Kd.at_int (Kd.R_reads' HO_11.out).2.2 x13_2 p295 q295
                        obtain rfl : ad293 = ad295 := (by injection e295)
                        replace p295 := eq_true p295
                        replace q295 := eq_true q295
                        have p296 : 0 ≤ (x13_2 : Int) := of_decide_eq_true (by first | (with_reducible assumption) | assumption)
                        have q296 : x13_2 < (t287.length : Int) := of_decide_eq_true (by first | (with_reducible assumption) | assumption)
                        obtain ⟨ad296, e296, hx296_0⟩ := Kd.at_int (Kd.R_reads' HO_11.out).2.2 x13_2 p296 q296
                        obtain rfl : ad293 = ad296 := (by injection e296)
                        replace p296 := eq_true p296
                        replace q296 := eq_true q296
                        go_wp2
                        go_meet
                        case rel => exact ⟨_, (decide ((rd t287 x13_2) < (wrap64 (a1 + a2)))), (by first | rfl | (simp; done) | (simp [*]; done)), H', ⟨by have := HJ6.out; have := HK2.out; first | omega | exact Nat.le_refl _⟩, ⟨by (with_reducible repeat (first | apply Kd.R_alloc | apply Kd.R_drewN | apply Kd.R_drew)); exact HO_11.out⟩, ⟨by (with_reducible repeat (first | apply Kd.R_alloc | apply Kd.R_drewN | apply Kd.R_drew)); exact HO_12.out⟩, ⟨by repeat (first | (with_reducible first | exact HB.out | apply below_alloc | apply pw_below_drewN | apply below_drew1) | exact HB.out)⟩⟩
                      · rw [if_neg c26] at H
                        have c26b0 : decide (a1 ≤ (rd t287 x13_2)) = false := decide_eq_false c26
                        clear c26
                        (first | rw [c26b0] | (simp only [i64_w, i32_w]; rw [c26b0]) | skip)
                        have H' := Aside0.mk H
                        clear H
                        have p295 : 0 ≤ (x13_2 : Int) := of_decide_eq_true (by first | (with_reducible assumption) | assumption)
                        have q295 : x13_2 < (t287.length : Int) := of_decide_eq_true (by first | (with_reducible assumption) | assumption)
                        obtain ⟨ad295, e295, hx295_0⟩ := Kd.at_int (Kd.R_reads' HO_11.out).2.2 x13_2 p295 q295
                        obtain rfl : ad293 = ad295 := (by injection e295)
                        replace p295 := eq_true p295
                        replace q295 := eq_true q295
                        go_wp2
                        go_meet
                        case rel => exact ⟨_, (false), (by first | rfl | (simp; done) | (simp [*]; done)), H', ⟨by have := HJ6.out; have := HK2.out; first | omega | exact Nat.le_refl _⟩, ⟨by (with_reducible repeat (first | apply Kd.R_alloc | apply Kd.R_drewN | apply Kd.R_drew)); exact HO_11.out⟩, ⟨by (with_reducible repeat (first | apply Kd.R_alloc | apply Kd.R_drewN | apply Kd.R_drew)); exact HO_12.out⟩, ⟨by repeat (first | (with_reducible first | exact HB.out | apply below_alloc | apply pw_below_drewN | apply below_drew1) | exact HB.out)⟩⟩
                    case rest =>
                      clear HC24
                      try clear c1
                      try clear c2
                      try clear p2
                      try clear q2
                      try clear hx2
                      try clear qi2
                      try clear c3
                      try clear c6
                      try clear c6b0
                      try clear c6b1
                      try clear p6
                      try clear c8
                      try clear c8b0
                      try clear c8b1
                      try clear c9
                      try clear c9b0
                      try clear c10
                      try clear c10b0
                      try clear c11
                      try clear c11b0
                      try clear c12
                      try clear c12b0
                      try clear c13
                      try clear c13b0
                      try clear c14
                      try clear c15
                      try clear c15b0
                      try clear c15b1
                      try clear c17
                      try clear c21
                      try clear c21b0
                      try clear c22
                      try clear c22b0
                      try clear c26
                      try clear c26b0
                      try clear hx282_0
                      try clear hx282_1
                      try clear hx286_0
                      try clear hx286_1
                      try clear hx293_0
                      try clear hx295_0
                      try clear hx296_0
                      try clear p2
                      try clear p282
                      try clear p286
                      try clear p293
                      try clear p295
                      try clear p296
                      try clear p6
                      try clear q2
                      try clear q282
                      try clear q286
                      try clear q293
                      try clear q295
                      try clear q296
                      obtain ⟨kq, x87_23, rfl, HA, HJ23, HO_11, HO_12, HB⟩ := hcut
                      cases kq with
                      | zero => exact absurd HA.out (by simp [gangerref05_Change.j2])
                      | succ kj23 =>
                        have H := HA.out
                        clear HA
                        simp only [gangerref05_Change.j2] at H
                        by_cases c27 : x87_23 = true
                        · subst c27
                          have H1 : (if (wrap64 (t294 + a3)) < 0 then (some (([] : List (S39)), 5)) else (if (wrap64 (t294 + a3)) > 1099511627776 then (some (([] : List (S39)), 5)) else (if x12_2.length < 17592186044416 then (gangerref05_Change.l0 kj23 l0 a1 a2 a3 t287 (x12_2 ++ [wrap64 (t294 + a3)]) (wrap64 (x13_2 + 1))) else (none)))) = some (r1, r2) := by rw [if_pos rfl] at H; exact H
                          clear H
                          have H := H1
                          clear H1
                          by_cases c28 : (wrap64 (t294 + a3)) < 0
                          · rw [if_pos c28] at H
                            have c28b0 : decide ((wrap64 (t294 + a3)) < 0) = true := decide_eq_true c28
                            clear c28
                            simp only [Option.some.injEq, Prod.mk.injEq] at H
                            obtain ⟨rfl, rfl⟩ := H
                            go_wp2
                            go_ret2
                            exact ⟨_, by first | rfl | (simp [errW_none, errW_some] <;> rfl) | (simp [*, errW_none, errW_some] <;> rfl), by first | exact Kd.R_nil _ _ _ _ _ | exact Kd.N_nil _ _ _ _ _ | exact Kd.V_nil _ _ _ _ _ | exact Kd.Q_nil _ _ _ _ _ | exact Kd.S_nil _ _ _ _ _, by repeat (first | (with_reducible first | exact HB.out | apply below_alloc | apply pw_below_drewN | apply below_drew1) | exact HB.out)⟩
                          · rw [if_neg c28] at H
                            have c28b0 : decide ((wrap64 (t294 + a3)) < 0) = false := decide_eq_false c28
                            clear c28
                            by_cases c29 : (wrap64 (t294 + a3)) > 1099511627776
                            · rw [if_pos c29] at H
                              have c29b0 : decide (1099511627776 < (wrap64 (t294 + a3))) = true := decide_eq_true c29
                              clear c29
                              simp only [Option.some.injEq, Prod.mk.injEq] at H
                              obtain ⟨rfl, rfl⟩ := H
                              go_wp2
                              go_ret2
                              exact ⟨_, by first | rfl | (simp [errW_none, errW_some] <;> rfl) | (simp [*, errW_none, errW_some] <;> rfl), by first | exact Kd.R_nil _ _ _ _ _ | exact Kd.N_nil _ _ _ _ _ | exact Kd.V_nil _ _ _ _ _ | exact Kd.Q_nil _ _ _ _ _ | exact Kd.S_nil _ _ _ _ _, by repeat (first | (with_reducible first | exact HB.out | apply below_alloc | apply pw_below_drewN | apply below_drew1) | exact HB.out)⟩
                            · rw [if_neg c29] at H
                              have c29b0 : decide (1099511627776 < (wrap64 (t294 + a3))) = false := decide_eq_false c29
                              clear c29
                              by_cases c30 : x12_2.length < 17592186044416
                              · rw [if_pos c30] at H
                                have LMc30 := Aside0.mk c30
                                clear c30
                                obtain ⟨y297, hy297⟩ : ∃ y_ : List Int, y_ = (x12_2 ++ [wrap64 (t294 + a3)]) := ⟨_, rfl⟩
                                replace H : (gangerref05_Change.l0 kj23 l0 a1 a2 a3 t287 y297 (wrap64 (x13_2 + 1))) = some (r1, r2) := by first | (rw [hy297]; with_reducible exact H) | (have H2_ := (Option.bind_some _ _).symm.trans H; rw [hy297]; with_reducible exact H2_) | (have H2_ := (Option.bind_some _ _).symm.trans H; with_reducible exact H2_) | with_reducible exact H | (rw [hy297]; exact H) | exact H
                                have Ny297 := Aside0.mk hy297
                                clear hy297
                                have H' := Aside0.mk H
                                clear H
                                go_wp2_with (first | ((with_reducible refine gate_builtin (b := .append) (xs := #[.tmp 97, .tmp 99]) rfl ?_); at_builtin; refine Kd.R_append (Kd.int .i64) (w0 := w) w.heap.size rfl (.tmp 97) (.tmp 99) 53 3 (.int .i64 0) 8 rfl Try.underlying53 info3 rfl (by decide) (by omega) u12 x12_2 (wrap64 (t294 + a3)) [.int .i64 (wrap64 (t294 + a3))] (fun k_ => some k_ ≠ (.slice (some ad293) t287.length co25 : Value).ownBlock) (fun _ => False) rfl rfl ?aP (fun _ hk => hk.elim) ?aF ?aO ?aB ?aS ?aL ?_; (case aP => exact rfl); (case aB => exact (by repeat (first | (with_reducible first | exact HB.out | apply below_alloc | apply pw_below_drewN | apply below_drew1) | exact HB.out))); (case aF => exact (fun k_ hk => Kd.fresh' (Kd.R_lt (by (with_reducible repeat (first | apply Kd.R_alloc | apply Kd.R_drewN | apply Kd.R_drew)); exact HO_11.out)) k_ hk)); (case aO => exact (by (with_reducible repeat (first | apply Kd.R_alloc | apply Kd.R_drewN | apply Kd.R_drew)); exact HO_12.out)); (case aS => exact (below_size (by repeat (first | (with_reducible first | exact HB.out | apply below_alloc | apply pw_below_drewN | apply below_drew1) | exact HB.out)))); (case aL => have := LMc30.out; omega); intro v298 w31 ho hb hg hat; rw [← Ny297.out] at ho; have n0_ := Aside0.mk (Kd.R_after (ok := (fun _ => True)) (by (with_reducible repeat (first | apply Kd.R_alloc | apply Kd.R_drewN | apply Kd.R_drew)); exact Kd.R_mono HO_11.out (fun _ hk => ⟨trivial, hk⟩)) hg hat); have n1_ := Aside0.mk (hb); have n2_ := Aside0.mk (ho); clear HO_11; clear HB; clear HO_12; have HO_11 := n0_; have HB := n1_; have HO299 := n2_; clear n0_ n1_ n2_; clear ho hb hg hat))
                                go_roundg kj23
                                case measure => have := HJ6.out; have := HK2.out; have := HJ23.out; omega
                                case rel => exact ⟨(y297), (wrap64 (x13_2 + 1)), (by first | rfl | (simp; done) | (simp [*]; done)), H', ⟨by have := HJ6.out; have := HK2.out; have := HJ23.out; omega⟩, ⟨by (with_reducible repeat (first | apply Kd.R_alloc | apply Kd.R_drewN | apply Kd.R_drew)); exact Kd.R_mono HO_11.out (fun _ hk => hk.2)⟩, ⟨by (with_reducible repeat (first | apply Kd.R_alloc | apply Kd.R_drewN | apply Kd.R_drew)); exact HO299.out⟩, ⟨by repeat (first | (with_reducible first | exact HB.out | apply below_alloc | apply pw_below_drewN | apply below_drew1) | exact HB.out)⟩⟩
                              · rw [if_neg c30] at H
                                exact absurd H (by simp)
                        · replace c27 := Bool.eq_false_iff.mpr c27
                          subst c27
                          have H1 : (if t294 < 0 then (some (([] : List (S39)), 5)) else (if t294 > 1099511627776 then (some (([] : List (S39)), 5)) else (if x12_2.length < 17592186044416 then (gangerref05_Change.l0 kj23 l0 a1 a2 a3 t287 (x12_2 ++ [t294]) (wrap64 (x13_2 + 1))) else (none)))) = some (r1, r2) := by rw [if_neg (show ¬ (false = true) by decide)] at H; exact H
                          clear H
                          have H := H1
                          clear H1
                          by_cases c32 : t294 < 0
                          · rw [if_pos c32] at H
                            have c32b0 : decide (t294 < 0) = true := decide_eq_true c32
                            clear c32
                            simp only [Option.some.injEq, Prod.mk.injEq] at H
                            obtain ⟨rfl, rfl⟩ := H
                            go_wp2
                            go_ret2
                            exact ⟨_, by first | rfl | (simp [errW_none, errW_some] <;> rfl) | (simp [*, errW_none, errW_some] <;> rfl), by first | exact Kd.R_nil _ _ _ _ _ | exact Kd.N_nil _ _ _ _ _ | exact Kd.V_nil _ _ _ _ _ | exact Kd.Q_nil _ _ _ _ _ | exact Kd.S_nil _ _ _ _ _, by repeat (first | (with_reducible first | exact HB.out | apply below_alloc | apply pw_below_drewN | apply below_drew1) | exact HB.out)⟩
                          · rw [if_neg c32] at H
                            have c32b0 : decide (t294 < 0) = false := decide_eq_false c32
                            clear c32
                            by_cases c33 : t294 > 1099511627776
                            · rw [if_pos c33] at H
                              have c33b0 : decide (1099511627776 < t294) = true := decide_eq_true c33
                              clear c33
                              simp only [Option.some.injEq, Prod.mk.injEq] at H
                              obtain ⟨rfl, rfl⟩ := H
                              go_wp2
                              go_ret2
                              exact ⟨_, by first | rfl | (simp [errW_none, errW_some] <;> rfl) | (simp [*, errW_none, errW_some] <;> rfl), by first | exact Kd.R_nil _ _ _ _ _ | exact Kd.N_nil _ _ _ _ _ | exact Kd.V_nil _ _ _ _ _ | exact Kd.Q_nil _ _ _ _ _ | exact Kd.S_nil _ _ _ _ _, by repeat (first | (with_reducible first | exact HB.out | apply below_alloc | apply pw_below_drewN | apply below_drew1) | exact HB.out)⟩
                            · rw [if_neg c33] at H
                              have c33b0 : decide (1099511627776 < t294) = false := decide_eq_false c33
                              clear c33
                              by_cases c34 : x12_2.length < 17592186044416
                              · rw [if_pos c34] at H
                                have LMc34 := Aside0.mk c34
                                clear c34
                                obtain ⟨y300, hy300⟩ : ∃ y_ : List Int, y_ = (x12_2 ++ [t294]) := ⟨_, rfl⟩
                                replace H : (gangerref05_Change.l0 kj23 l0 a1 a2 a3 t287 y300 (wrap64 (x13_2 + 1))) = some (r1, r2) := by first | (rw [hy300]; with_reducible exact H) | (have H2_ := (Option.bind_some _ _).symm.trans H; rw [hy300]; with_reducible exact H2_) | (have H2_ := (Option.bind_some _ _).symm.trans H; with_reducible exact H2_) | with_reducible exact H | (rw [hy300]; exact H) | exact H
                                have Ny300 := Aside0.mk hy300
                                clear hy300
                                have H' := Aside0.mk H
                                clear H
                                go_wp2_with (first | ((with_reducible refine gate_builtin (b := .append) (xs := #[.tmp 97, .tmp 99]) rfl ?_); at_builtin; refine Kd.R_append (Kd.int .i64) (w0 := w) w.heap.size rfl (.tmp 97) (.tmp 99) 53 3 (.int .i64 0) 8 rfl Try.underlying53 info3 rfl (by decide) (by omega) u12 x12_2 t294 [.int .i64 t294] (fun k_ => some k_ ≠ (.slice (some ad293) t287.length co25 : Value).ownBlock) (fun _ => False) rfl rfl ?aP (fun _ hk => hk.elim) ?aF ?aO ?aB ?aS ?aL ?_; (case aP => exact rfl); (case aB => exact (by repeat (first | (with_reducible first | exact HB.out | apply below_alloc | apply pw_below_drewN | apply below_drew1) | exact HB.out))); (case aF => exact (fun k_ hk => Kd.fresh' (Kd.R_lt (by (with_reducible repeat (first | apply Kd.R_alloc | apply Kd.R_drewN | apply Kd.R_drew)); exact HO_11.out)) k_ hk)); (case aO => exact (by (with_reducible repeat (first | apply Kd.R_alloc | apply Kd.R_drewN | apply Kd.R_drew)); exact HO_12.out)); (case aS => exact (below_size (by repeat (first | (with_reducible first | exact HB.out | apply below_alloc | apply pw_below_drewN | apply below_drew1) | exact HB.out)))); (case aL => have := LMc34.out; omega); intro v301 w35 ho hb hg hat; rw [← Ny300.out] at ho; have n0_ := Aside0.mk (Kd.R_after (ok := (fun _ => True)) (by (with_reducible repeat (first | apply Kd.R_alloc | apply Kd.R_drewN | apply Kd.R_drew)); exact Kd.R_mono HO_11.out (fun _ hk => ⟨trivial, hk⟩)) hg hat); have n1_ := Aside0.mk (hb); have n2_ := Aside0.mk (ho); clear HO_11; clear HB; clear HO_12; have HO_11 := n0_; have HB := n1_; have HO302 := n2_; clear n0_ n1_ n2_; clear ho hb hg hat))
                                go_roundg kj23
                                case measure => have := HJ6.out; have := HK2.out; have := HJ23.out; omega
                                case rel => exact ⟨(y300), (wrap64 (x13_2 + 1)), (by first | rfl | (simp; done) | (simp [*]; done)), H', ⟨by have := HJ6.out; have := HK2.out; have := HJ23.out; omega⟩, ⟨by (with_reducible repeat (first | apply Kd.R_alloc | apply Kd.R_drewN | apply Kd.R_drew)); exact Kd.R_mono HO_11.out (fun _ hk => hk.2)⟩, ⟨by (with_reducible repeat (first | apply Kd.R_alloc | apply Kd.R_drewN | apply Kd.R_drew)); exact HO302.out⟩, ⟨by repeat (first | (with_reducible first | exact HB.out | apply below_alloc | apply pw_below_drewN | apply below_drew1) | exact HB.out)⟩⟩
                              · rw [if_neg c34] at H
                                exact absurd H (by simp)
                  · rw [if_neg c22] at H
                    exact absurd H (by simp)
                · rw [if_neg c21] at H
                  have c21b0 : decide (x13_2 < (t287.length : Int)) = false := decide_eq_false c21
                  clear c21
                  replace H := Option.bind_eq_some_iff.mp H
                  obtain ⟨t290, A360, H⟩ := H
                  replace H : (some (t290, 0)) = some (r1, r2) := H
                  have A36 := Aside0.mk A360
                  clear A360
                  simp only [Option.some.injEq, Prod.mk.injEq] at H
                  obtain ⟨rfl, rfl⟩ := H
                  obtain ⟨Ao37, co37, eo37⟩ := Kd.R_slice HO_11.out
                  subst eo37
                  obtain ⟨Ao38, co38, eo38⟩ := Kd.R_slice HO_12.out
                  subst eo38
                  go_wp2_with (first | ((with_reducible refine gate_callee (f := 37) rfl ?_); refine goesL_ (some 103) rfl rfl Try.func37 (by kernel_rfl) rfl #[.slice Ao37 t287.length co37, .slice Ao38 x12_2.length co38] rfl (by (try simp only [List.map_toArray, List.map_cons, List.map_nil]); first | done | rfl | (simp only [List.length_drop, List.length_take]; rfl)) ?_; (with_reducible refine (gangerref05_of.calls k2 _ _ t287 _ _ x12_2 t290 _ ?side1 ?side2 ?side3 ?side4 A36.out).mono ?_); (case side1 => repeat (first | exact (Kd.R_reads' HO_11.out).2.2 | (with_reducible refine Kd.C_alloc ?_ _) | (with_reducible refine Kd.C_drewN ?_ _) | (with_reducible refine Kd.C_drew ?_))); (case side2 => exact (Kd.R_reads' HO_11.out).2.1); (case side3 => repeat (first | exact (Kd.R_reads' HO_12.out).2.2 | (with_reducible refine Kd.C_alloc ?_ _) | (with_reducible refine Kd.C_drewN ?_ _) | (with_reducible refine Kd.C_drew ?_))); (case side4 => exact (Kd.R_reads' HO_12.out).2.1); rintro e w39 ⟨v291, rfl, ho0, hb⟩; refine ⟨_, rfl, ?_⟩; have n0_ := Aside0.mk (Kd.R_below (by (with_reducible repeat (first | apply Kd.R_alloc | apply Kd.R_drewN | apply Kd.R_drew)); exact HO_11.out) hb); have n1_ := Aside0.mk (Kd.R_below (by (with_reducible repeat (first | apply Kd.R_alloc | apply Kd.R_drewN | apply Kd.R_drew)); exact HO_12.out) hb); have n2_ := Aside0.mk (Kd.R_lower ho0 (below_size (by repeat (first | (with_reducible first | exact HB.out | apply below_alloc | apply pw_below_drewN | apply below_drew1) | exact HB.out)))); have n3_ := Aside0.mk (below_step (by repeat (first | (with_reducible first | exact HB.out | apply below_alloc | apply pw_below_drewN | apply below_drew1) | exact HB.out)) hb); clear HO_11; clear HO_12; clear HB; have HO_11 := n0_; have HO_12 := n1_; have HO292 := n2_; have HB := n3_; clear n0_ n1_ n2_ n3_; (try clear hb); (try clear hb2); (try clear hk); (try clear hi); (try clear ho0)))
                  go_ret2
                  exact ⟨_, by first | rfl | (simp [errW_none, errW_some] <;> rfl) | (simp [*, errW_none, errW_some] <;> rfl), by (with_reducible repeat (first | apply Kd.R_alloc | apply Kd.R_drewN | apply Kd.R_drew)); exact HO292.out, by repeat (first | (with_reducible first | exact HB.out | apply below_alloc | apply pw_below_drewN | apply below_drew1) | exact HB.out)⟩
          · rw [if_neg c15] at H
            exact absurd H (by simp)
  · rw [if_neg c6] at H
    have c6b0 : (t281 == 0) = false := beq_eq_false_iff_ne.mpr c6
    have c6b1 : (t281 != 0) = true := bne_iff_ne.mpr c6
    simp only [Option.some.injEq, Prod.mk.injEq] at H
    obtain ⟨rfl, rfl⟩ := H
    go_enter Try.func17, Try.ntmps17
    go_wp2_with (first | ((with_reducible refine gate_callee (f := 27) rfl ?_); refine goesL_ (some 16) rfl rfl Try.func27 (by kernel_rfl) rfl #[.slice A0 l0.length c0] rfl (by (try simp only [List.map_toArray, List.map_cons, List.map_nil]); first | done | rfl | (simp only [List.length_drop, List.length_take]; rfl)) ?_; (with_reducible refine (gangerref05_Check.calls k _ _ l0 t281 _ ?side1 ?side2 A5.out).mono ?_); (case side1 => repeat (first | exact HR0.out | (with_reducible refine Kd.C_alloc ?_ _) | (with_reducible refine Kd.C_drewN ?_ _) | (with_reducible refine Kd.C_drew ?_))); (case side2 => exact HC0.out); rintro e w' ⟨rfl, ⟨nd, rfl⟩⟩; refine ⟨_, rfl, ?_⟩))
    go_ret2
    exact ⟨_, by first | rfl | (simp [errW_none, errW_some] <;> rfl) | (simp [*, errW_none, errW_some] <;> rfl), by first | exact Kd.R_nil _ _ _ _ _ | exact Kd.N_nil _ _ _ _ _ | exact Kd.V_nil _ _ _ _ _ | exact Kd.Q_nil _ _ _ _ _ | exact Kd.S_nil _ _ _ _ _, by repeat (first | (with_reducible first | exact HB.out | apply below_alloc | apply pw_below_drewN | apply below_drew1) | exact HB.out)⟩

/-! ### gangerlaw05_spoilt: function 19 -/
def gangerlaw05_spoilt.l0 : Nat → List (S39) → Int → Option ((List (S39)))
  | 0, _, _ => none
  | k + 1, x0, x2 => if x2 < (x0.length : Int) then (if 0 ≤ x2 then ((some (x0.set (x2 : Int).toNat (⟨(-7), (rd_T39 x0 x2).f1⟩ : S39) : List (S39))).bind fun y303 => (gangerlaw05_spoilt.l0 k (y303.set (x2 : Int).toNat (⟨(rd_T39 y303 x2).f0, (-7)⟩ : S39)) (wrap64 (x2 + 1)))) else (none)) else (some x0)
def gangerlaw05_spoilt.f (k : Nat) (l0 : List (S39)) : Option ((List (S39))) := gangerlaw05_spoilt.l0 k l0 0
theorem gangerlaw05_spoilt.mono_l : ∀ k, (∀ y0 y1, LeO (gangerlaw05_spoilt.l0 k y0 y1) (gangerlaw05_spoilt.l0 (k + 1) y0 y1))
  | 0 => fun _ _ r h => by simp [gangerlaw05_spoilt.l0] at h
  | k + 1 => by
    have ih0 := gangerlaw05_spoilt.mono_l k
    · intro y0 y1
      unfold gangerlaw05_spoilt.l0
      repeat' first
      | (with_reducible exact ih0 _ _)
      | (with_reducible exact LeO.refl _)
      | (with_reducible exact LeO.none _)
      | (with_reducible refine LeO.ite ?_ ?_)
      | (with_reducible refine LeO.bind ?_ (fun _ => ?_))
      | exact ih0 _ _
      | exact LeO.none _
      | refine LeO.ite ?_ ?_
      | refine LeO.bind ?_ (fun _ => ?_)
theorem gangerlaw05_spoilt.mono : ∀ a0 k, LeO (gangerlaw05_spoilt.f k a0) (gangerlaw05_spoilt.f (k + 1) a0) := by
  intro a0 k
  have ih0 := gangerlaw05_spoilt.mono_l k
  unfold gangerlaw05_spoilt.f
  repeat' first
      | (with_reducible exact ih0 _ _)
      | (with_reducible exact LeO.refl _)
      | (with_reducible exact LeO.none _)
      | (with_reducible refine LeO.ite ?_ ?_)
      | (with_reducible refine LeO.bind ?_ (fun _ => ?_))
      | exact ih0 _ _
      | exact LeO.none _
      | refine LeO.ite ?_ ?_
      | refine LeO.bind ?_ (fun _ => ?_)
set_option maxHeartbeats 8000000 in
set_option maxRecDepth 100000 in
theorem gangerlaw05_spoilt.calls (k : Nat) (P0_ : Nat → Prop) (u9000_ : Value) (l0 : List (S39)) (r : List (S39)) (w0 w : World) (hB : Below w0.heap.size w0 w) (ho0 : Kd.R k39 39 w w0.heap.size P0_ u9000_ l0) (h : gangerlaw05_spoilt.f k l0 = some r) :
    Calls Try.prog 19 #[u9000_] w fun e w' => e = .returned (.tuple #[]) ∧ Kd.R k39 39 w' w0.heap.size (fun k_ => (P0_ k_ ∨ w.heap.size ≤ k_)) u9000_ r ∧ Below w0.heap.size w0 w' ∧ Kept w w' (fun k_ => P0_ k_) := by
  have HO0 := Aside0.mk (show Kd.R k39 39 w w0.heap.size (fun k_ => (P0_ k_ ∨ w.heap.size ≤ k_)) u9000_ l0 from Kd.R_mono ho0 (fun k_ hk => (.inl hk)))
  have HK := Aside0.mk (Kept.refl w (fun k_ => P0_ k_))
  have HW0 := Aside0.mk hB.size
  have HB := Aside0.mk hB
  clear hB
  have H : (gangerlaw05_spoilt.l0 k l0 0) = some r := h
  clear h
  have H' := Aside0.mk H
  clear H
  go_enter Try.func19, Try.ntmps19
  go_wp2
  go_loopg [2] k (fun kq v2 w' => ∃ (x0_1 : List (S39)) (x2_1 : Int), v2 = .int .i64 x2_1 ∧ Aside0 (gangerlaw05_spoilt.l0 kq x0_1 x2_1 = some r) ∧ Aside0 (kq ≤ k) ∧ Aside0 (Kd.R k39 39 w' w0.heap.size (fun k_ => (P0_ k_ ∨ w.heap.size ≤ k_)) u9000_ x0_1) ∧ Aside0 (Kept w w' (fun k_ => P0_ k_)) ∧ Aside0 (Below w0.heap.size w0 w'))
  case atStart => exact ⟨(l0), (0), (by first | rfl | (simp; done) | (simp [*]; done)), H', ⟨Nat.le_refl _⟩, ⟨by (with_reducible repeat (first | apply Kd.R_alloc | apply Kd.R_drewN | apply Kd.R_drew)); exact HO0.out⟩, ⟨by repeat (first | (with_reducible first | exact HK.out | apply Kept.alloc | apply Kept.drewN | apply Kept.drew) | exact HK.out)⟩, ⟨by repeat (first | (with_reducible first | exact HB.out | apply below_alloc | apply pw_below_drewN | apply below_drew1) | exact HB.out)⟩⟩
  case round =>
    clear H'
    try clear c1
    obtain ⟨x0_1, x2_1, rfl, HA, HK1, HO_0, HK, HB⟩ := hrel
    cases gk with
    | zero => exact absurd HA.out (by simp [gangerlaw05_spoilt.l0])
    | succ k1 =>
      have H := HA.out
      clear HA
      simp only [gangerlaw05_spoilt.l0] at H
      by_cases c2 : x2_1 < (x0_1.length : Int)
      · rw [if_pos c2] at H
        have c2b0 : decide (x2_1 < (x0_1.length : Int)) = true := decide_eq_true c2
        clear c2
        by_cases c3 : 0 ≤ x2_1
        · rw [if_pos c3] at H
          have c3b0 : decide (0 ≤ x2_1) = true := decide_eq_true c3
          clear c3
          obtain ⟨y303, hy303⟩ : ∃ y_ : List (S39), y_ = (x0_1.set (x2_1 : Int).toNat (⟨(-7), (rd_T39 x0_1 x2_1).f1⟩ : S39)) := ⟨_, rfl⟩
          replace H : (gangerlaw05_spoilt.l0 k1 (y303.set (x2_1 : Int).toNat (⟨(rd_T39 y303 x2_1).f0, (-7)⟩ : S39)) (wrap64 (x2_1 + 1))) = some r := by first | (rw [hy303]; with_reducible exact H) | (have H2_ := (Option.bind_some _ _).symm.trans H; rw [hy303]; with_reducible exact H2_) | (have H2_ := (Option.bind_some _ _).symm.trans H; with_reducible exact H2_) | with_reducible exact H | (rw [hy303]; exact H) | exact H
          have Ny303 := Aside0.mk hy303
          clear hy303
          obtain ⟨y304, hy304⟩ : ∃ y_ : List (S39), y_ = (y303.set (x2_1 : Int).toNat (⟨(rd_T39 y303 x2_1).f0, (-7)⟩ : S39)) := ⟨_, rfl⟩
          replace H : (gangerlaw05_spoilt.l0 k1 y304 (wrap64 (x2_1 + 1))) = some r := by first | (rw [hy304]; with_reducible exact H) | (have H2_ := (Option.bind_some _ _).symm.trans H; rw [hy304]; with_reducible exact H2_) | (have H2_ := (Option.bind_some _ _).symm.trans H; with_reducible exact H2_) | with_reducible exact H | (rw [hy304]; exact H) | exact H
          have Ny304 := Aside0.mk hy304
          clear hy304
          have H' := Aside0.mk H
          clear H
          obtain ⟨Ao6, co6, eo6⟩ := Kd.R_slice HO_0.out
          subst eo6
          have p4 : 0 ≤ (x2_1 : Int) := of_decide_eq_true (by first | (with_reducible assumption) | assumption)
          have q4 : (x2_1 : Int) < ((x0_1.length : Int) : Int) := of_decide_eq_true (by first | (with_reducible assumption) | assumption)
          obtain ⟨go4, co4, eo4, gb4, gl4, cl4, HG4⟩ := Kd.R_form HO_0.out (by omega)
          (first | cases eo4 | (injection eo4 with ea_ en_ ec_; (first | subst ea_ | (injection ea_ with ea_; subst ea_)); subst ec_; clear en_))
          have GB4 := Aside0.mk gb4
          have GG4 := Aside0.mk HG4
          clear gb4 gl4 HG4
          have HMgo4 := Aside0.mk (show (P0_ go4 ∨ w.heap.size ≤ go4) from (HO_0.out.1 _ rfl))
          obtain ⟨ce4, hcl4, hM4, hcc4, hfr4⟩ := Kd.R_elem HO_0.out z39 (x2_1 : Int) p4 q4
          obtain rfl := k39_openM hM4
          have hx4_0 : wr.cell? ⟨go4, (x2_1 : Int).toNat * 2, none⟩ = some (.int .i64 ((rd_T39 x0_1 x2_1).f0)) := hcc4 0 _ rfl
          have hx4_1 : wr.cell? ⟨go4, (x2_1 : Int).toNat * 2 + 1, none⟩ = some (.int .i64 ((rd_T39 x0_1 x2_1).f1)) := hcc4 1 _ rfl
          have hf4_0 : wr.frozen? ⟨go4, (x2_1 : Int).toNat * 2, none⟩ = false := hfr4 0
          have hf4_1 : wr.frozen? ⟨go4, (x2_1 : Int).toNat * 2 + 1, none⟩ = false := hfr4 1
          clear hcl4 hcc4 hfr4 hM4
          replace p4 := eq_true p4
          replace q4 := eq_true q4
          have HX7 := Aside0.mk (show Kd.R k39 39 wr w0.heap.size (fun k_ => (P0_ k_ ∨ w.heap.size ≤ k_)) (.slice (some ⟨go4, 0, none⟩) x0_1.length co6) x0_1 from (by (with_reducible repeat (first | apply Kd.R_alloc | apply Kd.R_drewN | apply Kd.R_drew)); exact HO_0.out))
          obtain ⟨ce7, hcl7, hM7, hcc7, hfr7⟩ := Kd.R_elem HX7.out z39 (x2_1 : Int) (of_decide_eq_true (by first | (with_reducible assumption) | assumption)) (by have h_ : (x2_1 : Int) < ((x0_1.length : Int) : Int) := of_decide_eq_true (by first | (with_reducible assumption) | assumption); first | exact h_ | (have e_ := (Kd.R_reads' HO_0.out).1; omega) | simpa using h_)
          obtain rfl := k39_openM hM7
          have HP7 := Kd.R_seg HX7.out (x2_1 : Int) (of_decide_eq_true (by first | (with_reducible assumption) | assumption)) (by have h_ : (x2_1 : Int) < ((x0_1.length : Int) : Int) := of_decide_eq_true (by first | (with_reducible assumption) | assumption); first | exact h_ | (have e_ := (Kd.R_reads' HO_0.out).1; omega) | simpa using h_) (seg := [.int .i64 (-7)]) (j := 0) hcl7 hcc7 (show 1 ≤ 2 from by decide) (x' := (⟨(-7), (rd_T39 x0_1 x2_1).f1⟩ : S39)) (k39_mkM _ _ _ (⟨(-7), (rd_T39 x0_1 x2_1).f1⟩ : S39) ) (fun _ hk => hk)
          have hx7_0 := hcc7 0 _ rfl
          (try simp only [show (k39).sz = 2 from rfl, Nat.mul_one, Nat.add_zero] at hx7_0)
          have hf7_0 := hfr7 0
          (try simp only [show (k39).sz = 2 from rfl, Nat.mul_one, Nat.add_zero] at hf7_0)
          clear hcl7 hcc7 hfr7 hM7
          go_wp2_with (first | ((with_reducible refine gate_store (t := 3) (p := 12) rfl ?_); refine store_event (t := 3) (p := 12) (v := ?vo_w8) (w1 := (wr.setCell ⟨go4, (x2_1 : Int).toNat * 2, none⟩ (.int .i64 (-7)))) ?hg ?ho ?hn ?hr ?_; (case ho => rfl); (case hg => rfl); (case hn => rfl); (case hr => first | (go_simp; done) | (go_simp; rfl)); intro w8 hw; have hg : wr.grownBy w8 (some go4) := (by rw [hw]; exact HP7.2); have hp_ : Kd.R k39 39 w8 w0.heap.size (fun k_ => (P0_ k_ ∨ w.heap.size ≤ k_)) (.slice (some ⟨go4, 0, none⟩) x0_1.length co6) y303 := (by rw [hw, Ny303.out]; exact HP7.1); clear HP7; have n0_ := Aside0.mk (hp_); have n1_ := Aside0.mk ((by rw [hw]; exact below_set (HB.out) GB4.out : Below w0.heap.size w0 w8)); have n2_ := Aside0.mk (Kept.of_grown (S := (fun k_ => P0_ k_)) hg (by repeat (first | (with_reducible first | exact HK.out | apply Kept.alloc | apply Kept.drewN | apply Kept.drew) | exact HK.out)) (fun k_ e_ => (HO_0.out.1 k_ e_))); clear HO_0; clear HB; clear HK; have HO_0 := n0_; have HB := n1_; have HK := n2_; clear n0_ n1_ n2_; clear hg hw hp_; have p5 : 0 ≤ (x2_1 : Int) := of_decide_eq_true (by first | (with_reducible assumption) | assumption); have q5 : (x2_1 : Int) < ((x0_1.length : Int) : Int) := of_decide_eq_true (by first | (with_reducible assumption) | assumption); obtain ⟨ce5, hcl5, hM5, hcc5, hfr5⟩ := Kd.R_elem HO_0.out z39 (x2_1 : Int) p5 q5; obtain rfl := k39_openM hM5; have hx5_0 : w8.cell? ⟨go4, (x2_1 : Int).toNat * 2, none⟩ = some (.int .i64 ((rd_T39 y303 x2_1).f0)) := hcc5 0 _ rfl; have hx5_1 : w8.cell? ⟨go4, (x2_1 : Int).toNat * 2 + 1, none⟩ = some (.int .i64 ((rd_T39 y303 x2_1).f1)) := hcc5 1 _ rfl; have hf5_0 : w8.frozen? ⟨go4, (x2_1 : Int).toNat * 2, none⟩ = false := hfr5 0; have hf5_1 : w8.frozen? ⟨go4, (x2_1 : Int).toNat * 2 + 1, none⟩ = false := hfr5 1; clear hcl5 hcc5 hfr5 hM5; replace p5 := eq_true p5; replace q5 := eq_true q5; have HX9 := Aside0.mk (show Kd.R k39 39 w8 w0.heap.size (fun k_ => (P0_ k_ ∨ w.heap.size ≤ k_)) (.slice (some ⟨go4, 0, none⟩) x0_1.length co6) y303 from (by (with_reducible repeat (first | apply Kd.R_alloc | apply Kd.R_drewN | apply Kd.R_drew)); exact HO_0.out)); obtain ⟨ce9, hcl9, hM9, hcc9, hfr9⟩ := Kd.R_elem HX9.out z39 (x2_1 : Int) (of_decide_eq_true (by first | (with_reducible assumption) | assumption)) (by have h_ : (x2_1 : Int) < ((x0_1.length : Int) : Int) := of_decide_eq_true (by first | (with_reducible assumption) | assumption); first | exact h_ | (have e_ := (Kd.R_reads' HO_0.out).1; omega) | simpa using h_); obtain rfl := k39_openM hM9; have HP9 := Kd.R_seg HX9.out (x2_1 : Int) (of_decide_eq_true (by first | (with_reducible assumption) | assumption)) (by have h_ : (x2_1 : Int) < ((x0_1.length : Int) : Int) := of_decide_eq_true (by first | (with_reducible assumption) | assumption); first | exact h_ | (have e_ := (Kd.R_reads' HO_0.out).1; omega) | simpa using h_) (seg := [.int .i64 (-7)]) (j := 1) hcl9 hcc9 (show 2 ≤ 2 from by decide) (x' := (⟨(rd_T39 y303 x2_1).f0, (-7)⟩ : S39)) (k39_mkM _ _ _ (⟨(rd_T39 y303 x2_1).f0, (-7)⟩ : S39) ) (fun _ hk => hk); have hx9_1 := hcc9 1 _ rfl; (try simp only [show (k39).sz = 2 from rfl, Nat.mul_one, Nat.add_zero] at hx9_1); have hf9_1 := hfr9 1; (try simp only [show (k39).sz = 2 from rfl, Nat.mul_one, Nat.add_zero] at hf9_1); clear hcl9 hcc9 hfr9 hM9) | ((with_reducible refine gate_store (t := 3) (p := 16) rfl ?_); refine store_event (t := 3) (p := 16) (v := ?vo_w10) (w1 := (w8.setCell ⟨go4, (x2_1 : Int).toNat * 2 + 1, none⟩ (.int .i64 (-7)))) ?hg ?ho ?hn ?hr ?_; (case ho => rfl); (case hg => rfl); (case hn => rfl); (case hr => first | (go_simp; done) | (go_simp; rfl)); intro w10 hw; have hg : w8.grownBy w10 (some go4) := (by rw [hw]; exact HP9.2); have hp_ : Kd.R k39 39 w10 w0.heap.size (fun k_ => (P0_ k_ ∨ w.heap.size ≤ k_)) (.slice (some ⟨go4, 0, none⟩) x0_1.length co6) y304 := (by rw [hw, Ny304.out]; exact HP9.1); clear HP9; have n0_ := Aside0.mk (hp_); have n1_ := Aside0.mk ((by rw [hw]; exact below_set (HB.out) GB4.out : Below w0.heap.size w0 w10)); have n2_ := Aside0.mk (Kept.of_grown (S := (fun k_ => P0_ k_)) hg (by repeat (first | (with_reducible first | exact HK.out | apply Kept.alloc | apply Kept.drewN | apply Kept.drew) | exact HK.out)) (fun k_ e_ => (HO_0.out.1 k_ e_))); clear HO_0; clear HB; clear HK; have HO_0 := n0_; have HB := n1_; have HK := n2_; clear n0_ n1_ n2_; clear hg hw hp_))
          go_roundg k1
          case measure => have := HK1.out; omega
          case rel => exact ⟨(y304), (wrap64 (x2_1 + 1)), (by first | rfl | (simp; done) | (simp [*]; done)), H', ⟨by have := HK1.out; omega⟩, ⟨by (with_reducible repeat (first | apply Kd.R_alloc | apply Kd.R_drewN | apply Kd.R_drew)); exact HO_0.out⟩, ⟨by repeat (first | (with_reducible first | exact HK.out | apply Kept.alloc | apply Kept.drewN | apply Kept.drew) | exact HK.out)⟩, ⟨by repeat (first | (with_reducible first | exact HB.out | apply below_alloc | apply pw_below_drewN | apply below_drew1) | exact HB.out)⟩⟩
        · rw [if_neg c3] at H
          exact absurd H (by simp)
      · rw [if_neg c2] at H
        have c2b0 : decide (x2_1 < (x0_1.length : Int)) = false := decide_eq_false c2
        clear c2
        obtain rfl := Option.some.inj H
        obtain ⟨Ao11, co11, eo11⟩ := Kd.R_slice HO_0.out
        subst eo11
        go_wp2
        first | go_end0 | ((try simp only [Exit.inBlock, Exit.then]); refine bodyPost_ret (results_none rfl _ _ _) rfl ?_)
        exact ⟨by first | rfl | (simp [errW_none, errW_some] <;> rfl) | (simp [*, errW_none, errW_some] <;> rfl), by (with_reducible repeat (first | apply Kd.R_alloc | apply Kd.R_drewN | apply Kd.R_drew)); exact HO_0.out, by repeat (first | (with_reducible first | exact HB.out | apply below_alloc | apply pw_below_drewN | apply below_drew1) | exact HB.out), by repeat (first | (with_reducible first | exact HK.out | apply Kept.alloc | apply Kept.drewN | apply Kept.drew) | exact HK.out)⟩

end Go.Proofs.Ytfcmpnajokjaaaa.P
