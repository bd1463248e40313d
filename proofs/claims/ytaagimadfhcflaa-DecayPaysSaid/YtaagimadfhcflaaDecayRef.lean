/- The decay layer's reference, as printed: what counts after some ticks, until when, a charge: the same closed forms. Conditions: the numbers' ranges. -/
import Derived.Test.YtaagimadfhcflaaDecayCore
import Derived.Test.YtaagimadfhcflaaP0
import Derived.Test.YtaagimadfhcflaaP6
namespace Go.Proofs.Ytaagimadfhcflaa.NumM
open Go.RowKit Go.Proofs.YtaagimadfhcflaaW.PrintWords Go.Proofs.YtaagimadfhcflaaW.PrintLast Go.Proofs.YtaagimadfhcflaaW.PrintMore Go.Proofs.Ytaagimadfhcflaa.P
set_option linter.unusedVariables false
theorem refafter_l (s whole : Int) (hs : 0 ≤ s ∧ s ≤ 65536) (hw : 0 ≤ whole ∧ whole ≤ 1099511627776) (f : Nat) : ∀ (n i : Int), 0 ≤ n → n < 2 ^ f → n ≤ 9223372036854775807 → 0 ≤ i → i ≤ whole →
    Ev (fun k => gangerref02_After.l0 k n whole s i) (n / 2 ^ (whole - i).toNat * s / 65536, 0) := by
  have fin : ∀ N : Int, 0 ≤ N → N ≤ 9223372036854775807 → Ev (fun k => (gangerref01_MulDiv.f k N s 65536).bind fun b => some (b.1, b.2)) (N * s / 65536, 0) := by
    intro N h0 h1
    have hm := refmuldiv_ev N s 65536 (by unfold fits; omega) (by unfold fits; omega) (by unfold fits; omega)
    have h2 : 0 ≤ N * s := Int.mul_nonneg h0 hs.1
    have h3 : N * s ≤ N * 65536 := Int.mul_le_mul_of_nonneg_left hs.2 h0
    rw [if_neg (by omega), if_pos (by unfold fits; omega)] at hm
    exact Ev.bind hm (Ev.now _)
  induction f with
  | zero =>
    intro n i h0 h1 hn hi hiw
    obtain rfl : n = 0 := by simp at h1; omega
    refine Ev.step (fun k => by rw [gangerref02_After.l0]) ?_
    rw [Int.zero_ediv]
    by_cases c : i < whole
    · simp only [if_pos c, if_neg (show ¬ (0 : Int) > 0 by omega)]; exact fin 0 (by omega) (by omega)
    · simp only [if_neg c]; exact fin 0 (by omega) (by omega)
  | succ f ih =>
    intro n i h0 h1 hn hi hiw
    refine Ev.step (fun k => by rw [gangerref02_After.l0]) ?_
    by_cases c : i < whole
    · simp only [if_pos c]
      by_cases hz : n > 0
      · simp only [if_pos hz]
        rw [Int.tdiv_eq_ediv_of_nonneg h0, w64 (x := n / 2) (by omega), w64 (x := i + 1) (by omega)]
        have := ih (n / 2) (i + 1) (by omega) (by rw [Int.pow_succ] at h1; omega) (by omega) (by omega) (by omega)
        have e : n / 2 / 2 ^ (whole - (i + 1)).toNat = n / 2 ^ (whole - i).toNat := by
          rw [Int.ediv_ediv_of_nonneg (by omega), ← Int.pow_succ', show (whole - (i + 1)).toNat + 1 = (whole - i).toNat by omega]
        rw [e] at this
        exact this
      · simp only [if_neg hz]
        obtain rfl : n = 0 := by omega
        rw [Int.zero_ediv]; exact fin 0 (by omega) (by omega)
    · simp only [if_neg c]
      obtain rfl : i = whole := by omega
      rw [show (i - i).toNat = 0 by omega, Int.pow_zero, Int.ediv_one]
      exact fin n h0 hn
theorem after_cap {n whole : Int} (hn : 0 ≤ n ∧ n ≤ 9223372036854775807) (hw : 0 ≤ whole) : n / 2 ^ (mn whole 63).toNat = n / 2 ^ whole.toNat := by
  unfold mn
  by_cases c : 63 < whole
  · rw [if_pos c]
    have h1 : n / 2 ^ (63 : Int).toNat = 0 := Int.ediv_eq_zero_of_lt hn.1 (by show n < 2 ^ 63; omega)
    have h2 : n / 2 ^ whole.toNat = 0 := by
      refine Int.ediv_eq_zero_of_lt hn.1 ?_
      have : 2 ^ 63 ≤ 2 ^ whole.toNat := Nat.pow_le_pow_right (by omega) (show 63 ≤ whole.toNat by omega)
      have h3 : ((2 ^ 63 : Nat) : Int) ≤ ((2 ^ whole.toNat : Nat) : Int) := by exact_mod_cast this
      rw [pow_cast, pow_cast] at h3
      omega
    rw [h1, h2]
  · rw [if_neg c]
theorem refafter_ev (n t h : Int) (hn : fits n) (ht : fits t) (hh : fits h) : Ev (fun k => gangerref02_After.f k n t h) (if bad t h ∨ n < 0 then (0, 2) else (after n t h, 0)) := by
  unfold gangerref02_After.f
  have hno : ∀ a b, Ev (fun k => gangerref02_After.j0 k n a b true) (0, 2) := by
    intro a b
    refine Ev.step (fun k => by rw [gangerref02_After.j0]) ?_
    simp only [if_true]; exact Ev.now _
  refine Ev.bind (reffactor_ev t h hh) ?_
  by_cases hb : bad t h
  · simp only [if_pos hb, if_pos (show bad t h ∨ n < 0 from .inl hb)]
    exact hno _ _
  · simp only [if_neg hb, if_true]
    by_cases hz : n < 0
    · rw [decide_eq_true hz, if_pos (show bad t h ∨ n < 0 from .inr hz)]; exact hno _ _
    · rw [decide_eq_false hz, if_neg (show ¬ (bad t h ∨ n < 0) from fun c => c.elim hb hz)]
      refine Ev.step (fun k => by rw [gangerref02_After.j0]) ?_
      simp only [Bool.false_eq_true, if_false]
      have hs := tab_bd (step_bd hb)
      unfold bad at hb; unfold fits at hn
      have q0 := Int.ediv_nonneg (show 0 ≤ t by omega) (show 0 ≤ h by omega)
      have q1 := Int.ediv_le_self h (show 0 ≤ t by omega)
      have := refafter_l (tab (step t h)) (t / h) (by omega) (by omega) 63 n 0 (by omega) (by omega) (by omega) (by omega) (by omega)
      rw [Int.sub_zero, ← after_cap (by omega) q0] at this
      exact this
theorem refuntil_l (h : Int) (hh : 0 ≤ h ∧ h ≤ 4294967296) (f : Nat) (hf : f ≤ 63) : ∀ (n c : Int), 0 ≤ n → n < 2 ^ f → n ≤ 9223372036854775807 → 0 ≤ c → c ≤ (63 - f) * 4294967296 → Ev (fun k => gangerref02_Until.l0 k n h c) (c + Lib.bitLenAux f n.toNat * h, 0) := by
  induction f with
  | zero =>
    intro n c h0 h1 hn hc hcf
    obtain rfl : n = 0 := by simp at h1; omega
    refine Ev.step (fun k => by rw [gangerref02_Until.l0]) ?_
    simp only [if_neg (show ¬ (0 : Int) > 0 by omega), Lib.bitLenAux]
    rw [show c + ((0 : Nat) : Int) * h = c by rw [Int.natCast_zero, Int.zero_mul]; omega]; exact Ev.now _
  | succ f ih =>
    intro n c h0 h1 hn hc hcf
    refine Ev.step (fun k => by rw [gangerref02_Until.l0]) ?_
    rw [Lib.bitLenAux]
    by_cases hz : n > 0
    · simp only [if_pos hz, if_neg (show ¬ n.toNat = 0 by omega)]
      rw [Int.tdiv_eq_ediv_of_nonneg h0, w64 (x := n / 2) (by omega), w64 (x := c + h) (by omega)]
      have := ih (by omega) (n / 2) (c + h) (by omega) (by rw [Int.pow_succ] at h1; omega) (by omega) (by omega) (by omega)
      rw [show (n / 2).toNat = n.toNat / 2 by omega] at this
      rw [show c + ((1 + Lib.bitLenAux f (n.toNat / 2) : Nat) : Int) * h = c + h + (Lib.bitLenAux f (n.toNat / 2) : Nat) * h by rw [Int.natCast_add, Int.add_mul]; omega]
      exact this
    · simp only [if_neg hz, if_pos (show n.toNat = 0 by omega)]
      rw [show c + ((0 : Nat) : Int) * h = c by rw [Int.natCast_zero, Int.zero_mul]; omega]; exact Ev.now _
theorem refuntil_ev (n h : Int) (hn : n ≤ 9223372036854775807) : Ev (fun k => gangerref02_Until.f k n h) (if ubad n h then (0, 2) else (bl n * h, 0)) := by
  unfold gangerref02_Until.f
  have hno : Ev (fun k => gangerref02_Until.j0 k n h true) (0, 2) := by
    refine Ev.step (fun k => by rw [gangerref02_Until.j0]) ?_
    simp only [if_true]; exact Ev.now _
  by_cases h1 : n < 0
  · simp only [if_pos h1, if_pos (show ubad n h from .inl h1)]; exact hno
  · simp only [if_neg h1]
    by_cases h2 : h < 1
    · simp only [if_pos h2, if_pos (show ubad n h from .inr (.inl h2))]; exact hno
    · simp only [if_neg h2]
      by_cases h3 : h > 4294967296
      · rw [decide_eq_true h3, if_pos (show ubad n h from .inr (.inr h3))]; exact hno
      · have hu : ¬ ubad n h := by unfold ubad; omega
        rw [decide_eq_false h3, if_neg hu]
        refine Ev.step (fun k => by rw [gangerref02_Until.j0]) ?_
        simp only [Bool.false_eq_true, if_false]
        have := refuntil_l h (by omega) 63 (by omega) n 0 (by omega) (by omega) (by omega) (by omega) (by omega)
        rw [Int.zero_add] at this
        exact this
end Go.Proofs.Ytaagimadfhcflaa.NumM
