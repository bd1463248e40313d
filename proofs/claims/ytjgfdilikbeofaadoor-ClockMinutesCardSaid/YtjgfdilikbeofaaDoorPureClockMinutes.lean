import Derived.Test.YtjgfdilikbeofaaDoorClkPrint
import Derived.Test.YtjgfdilikbeofaaDoorP0
import Derived.Test.YtjgfdilikbeofaaDoorP3
import Derived.Test.YtjgfdilikbeofaaDoorP8
namespace Go.Proofs.YtjgfdilikbeofaaDoor.Pure
open Go.RowKit Go.Proofs.YtjgfdilikbeofaaDoorW.PrintWords Go.Proofs.YtjgfdilikbeofaaDoorW.PrintLast Go.Proofs.YtjgfdilikbeofaaDoorW.PrintMore Go.Proofs.YtjgfdilikbeofaaDoor.P Go.Proofs.YtjgfdilikbeofaaDoor.Clk
set_option linter.unusedVariables false
set_option linter.unusedSimpArgs false
theorem min_nat (n : Nat) (h1 : 1 ≤ n) (h : n ≤ 9223372036854775807) : clock_Minutes.f (n : Int) = some (((n - 1) / 60 + 1 : Nat) : Int) := by
  unfold clock_Minutes.f
  have e1 : wrap64 (Int.tdiv (wrap64 ((n : Int) - 1)) 60) = (((n - 1) / 60 : Nat) : Int) := by
    rw [w64 (x := (n : Int) - 1) (by omega), show (n : Int) - 1 = ((n - 1 : Nat) : Int) by omega]
    have := tdn (n - 1) 60
    rw [show ((60 : Nat) : Int) = 60 from rfl] at this
    rw [this, wn _ (by omega)]
  rw [e1, if_neg (by clear e1; omega), w64 (by clear e1; omega)]
  clear e1
  congr 1
theorem min_low (a : Int) (h : a < 1) : clock_Minutes.f a = some 0 := by
  unfold clock_Minutes.f; rw [if_pos h]
theorem min_mono (a b : Int) (ha : -9223372036854775808 ≤ a ∧ a ≤ 9223372036854775807) (hb : -9223372036854775808 ≤ b ∧ b ≤ 9223372036854775807) (hab : a ≤ b) : ∃ m n, clock_Minutes.f a = some m ∧ clock_Minutes.f b = some n ∧ m ≤ n := by
  by_cases h1 : a < 1
  · by_cases h2 : b < 1
    · exact ⟨0, 0, min_low a h1, min_low b h2, by omega⟩
    · obtain ⟨n, rfl⟩ : ∃ n : Nat, b = n := ⟨b.toNat, by omega⟩
      exact ⟨0, _, min_low a h1, min_nat n (by omega) (by omega), by omega⟩
  · obtain ⟨n, rfl⟩ : ∃ n : Nat, b = n := ⟨b.toNat, by omega⟩
    obtain ⟨m, rfl⟩ : ∃ n : Nat, a = n := ⟨a.toNat, by omega⟩
    exact ⟨_, _, min_nat m (by omega) (by omega), min_nat n (by omega) (by omega), by omega⟩
theorem ClockMinutes : gangerlaw07_ClockMinutes.Pure := by
  intro a b w0 w1
  have ha := wf64 w0
  have hb := wf64 w1
  clear w0 w1
  refine Ev.rounds ?_
  unfold gangerlaw07_ClockMinutes.f
  have J : ∀ m, clock_Minutes.f a = some m → Ev (fun k => gangerlaw07_ClockMinutes.j0 k a b m false) true := by
    intro m hm
    refine Ev.step (fun k => by rw [gangerlaw07_ClockMinutes.j0]) ?_
    simp only [Bool.false_eq_true, if_false]
    by_cases hab : a > b
    · simp only [if_pos hab]; exact hk
    · simp only [if_neg hab]
      obtain ⟨m', n, e1, e2, e3⟩ := min_mono a b ha hb (by omega)
      rw [hm] at e1
      obtain rfl := Option.some.inj e1
      simp only [e2, Option.bind_some, if_pos e3]
      exact hk
  by_cases h1 : a < 1
  · have h0 : a ≤ 0 := by omega
    have h2 : ¬ a > 0 := by omega
    rw [min_low a h1]
    simp only [Option.bind_some, if_pos h0, if_neg h2, if_true]
    exact J 0 (min_low a h1)
  · have h0 : ¬ a ≤ 0 := by omega
    have h2 : a > 0 := by omega
    obtain ⟨n, rfl⟩ : ∃ n : Nat, a = n := ⟨a.toNat, by omega⟩
    have hm := min_nat n (by omega) (by omega)
    rw [hm]
    have g1 : ¬ (((n - 1) / 60 + 1 : Nat) : Int) < 1 := by omega
    have g2 : wrap64 ((((n - 1) / 60 + 1 : Nat) : Int) - 1) = (((n - 1) / 60 : Nat) : Int) := by rw [w64 (by omega)]; omega
    have g3 : ¬ (((n - 1) / 60 : Nat) : Int) ≥ (n : Int) := by clear g2; omega
    have g4 : wrap64 ((((n - 1) / 60 : Nat) : Int) * 60) = (((n - 1) / 60 * 60 : Nat) : Int) := by clear g2; rw [w64 (by omega)]; omega
    have g5 : ¬ (((n - 1) / 60 * 60 : Nat) : Int) ≥ (n : Int) := by clear g2 g4; omega
    have g6 : wrap64 ((n : Int) - (((n - 1) / 60 * 60 : Nat) : Int)) = ((n - (n - 1) / 60 * 60 : Nat) : Int) := by clear g2 g4; rw [w64 (by omega)]; omega
    have g7 : decide (((n - (n - 1) / 60 * 60 : Nat) : Int) > 60) = false := decide_eq_false (by clear g2 g4 g6; omega)
    simp only [Option.bind_some, if_neg h0, if_pos h2, if_neg g1, g2, if_neg g3, g4, if_neg g5, g6, g7]
    exact J _ hm
end Go.Proofs.YtjgfdilikbeofaaDoor.Pure
