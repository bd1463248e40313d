import Derived.Test.YtjgfdilikbeofaaDoorClkPrint
import Derived.Test.YtjgfdilikbeofaaDoorP0
import Derived.Test.YtjgfdilikbeofaaDoorP3
import Derived.Test.YtjgfdilikbeofaaDoorP5
namespace Go.Proofs.YtjgfdilikbeofaaDoor.Pure
open Go.RowKit Go.Proofs.YtjgfdilikbeofaaDoorW.PrintWords Go.Proofs.YtjgfdilikbeofaaDoorW.PrintLast Go.Proofs.YtjgfdilikbeofaaDoorW.PrintMore Go.Proofs.YtjgfdilikbeofaaDoor.P Go.Proofs.YtjgfdilikbeofaaDoor.Clk
set_option linter.unusedVariables false
set_option linter.unusedSimpArgs false
theorem mins (a : Int) (ha : -9223372036854775808 ≤ a ∧ a ≤ 9223372036854775807) : ∃ m, clock_Minutes.f a = some m ∧ gangerref07_Minutes.f a = some m := by
  unfold clock_Minutes.f gangerref07_Minutes.f
  by_cases h1 : a < 1
  · rw [if_pos h1]
    refine ⟨0, rfl, ?_⟩
    by_cases h0 : a < 0
    · rw [if_pos h0]
    · have : a = 0 := by omega
      subst this; decide +kernel
  · obtain ⟨n, rfl⟩ : ∃ n : Nat, a = n := ⟨a.toNat, by omega⟩
    have e1 : wrap64 (Int.tdiv (wrap64 ((n : Int) - 1)) 60) = (((n - 1) / 60 : Nat) : Int) := by
      rw [w64 (x := (n : Int) - 1) (by omega), show (n : Int) - 1 = ((n - 1 : Nat) : Int) by omega]
      have := tdn (n - 1) 60
      rw [show ((60 : Nat) : Int) = 60 from rfl] at this
      rw [this, wn _ (by omega)]
    have e2 : wrap64 (Int.tdiv (n : Int) 60) = ((n / 60 : Nat) : Int) := by
      have := tdn n 60
      rw [show ((60 : Nat) : Int) = 60 from rfl] at this
      rw [this, wn _ (by omega)]
    have e3 : wrap64 (((n / 60 : Nat) : Int) * 60) = ((n / 60 * 60 : Nat) : Int) := by
      clear e1 e2
      rw [w64 (by omega)]; omega
    rw [e1, e2, e3, if_neg h1, if_neg (by clear e1 e2 e3; omega)]
    refine ⟨_, rfl, ?_⟩
    clear e1 e2 e3
    have w1 : wrap64 ((((n - 1) / 60 : Nat) : Int) + 1) = (((n - 1) / 60 + 1 : Nat) : Int) := by rw [w64 (by omega)]; omega
    have w2 : wrap64 (((n / 60 : Nat) : Int) + 1) = ((n / 60 + 1 : Nat) : Int) := by clear w1; rw [w64 (by omega)]; omega
    rw [w1, w2]
    clear w1 w2
    by_cases hd : ((n / 60 * 60 : Nat) : Int) = (n : Int)
    · rw [if_pos hd, show (n - 1) / 60 + 1 = n / 60 by omega]
    · rw [if_neg hd, show (n - 1) / 60 = n / 60 by omega]
theorem ClockPrints : gangerlaw07_ClockPrints.Pure := by
  intro a w
  have ha := wf64 w
  clear w
  refine Ev.rounds ?_
  unfold gangerlaw07_ClockPrints.f
  obtain ⟨m, hm1, hm2⟩ := mins a ha
  have key : ∀ s e, Ev (fun k => clock_Print.f k a) (s, e) → Ev (fun k => gangerref07_Print.f k a) (s, e) → Ev (fun k => (clock_Print.f k a).bind fun bt199 => ((gangerref07_Print.f k a).bind fun bt201 => (if bt199.1.toList = bt201.1.toList then (if bt199.2 = bt201.2 then ((clock_Minutes.f a).bind fun t203 => ((gangerref07_Minutes.f a).bind fun t204 => (if t203 = t204 then ((gangerlaw07_known.f k).bind fun t205 => (some t205)) else (none)))) else (none)) else (none)))) true := by
    intro s e h1 h2
    refine Ev.bind h1 ?_
    refine Ev.bind h2 ?_
    simp only [if_true, hm1, hm2, Option.bind_some]
    exact hk
  by_cases h : a < 1 ∨ a > 1073741824
  · exact key _ _ (print_bad a h) (rprint_bad a h)
  · obtain ⟨n, rfl⟩ : ∃ n : Nat, a = n := ⟨a.toNat, by omega⟩
    exact key _ _ (print_ok n (by omega) (by omega)) (rprint_ok n (by omega) (by omega))
end Go.Proofs.YtjgfdilikbeofaaDoor.Pure
