import Derived.Test.YtjgfdilikbeofaaDoorClkPrint
import Derived.Test.YtjgfdilikbeofaaDoorP0
import Derived.Test.YtjgfdilikbeofaaDoorP6
namespace Go.Proofs.YtjgfdilikbeofaaDoor.Pure
open Go.RowKit Go.Proofs.YtjgfdilikbeofaaDoorW.PrintWords Go.Proofs.YtjgfdilikbeofaaDoorW.PrintLast Go.Proofs.YtjgfdilikbeofaaDoorW.PrintMore Go.Proofs.YtjgfdilikbeofaaDoor.P Go.Proofs.YtjgfdilikbeofaaDoor.Clk
set_option linter.unusedVariables false
set_option linter.unusedSimpArgs false
theorem back_j1 (l : List UInt8) (hl : l.length ≤ 1000000) : Ev (fun k => gangerlaw07_ClockBack.j1 k (mk l)) true := by
  refine Ev.step (fun k => by rw [gangerlaw07_ClockBack.j1]) ?_
  refine Ev.bind (parse_eq l hl) ?_
  cases hP : PT (toks l).1 (toks l).2 with
  | mk n e =>
    rcases PT_range l n e hP with ⟨rfl, h1, h2⟩ | ⟨h1, rfl⟩
    · simp only [if_true]
      obtain ⟨m, rfl⟩ : ∃ m : Nat, n = m := ⟨n.toNat, by omega⟩
      refine Ev.bind (print_ok m (by omega) (by omega)) ?_
      have hp := parse_eq (PS m) (Nat.le_trans (PS_len m (by omega)) (by decide))
      rw [PT_PS m (by omega) (by omega)] at hp
      refine Ev.bind hp ?_
      simp only [if_true]
      exact hk
    · simp only [if_neg h1, if_true]
      exact hk
theorem ClockBack : gangerlaw07_ClockBack.Pure := by
  intro a a1 w _
  have ha := wf64 w
  clear w
  refine Ev.rounds ?_
  unfold gangerlaw07_ClockBack.f
  obtain ⟨l, rfl⟩ : ∃ l, a1 = mk l := ⟨_, mk_self a1⟩
  by_cases h : ((mk l).size : Int) > 300
  · simp only [if_pos h]; exact hk
  · simp only [if_neg h]
    have hl : l.length ≤ 1000000 := by rw [mk_size] at h; omega
    by_cases hb : a < 1 ∨ a > 1073741824
    · refine Ev.bind (print_bad a hb) ?_
      have c : (if a ≥ 1 then ((((2 : Int) == 0) != (decide (a ≤ 1073741824))) : Bool) else (((2 : Int) == 0) != false)) = false := by
        by_cases h1 : a ≥ 1
        · rw [if_pos h1, decide_eq_false (by omega)]; rfl
        · rw [if_neg h1]; rfl
      have : Ev (fun k => gangerlaw07_ClockBack.j0 k a (mk l) (mk []) 2 false) true := by
        refine Ev.step (fun k => by rw [gangerlaw07_ClockBack.j0]) ?_
        simp only [Bool.false_eq_true, if_false]
        exact back_j1 l hl
      by_cases h1 : a ≥ 1
      · simp only [if_pos h1] at c ⊢
        rw [c]; exact this
      · simp only [if_neg h1] at c ⊢
        rw [c]; exact this
    · obtain ⟨m, rfl⟩ : ∃ m : Nat, a = m := ⟨a.toNat, by omega⟩
      refine Ev.bind (print_ok m (by omega) (by omega)) ?_
      have h1 : (m : Int) ≥ 1 := by omega
      have hd : decide ((m : Int) ≤ 1073741824) = true := decide_eq_true (by omega)
      have c : (((0 : Int) == 0) != true) = false := rfl
      simp only [if_pos h1, hd, c]
      refine Ev.step (fun k => by rw [gangerlaw07_ClockBack.j0]) ?_
      simp only [Bool.false_eq_true, if_false, if_true]
      have hp := parse_eq (PS m) (Nat.le_trans (PS_len m (by omega)) (by decide))
      rw [PT_PS m (by omega) (by omega)] at hp
      refine Ev.bind hp ?_
      simp only [if_true]
      exact back_j1 l hl
end Go.Proofs.YtjgfdilikbeofaaDoor.Pure
