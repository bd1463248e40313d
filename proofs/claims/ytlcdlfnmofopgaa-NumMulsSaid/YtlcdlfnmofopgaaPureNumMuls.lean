/- NumMuls: of any two numbers the product is what the reference says, or is told to lie beyond, and cut off it is that or the end. Conditions: none beyond an int's range. -/
import Derived.Test.YtlcdlfnmofopgaaNumCore
import Derived.Test.YtlcdlfnmofopgaaP0
import Derived.Test.YtlcdlfnmofopgaaP9
namespace Go.Proofs.Ytlcdlfnmofopgaa.Pure
open Go.RowKit Go.Proofs.YtlcdlfnmofopgaaW.PrintWords Go.Proofs.YtlcdlfnmofopgaaW.PrintLast Go.Proofs.YtlcdlfnmofopgaaW.PrintMore Go.Proofs.Ytlcdlfnmofopgaa.P Go.Proofs.Ytlcdlfnmofopgaa.NumM
set_option linter.unusedVariables false

/-- of NumMuls: the product, and cut off -/
theorem NumMuls : gangerlaw01_NumMuls.Pure := by
  intro a b ha hb
  have ha := wf64 ha
  have hb := wf64 hb
  apply Ev.rounds (g := fun k => gangerlaw01_NumMuls.f k a b)
  unfold gangerlaw01_NumMuls.f
  simp only [mul_f a b ha hb, Option.bind_some]
  refine Ev.bind (refmul_ev a b ha hb) ?_
  simp only [if_true]
  simp only [times_f a b ha hb, Option.bind_some]
  simp only [of_f a ha, of_f b hb, Option.bind_some]
  have hla : 0 ≤ (a.natAbs : Int) ∧ (a.natAbs : Int) < 18446744073709551616 := by omega
  have hlb : 0 ≤ (b.natAbs : Int) ∧ (b.natAbs : Int) < 18446744073709551616 := by omega
  refine Ev.bind (product_ev _ _ _ _ _ _ hla hlb) ?_
  have h1 := prod_nn a b
  have h := end_ev (decide (a < 0) != decide (b < 0)) ((a.natAbs : Int) * b.natAbs / 18446744073709551616) ((a.natAbs : Int) * b.natAbs % 18446744073709551616) (by omega) (by omega) (by omega)
  rw [sv_product] at h
  refine Ev.bind h ?_
  simp only [eq_self, if_true]
  exact Ev.bind known_ev (Ev.now _)

end Go.Proofs.Ytlcdlfnmofopgaa.Pure
