/- Has an array an index? -/
import Derived.Test.YtpkococfmohmiaaDoorIdxSame
import Derived.Test.YtpkococfmohmiaaDoorP0
import Derived.Test.YtpkococfmohmiaaDoorP11
namespace Go.Proofs.YtpkococfmohmiaaDoor.Idx
open Go.RowKit Go.Proofs.YtpkococfmohmiaaDoorW.PrintWords Go.Proofs.YtpkococfmohmiaaDoorW.PrintLast Go.Proofs.YtpkococfmohmiaaDoorW.PrintMore Go.Proofs.YtpkococfmohmiaaDoor.P
set_option linter.unusedVariables false
set_option linter.unusedSimpArgs false
theorem has_l0 (m n : Int) : ∀ (s p : List Int), (p ++ s).length < 1000000 → Ev (fun k => gangerlaw06_has.l0 k n (p.length : Int) (p ++ s) m) (decide (n ∈ s))
  | [], p, hl => by
    refine Ev.step (fun k => by rw [gangerlaw06_has.l0]) ?_
    exact ev_neg (by simp) (by simpa using Ev.now _)
  | x :: s, p, hl => by
    refine Ev.step (fun k => by rw [gangerlaw06_has.l0]) ?_
    have hr : rd (p ++ x :: s) ((p.length : Nat) : Int) = x := by unfold rd; simp [List.getD]
    refine ev_pos (by simp; omega) (ev_pos (by omega) ?_)
    rw [hr]
    by_cases e : x = n
    · refine ev_pos e ?_
      rw [decide_eq_true (by rw [e]; exact List.mem_cons_self ..)]
      exact Ev.now _
    · refine ev_neg e ?_
      have ih := has_l0 m n s (p ++ [x]) (by simpa using hl)
      have hw : wrap64 ((p.length : Int) + 1) = ((p ++ [x]).length : Int) := by rw [w64 (by simp at hl; omega)]; simp
      rw [hw]
      have e2 : decide (n ∈ x :: s) = decide (n ∈ s) := by
        refine decide_eq_decide.2 ?_
        rw [List.mem_cons]
        exact ⟨fun h => h.resolve_left (fun q => e q.symm), Or.inr⟩
      rw [e2]
      simpa using ih
theorem has_eq (l : List Int) (m n : Int) (hl : l.length < 1000000) : Ev (fun k => gangerlaw06_has.f k l m n) (decide (n ∈ l)) := has_l0 m n l [] hl
end Go.Proofs.YtpkococfmohmiaaDoor.Idx
