/- The same arrays; how long they are. -/
import Derived.Test.YtpkococfmohmiaaDoorIdxSay
import Derived.Test.YtpkococfmohmiaaDoorP0
import Derived.Test.YtpkococfmohmiaaDoorP3
namespace Go.Proofs.YtpkococfmohmiaaDoor.Idx
open Go.RowKit Go.Proofs.YtpkococfmohmiaaDoorW.PrintWords Go.Proofs.YtpkococfmohmiaaDoorW.PrintLast Go.Proofs.YtpkococfmohmiaaDoorW.PrintMore Go.Proofs.YtpkococfmohmiaaDoor.P
set_option linter.unusedVariables false
set_option linter.unusedSimpArgs false
theorem same_l0 (l : List Int) (a b : Int) (hl : l.length < 1000000) : ∀ (i n : Nat), n + i = l.length → Ev (fun k => gangerref06_Same.l0 k (n : Int) l a l b) true
  | 0, n, h => by
    refine Ev.step (fun k => by rw [gangerref06_Same.l0]) ?_
    exact ev_neg (by omega) (Ev.now _)
  | i + 1, n, h => by
    refine Ev.step (fun k => by rw [gangerref06_Same.l0]) ?_
    refine ev_pos (by omega) (ev_pos (by omega) (ev_pos (by omega) (ev_pos rfl ?_)))
    rw [w64 (by omega)]
    exact same_l0 l a b hl i (n + 1) (by omega)
theorem same_refl (l : List Int) (a : Int) (hl : l.length < 1000000) : Ev (fun k => gangerref06_Same.f k l a l a) true := by
  unfold gangerref06_Same.f
  refine ev_pos rfl ?_
  refine Ev.step (fun k => by rw [gangerref06_Same.j0]) ?_
  refine ev_neg (by simp) ?_
  exact same_l0 l a a hl l.length 0 (by omega)
theorem listOf_len (p : Nat → Bool) : (listOf p).length ≤ 1001 := by
  unfold listOf
  rw [List.length_map]
  exact Nat.le_trans (List.length_filter_le _ _) (by simp)
theorem PR_len (s : List UInt8) : (PR s).1.length ≤ 1001 := by
  unfold PR say
  split
  · simp
  · unfold final
    split
    · simp
    · dsimp only
      exact listOf_len _
end Go.Proofs.YtpkococfmohmiaaDoor.Idx
