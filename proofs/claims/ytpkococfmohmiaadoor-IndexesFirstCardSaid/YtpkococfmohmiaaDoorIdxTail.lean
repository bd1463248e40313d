/- The text of the runs behind the first one. -/
import Derived.Test.YtpkococfmohmiaaDoorIdxText
import Derived.Test.YtpkococfmohmiaaDoorP0
namespace Go.Proofs.YtpkococfmohmiaaDoor.Idx
open Go.RowKit Go.Proofs.YtpkococfmohmiaaDoorW.PrintWords Go.Proofs.YtpkococfmohmiaaDoorW.PrintLast Go.Proofs.YtpkococfmohmiaaDoorW.PrintMore Go.Proofs.YtpkococfmohmiaaDoor.P
set_option linter.unusedVariables false
set_option linter.unusedSimpArgs false
def tailT (q : List (Int × Int)) : List UInt8 := q.flatMap fun p => 44 :: tx p
theorem joinTail_eq : ∀ q : List (Int × Int), Lib.joinTail [44] (q.map tx) = tailT q
  | [] => rfl
  | a :: q => by
    have ih := joinTail_eq q
    simp only [Lib.joinTail, tailT, List.map_cons, List.flatten_cons, List.flatMap_cons] at ih ⊢
    rw [ih]; rfl
theorem body_cons (a : Int × Int) (q : List (Int × Int)) : body (a :: q) = tx a ++ tailT q := by
  rw [body, List.map_cons, Lib.join_cons, joinTail_eq]
end Go.Proofs.YtpkococfmohmiaaDoor.Idx
