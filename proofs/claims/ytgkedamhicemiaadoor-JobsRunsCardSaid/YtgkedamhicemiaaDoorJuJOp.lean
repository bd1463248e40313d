/- cut to what one law reaches -/
import Derived.Test.YtgkedamhicemiaaDoorJuJ3
import Derived.Test.YtgkedamhicemiaaDoorJuJ9
import Derived.Test.YtgkedamhicemiaaDoorJuOpensZ
import Derived.ProofKit
namespace Go.Proofs.YtgkedamhicemiaaDoor.P
open Go.RowKit Go.Proofs.YtgkedamhicemiaaDoorW.PrintWords Go.Proofs.YtgkedamhicemiaaDoorW.PrintLast Go.Proofs.YtgkedamhicemiaaDoorW.PrintMore
attribute [local go_sem] max2_int min2_int max_two min_two max_three min_three max_four min_four
set_option linter.unusedVariables false
set_option linter.unusedSimpArgs false
attribute [local go_sem] isSome_setCell
open Go.Proofs.YtgkedamhicemiaaDoor.OpensZ
abbrev op52G (l : List Int) : Prop := l.length ≤ 140737488351232 ∧ ∀ b ∈ l, (Lit.int .u8 b).wf = true
theorem b3 : Tryd.prog.bytesOf 3 = 8 := by kernel_rfl
theorem b5 : Tryd.prog.bytesOf 5 = 1 := by kernel_rfl
theorem op52 : Opn Tryd.prog 52 (Kd.slice 5 (Kd.int .u8)) op52G := Opn.weaken (Opn.slice Tryd.underlying52 (by kernel_rfl) (Opn.int Tryd.underlying5 (by kernel_rfl))) (fun l h => ⟨by have := h.1; rw [b5] at this; omega, h.2⟩)
end Go.Proofs.YtgkedamhicemiaaDoor.P
