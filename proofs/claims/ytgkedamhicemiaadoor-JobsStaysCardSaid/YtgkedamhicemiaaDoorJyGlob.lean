/- cut to what one law reaches -/
import Derived.Test.YtgkedamhicemiaaDoorRows
import Derived.Test.YtgkedamhicemiaaDoorJyP0
import Derived.Test.YtgkedamhicemiaaDoorJyShelf
import Derived.WalkKit
import Derived.ProofKit
import Derived.Deep.DeepHandedRow
import Derived.Lib.LaidU8
import Derived.Shelf.Vars
namespace Go.Proofs.YtgkedamhicemiaaDoor.Door
open Go.RowKit
set_option linter.unusedVariables false
theorem u8x : U8Extra Tryd.prog Tryd.lays260_ren := ⟨by kernel_rfl, by kernel_rfl, by kernel_rfl, by kernel_rfl, by kernel_rfl, by kernel_rfl, by kernel_rfl⟩
theorem first_laid : (Rows.laid_unicode_utf8_first : DataW Unit) = Lib.firstData := by kernel_rfl
theorem accept_laid : (Rows.laid_unicode_utf8_acceptRanges : DataW Unit) = Lib.acceptData := by kernel_rfl
theorem globOf {W : World} (hL : laidMetH Tryd.prog Rows.jobsAdmitsRow.laid W) (hS : W.ShapedOpen Tryd.prog) : P.Glob W := by
  have hL' : laidMet Tryd.prog Rows.jobsAdmitsRow.laid W := hL
  have h1 : Lib.VarReads Tryd.prog W "unicode/utf8.first" Rows.laid_unicode_utf8_first := Lib.laidMet.reads hL' (by unfold Rows.jobsAdmitsRow; simp)
  have h2 : Lib.VarReads Tryd.prog W "unicode/utf8.acceptRanges" Rows.laid_unicode_utf8_acceptRanges := Lib.laidMet.reads hL' (by unfold Rows.jobsAdmitsRow; simp)
  rw [first_laid] at h1
  rw [accept_laid] at h2
  exact utf8Tabs_of_reads Tryd.lays260 u8x h1 h2
/-- a datum's cells -/
def flat : Nat → DataW Unit → List Value
  | 0, _ => []
  | _ + 1, .lit (.int k z) => [.int k z]
  | f + 1, .agg l => l.flatMap (flat f)
  | _ + 1, _ => []
/-- a world that holds what the rows list -/
noncomputable def lay (h : Array Obj) : List (String × DataW Unit) → Array Obj
  | [] => h
  | (n, d) :: r => match Tryd.prog.globalNamed n with
    | some g => lay (h.modify g fun
        | .cells _ t frozen => .cells (flat 4 d).toArray t frozen
        | o => o) r
    | none => lay h r
noncomputable def laidWorld (os : Os) : World := { World.holding Tryd.prog os ⟨#[], #[], []⟩ with heap := lay (World.holding Tryd.prog os ⟨#[], #[], []⟩).heap Rows.jobsAdmitsRow.laid }
end Go.Proofs.YtgkedamhicemiaaDoor.Door
