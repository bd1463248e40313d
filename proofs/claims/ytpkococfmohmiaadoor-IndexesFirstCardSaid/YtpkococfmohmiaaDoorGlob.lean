/- Of the variables that the rows of this seat list: what the walks are told of them comes out of each row's list, and a world that holds them all. -/
import Derived.Test.YtpkococfmohmiaaDoorRows
import Derived.Test.YtpkococfmohmiaaDoorP0
import Derived.WalkKit
import Derived.ProofKit
import Derived.Deep.DeepHandedRow
import Derived.Lib.LaidU8
import Derived.Shelf.Vars
namespace Go.Proofs.YtpkococfmohmiaaDoor.Door
open Go.RowKit
set_option linter.unusedVariables false
/-- a table's reading is what the contracts ask of it -/
theorem tab_of_reads {P : Program} {W : World} {name : String} {k : IntKind} {zs : List Int} {g : Nat} {t e : TypeId} {n : Nat}
    (hg : P.globalNamed name = some g) (hty : (P.globals[g]?).map (·.type) = some t) (ht : P.underlying t = some (.array n e)) (he : P.underlying e = some (.int k)) (hce : P.cellsOf e = 1) (hct : P.cellsOf t = n)
    (h : Lib.VarReads P W name (Lib.tabData k zs)) : Lib.TabIs P W name k zs := by
  obtain ⟨g', t', cs, fuel, p, hg', ht', hvar, hd⟩ := h
  obtain rfl := Option.some.inj (hg.symm.trans hg')
  obtain rfl := Option.some.inj (hty.symm.trans ht')
  unfold Lib.TabIs
  rw [hvar, ← Lib.cells_of_tab ht he hce hct hd]
theorem pow10_laid : (Rows.laid_internal_strconv_uint64pow10 : DataW Unit) = Lib.tabData .u64 Lib.pow10Tab := by kernel_rfl
theorem globOf {W : World} (hL : laidMetH Tryd.prog Rows.indexesParsesRow.laid W) (hS : W.ShapedOpen Tryd.prog) : P.Glob W := by
  have hL' : laidMet Tryd.prog Rows.indexesParsesRow.laid W := hL
  have h1 : Lib.VarReads Tryd.prog W "internal/strconv.uint64pow10" Rows.laid_internal_strconv_uint64pow10 := Lib.laidMet.reads hL' (by unfold Rows.indexesParsesRow; simp)
  rw [pow10_laid] at h1
  have h2 : Lib.TabIs Tryd.prog W "internal/strconv.uint64pow10" .u64 Lib.pow10Tab := tab_of_reads (g := 0) (by kernel_rfl) (by kernel_rfl) Tryd.underlying93 Tryd.underlying83 (by kernel_rfl) (by kernel_rfl) h1
  exact h2
/-- a datum's cells -/
def flat : Nat → DataW Unit → List Value
  | 0, _ => []
  | _ + 1, .lit (.int k z) => [.int k z]
  | f + 1, .agg l => l.flatMap (flat f)
  | _ + 1, _ => []
/-- a world that holds what the rows list -/
noncomputable def lay (h : Array Obj) : List (String × DataW Unit) → Array Obj
  | [] => h
  | (n, d) :: r => match Tryd.prog.globalNamed n with
    | some g => lay (h.modify g fun
        | .cells _ t frozen => .cells (flat 4 d).toArray t frozen
        | o => o) r
    | none => lay h r
noncomputable def laidWorld (os : Os) : World := { World.holding Tryd.prog os ⟨#[], #[], []⟩ with heap := lay (World.holding Tryd.prog os ⟨#[], #[], []⟩).heap Rows.indexesParsesRow.laid }
end Go.Proofs.YtpkococfmohmiaaDoor.Door
