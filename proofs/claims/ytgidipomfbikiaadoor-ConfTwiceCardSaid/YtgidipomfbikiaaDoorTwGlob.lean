/- cut to what one law reaches -/
import Derived.Test.YtgidipomfbikiaaDoorRows
import Derived.Test.YtgidipomfbikiaaDoorTwP0
import Derived.Test.YtgidipomfbikiaaDoorTwShelf
import Derived.WalkKit
import Derived.ProofKit
import Derived.Deep.DeepHandedRow
import Derived.Lib.LaidU8
import Derived.Shelf.Vars
namespace Go.Proofs.YtgidipomfbikiaaDoor.Door
open Go.RowKit
set_option linter.unusedVariables false
/-- a table's reading is what the contracts ask of it -/
theorem tab_of_reads {P : Program} {W : World} {name : String} {k : IntKind} {zs : List Int} {g : Nat} {t e : TypeId} {n : Nat}
    (hg : P.globalNamed name = some g) (hty : (P.globals[g]?).map (·.type) = some t) (ht : P.underlying t = some (.array n e)) (he : P.underlying e = some (.int k)) (hce : P.cellsOf e = 1) (hct : P.cellsOf t = n)
    (h : Lib.VarReads P W name (Lib.tabData k zs)) : Lib.TabIs P W name k zs:=by
  obtain ⟨g',t',cs,fuel,p,hg',ht',hvar,hd⟩:=h
  obtain rfl:=Option.some.inj (hg.symm.trans hg')
  obtain rfl:=Option.some.inj (hty.symm.trans ht')
  unfold Lib.TabIs
  rw [hvar,← Lib.cells_of_tab ht he hce hct hd]
theorem pow10_laid : (Rows.laid_internal_strconv_uint64pow10 : DataW Unit) = Lib.tabData .u64 Lib.pow10Tab:=by kernel_rfl
theorem u8x : U8Extra Tryd.prog Tryd.lays260_ren:=⟨by kernel_rfl,by kernel_rfl,by kernel_rfl,by kernel_rfl,by kernel_rfl,by kernel_rfl,by kernel_rfl⟩
theorem first_laid : (Rows.laid_unicode_utf8_first : DataW Unit) = Lib.firstData:=by kernel_rfl
theorem accept_laid : (Rows.laid_unicode_utf8_acceptRanges : DataW Unit) = Lib.acceptData:=by kernel_rfl
theorem globOf {W : World} (hL : laidMetH Tryd.prog Rows.confTwiceRow.laid W) (hS : W.ShapedOpen Tryd.prog) : P.Glob W:=by
  have hL' : laidMet Tryd.prog Rows.confTwiceRow.laid W:=hL
  have h1 : Lib.VarReads Tryd.prog W "internal/strconv.uint64pow10" Rows.laid_internal_strconv_uint64pow10 := Lib.laidMet.reads hL' (by unfold Rows.confTwiceRow; simp)
  rw [pow10_laid] at h1
  have h2 : Lib.TabIs Tryd.prog W "internal/strconv.uint64pow10" .u64 Lib.pow10Tab := tab_of_reads (g := 1) (by kernel_rfl) (by kernel_rfl) Tryd.underlying118 Tryd.underlying106 (by kernel_rfl) (by kernel_rfl) h1
  have h3 : Lib.VarReads Tryd.prog W "unicode/utf8.first" Rows.laid_unicode_utf8_first := Lib.laidMet.reads hL' (by unfold Rows.confTwiceRow; simp)
  have h4 : Lib.VarReads Tryd.prog W "unicode/utf8.acceptRanges" Rows.laid_unicode_utf8_acceptRanges := Lib.laidMet.reads hL' (by unfold Rows.confTwiceRow; simp)
  rw [first_laid] at h3
  rw [accept_laid] at h4
  obtain ⟨m,hm⟩:=Go.Proofs.cell_of_shapedOpen_int (g:=0) (zero:=#[.int .i64 0]) (t:=3) hS (of_decide_eq_true (by kernel_rfl)) (by kernel_rfl) rfl (by kernel_rfl) (by kernel_rfl) Tryd.underlying3
  exact ⟨⟨m,hm⟩,h2,utf8Tabs_of_reads Tryd.lays260 u8x h3 h4⟩
/-- a datum's cells -/
def flat : Nat→DataW Unit→List Value
  | 0,_=>[]
  | _ + 1,.lit (.int k z)=>[.int k z]
  | f + 1,.agg l=>l.flatMap (flat f)
  | _ + 1,_=>[]
/-- a world that holds what the rows list -/
noncomputable def lay (h : Array Obj) : List (String × DataW Unit)→Array Obj
  | []=>h
  | (n,d) :: r=>match Tryd.prog.globalNamed n with
    | some g=>lay (h.modify g fun
        | .cells _ t frozen=>.cells (flat 4 d).toArray t frozen
        | o=>o) r
    | none=>lay h r
noncomputable def laidWorld (os : Os) : World:={ World.holding Tryd.prog os ⟨#[],#[],[]⟩ with heap:=lay (World.holding Tryd.prog os ⟨#[],#[],[]⟩).heap Rows.confTwiceRow.laid }
end Go.Proofs.YtgidipomfbikiaaDoor.Door
