/-
  NARROWER THAN 'FOR EVERY INPUT', by the rows' own cells (each row's printed sentence says how): ShareSums: laid · ShareNorms: laid · ShareFactors: laid · ShareChildren: laid · ShareFalls: laid · ShareAlike: laid · ShareOnly: laid.
  DERIVED. THE GIVEN ROWS OF THIS SEAT. 7 by the template 'for every input the law returns true; each argument reads behind the call as it read before'; 0 by the template 'total and deterministic' (their statements: YtfccdngejfnmkaaDoorTotals.lean).
  GIVEN WITH THE SEED: the statements are not yours to turn. If you find one false, say at which input.
  Laid BY PROGRAM, IN A SANDBOX (cutbox-rows.mjs): the forced cells as the released guide's own fill.sh prints them over the translation 02dd6596529434bc… (all of the seat's roots in one cut). By AI agents, Wed Nov 11 2026. No macro, syntax, notation, axiom, sorry.
-/
import Derived.Test.YtfccdngejfnmkaaDoorChecked
import GoSem.PinnedTables
import GoSem.Claim
import GoSem.ClaimJoined
import GoSem.ClaimMapViews
import Derived.JoinedTies
import Derived.KernelRfl
namespace Go.Proofs.YtfccdngejfnmkaaDoor
/- THE CELL 'sum', in the pinned program and in every row, IS THE sha256 OF THE DUMP (.gsa) THAT YtfccdngejfnmkaaDoorProg.lean LOADS. Nothing in Lean hashes anything: it is a label: what it is worth is what the hold of that sum in a sandbox is worth. -/
noncomputable def Tryd.pinned : Pinned := { name := "ytfccdngejfnmkaadoor", sum := "02dd6596529434bc8dc88b5961c57195c45ac608665ad6dff747e234020d6e59", checked := Tryd.checked }
namespace Rows
def none {H : Type} : Left H := { results := [], args := [] }

/- WHAT THE LISTED PACKAGE-LEVEL VARIABLES READ AS WHEN THE CALL BEGINS. Each datum BY PROGRAM (the guide's laid-datum.mjs) off the statement by which the dump's own 'gosem.cut.vars' lays the variable. In a bare row this is a premise. The card (YtfccdngejfnmkaaDoorCards.lean) ties it to the program's text. -/
def laid_unicode_utf8_acceptRanges {H : Type} : DataW H := .agg [.agg [.lit (.int .u8 128), .lit (.int .u8 191)], .agg [.lit (.int .u8 160), .lit (.int .u8 191)], .agg [.lit (.int .u8 128), .lit (.int .u8 159)], .agg [.lit (.int .u8 144), .lit (.int .u8 191)], .agg [.lit (.int .u8 128), .lit (.int .u8 143)], .agg [.lit (.int .u8 0), .lit (.int .u8 0)], .agg [.lit (.int .u8 0), .lit (.int .u8 0)], .agg [.lit (.int .u8 0), .lit (.int .u8 0)], .agg [.lit (.int .u8 0), .lit (.int .u8 0)], .agg [.lit (.int .u8 0), .lit (.int .u8 0)], .agg [.lit (.int .u8 0), .lit (.int .u8 0)], .agg [.lit (.int .u8 0), .lit (.int .u8 0)], .agg [.lit (.int .u8 0), .lit (.int .u8 0)], .agg [.lit (.int .u8 0), .lit (.int .u8 0)], .agg [.lit (.int .u8 0), .lit (.int .u8 0)], .agg [.lit (.int .u8 0), .lit (.int .u8 0)]]
/-- One of Go's own tables, pinned by name: the form's constant. -/
def laid_unicode_utf8_first : DataW Unit := Go.Pinned.utf8First

/-- 'gangerlaw11.ShareSums': WHATEVER THE INPUT: true; the input reads as it did. -/
def shareSumsSpec : ChangeSpec := { name := "shareSums", fn := fun _ => fun
  | [d1, d2] => { results := [.lit (.bool true)], args := [d1, d2] }
  | _ => none }
def shareSumsRow : OpenClaim := { program := "ytfccdngejfnmkaadoor", sum := "02dd6596529434bc8dc88b5961c57195c45ac608665ad6dff747e234020d6e59", func := "ganger/gangerlaw11.ShareSums", spec := "shareSums", recurses := true, named := ["unicode/utf8.first", "unicode/utf8.acceptRanges", "math/bits.divideError", "math/bits.overflowError"], apart := false, laid := [("unicode/utf8.acceptRanges", laid_unicode_utf8_acceptRanges), ("unicode/utf8.first", laid_unicode_utf8_first)] }
def ShareSumsSaid : Prop := shareSumsRow.holds Tryd.pinned (OpenSpec.ofChange shareSumsSpec)

/-- ITS FALSE NEIGHBOUR: 'it returns false'. Refute it at one input. -/
def shareSumsWrong : ChangeSpec := { name := "shareSums", fn := fun _ => fun
  | [d1, d2] => { results := [.lit (.bool false)], args := [d1, d2] }
  | _ => none }
def ShareSumsWrongFalsely : Prop := shareSumsRow.holds Tryd.pinned (OpenSpec.ofChange shareSumsWrong)

/-- 'gangerlaw11.ShareNorms': WHATEVER THE INPUT: true; the input reads as it did. -/
def shareNormsSpec : ChangeSpec := { name := "shareNorms", fn := fun _ => fun
  | [d] => { results := [.lit (.bool true)], args := [d] }
  | _ => none }
def shareNormsRow : OpenClaim := { program := "ytfccdngejfnmkaadoor", sum := "02dd6596529434bc8dc88b5961c57195c45ac608665ad6dff747e234020d6e59", func := "ganger/gangerlaw11.ShareNorms", spec := "shareNorms", recurses := true, named := ["unicode/utf8.first", "unicode/utf8.acceptRanges", "math/bits.divideError", "math/bits.overflowError"], apart := false, laid := [("unicode/utf8.acceptRanges", laid_unicode_utf8_acceptRanges), ("unicode/utf8.first", laid_unicode_utf8_first)] }
def ShareNormsSaid : Prop := shareNormsRow.holds Tryd.pinned (OpenSpec.ofChange shareNormsSpec)

/-- ITS FALSE NEIGHBOUR: 'it returns false'. Refute it at one input. -/
def shareNormsWrong : ChangeSpec := { name := "shareNorms", fn := fun _ => fun
  | [d] => { results := [.lit (.bool false)], args := [d] }
  | _ => none }
def ShareNormsWrongFalsely : Prop := shareNormsRow.holds Tryd.pinned (OpenSpec.ofChange shareNormsWrong)

/-- 'gangerlaw11.ShareFactors': WHATEVER THE INPUT: true; the input reads as it did. -/
def shareFactorsSpec : ChangeSpec := { name := "shareFactors", fn := fun _ => fun
  | [d1, d2] => { results := [.lit (.bool true)], args := [d1, d2] }
  | _ => none }
def shareFactorsRow : OpenClaim := { program := "ytfccdngejfnmkaadoor", sum := "02dd6596529434bc8dc88b5961c57195c45ac608665ad6dff747e234020d6e59", func := "ganger/gangerlaw11.ShareFactors", spec := "shareFactors", recurses := true, named := ["unicode/utf8.first", "unicode/utf8.acceptRanges", "math/bits.divideError", "math/bits.overflowError"], apart := false, laid := [("unicode/utf8.acceptRanges", laid_unicode_utf8_acceptRanges), ("unicode/utf8.first", laid_unicode_utf8_first)] }
def ShareFactorsSaid : Prop := shareFactorsRow.holds Tryd.pinned (OpenSpec.ofChange shareFactorsSpec)

/-- ITS FALSE NEIGHBOUR: 'it returns false'. Refute it at one input. -/
def shareFactorsWrong : ChangeSpec := { name := "shareFactors", fn := fun _ => fun
  | [d1, d2] => { results := [.lit (.bool false)], args := [d1, d2] }
  | _ => none }
def ShareFactorsWrongFalsely : Prop := shareFactorsRow.holds Tryd.pinned (OpenSpec.ofChange shareFactorsWrong)

/-- 'gangerlaw11.ShareChildren': WHATEVER THE INPUT: true; the input reads as it did. -/
def shareChildrenSpec : ChangeSpec := { name := "shareChildren", fn := fun _ => fun
  | [d1, d2] => { results := [.lit (.bool true)], args := [d1, d2] }
  | _ => none }
def shareChildrenRow : OpenClaim := { program := "ytfccdngejfnmkaadoor", sum := "02dd6596529434bc8dc88b5961c57195c45ac608665ad6dff747e234020d6e59", func := "ganger/gangerlaw11.ShareChildren", spec := "shareChildren", named := ["unicode/utf8.first", "unicode/utf8.acceptRanges", "math/bits.divideError", "math/bits.overflowError"], apart := false, laid := [("unicode/utf8.acceptRanges", laid_unicode_utf8_acceptRanges), ("unicode/utf8.first", laid_unicode_utf8_first)] }
def ShareChildrenSaid : Prop := shareChildrenRow.holds Tryd.pinned (OpenSpec.ofChange shareChildrenSpec)

/-- ITS FALSE NEIGHBOUR: 'it returns false'. Refute it at one input. -/
def shareChildrenWrong : ChangeSpec := { name := "shareChildren", fn := fun _ => fun
  | [d1, d2] => { results := [.lit (.bool false)], args := [d1, d2] }
  | _ => none }
def ShareChildrenWrongFalsely : Prop := shareChildrenRow.holds Tryd.pinned (OpenSpec.ofChange shareChildrenWrong)

/-- 'gangerlaw11.ShareFalls': WHATEVER THE INPUT: true; the input reads as it did. -/
def shareFallsSpec : ChangeSpec := { name := "shareFalls", fn := fun _ => fun
  | [d1, d2, d3, d4] => { results := [.lit (.bool true)], args := [d1, d2, d3, d4] }
  | _ => none }
def shareFallsRow : OpenClaim := { program := "ytfccdngejfnmkaadoor", sum := "02dd6596529434bc8dc88b5961c57195c45ac608665ad6dff747e234020d6e59", func := "ganger/gangerlaw11.ShareFalls", spec := "shareFalls", named := ["unicode/utf8.first", "unicode/utf8.acceptRanges", "math/bits.divideError", "math/bits.overflowError"], apart := false, laid := [("unicode/utf8.acceptRanges", laid_unicode_utf8_acceptRanges), ("unicode/utf8.first", laid_unicode_utf8_first)] }
def ShareFallsSaid : Prop := shareFallsRow.holds Tryd.pinned (OpenSpec.ofChange shareFallsSpec)

/-- ITS FALSE NEIGHBOUR: 'it returns false'. Refute it at one input. -/
def shareFallsWrong : ChangeSpec := { name := "shareFalls", fn := fun _ => fun
  | [d1, d2, d3, d4] => { results := [.lit (.bool false)], args := [d1, d2, d3, d4] }
  | _ => none }
def ShareFallsWrongFalsely : Prop := shareFallsRow.holds Tryd.pinned (OpenSpec.ofChange shareFallsWrong)

/-- 'gangerlaw11.ShareAlike': WHATEVER THE INPUT: true; the input reads as it did. -/
def shareAlikeSpec : ChangeSpec := { name := "shareAlike", fn := fun _ => fun
  | [d1, d2] => { results := [.lit (.bool true)], args := [d1, d2] }
  | _ => none }
def shareAlikeRow : OpenClaim := { program := "ytfccdngejfnmkaadoor", sum := "02dd6596529434bc8dc88b5961c57195c45ac608665ad6dff747e234020d6e59", func := "ganger/gangerlaw11.ShareAlike", spec := "shareAlike", named := ["unicode/utf8.first", "unicode/utf8.acceptRanges", "math/bits.divideError", "math/bits.overflowError"], apart := false, laid := [("unicode/utf8.acceptRanges", laid_unicode_utf8_acceptRanges), ("unicode/utf8.first", laid_unicode_utf8_first)] }
def ShareAlikeSaid : Prop := shareAlikeRow.holds Tryd.pinned (OpenSpec.ofChange shareAlikeSpec)

/-- ITS FALSE NEIGHBOUR: 'it returns false'. Refute it at one input. -/
def shareAlikeWrong : ChangeSpec := { name := "shareAlike", fn := fun _ => fun
  | [d1, d2] => { results := [.lit (.bool false)], args := [d1, d2] }
  | _ => none }
def ShareAlikeWrongFalsely : Prop := shareAlikeRow.holds Tryd.pinned (OpenSpec.ofChange shareAlikeWrong)

/-- 'gangerlaw11.ShareOnly': WHATEVER THE INPUT: true; the input reads as it did. -/
def shareOnlySpec : ChangeSpec := { name := "shareOnly", fn := fun _ => fun
  | [d1, d2, d3] => { results := [.lit (.bool true)], args := [d1, d2, d3] }
  | _ => none }
def shareOnlyRow : OpenClaim := { program := "ytfccdngejfnmkaadoor", sum := "02dd6596529434bc8dc88b5961c57195c45ac608665ad6dff747e234020d6e59", func := "ganger/gangerlaw11.ShareOnly", spec := "shareOnly", named := ["unicode/utf8.first", "unicode/utf8.acceptRanges", "math/bits.divideError", "math/bits.overflowError"], apart := false, laid := [("unicode/utf8.acceptRanges", laid_unicode_utf8_acceptRanges), ("unicode/utf8.first", laid_unicode_utf8_first)] }
def ShareOnlySaid : Prop := shareOnlyRow.holds Tryd.pinned (OpenSpec.ofChange shareOnlySpec)

/-- ITS FALSE NEIGHBOUR: 'it returns false'. Refute it at one input. -/
def shareOnlyWrong : ChangeSpec := { name := "shareOnly", fn := fun _ => fun
  | [d1, d2, d3] => { results := [.lit (.bool false)], args := [d1, d2, d3] }
  | _ => none }
def ShareOnlyWrongFalsely : Prop := shareOnlyRow.holds Tryd.pinned (OpenSpec.ofChange shareOnlyWrong)

/- THE SECOND FORM. 'bulk': how many values and letters a reading holds, each counted each time it is reached (what is shared counts as often as it is met; a slice's spare places count too). A statement '..UptoSaid' is the law's where the arguments, and the package variables that the reading takes, are together of bulk at most 1048576: NARROWER than '..Said'. Prove '..Said' where nothing that the law and all that it calls make is longer than what came in: it says more and counts as full. Else prove '..UptoSaid'. A law counts once. -/
mutual
def uptoBulk {H : Type} : DataW H → Nat
  | .lit (.string bytes) => bytes.length + 1
  | .lit _ => 1
  | .nil => 1
  | .ptr d => uptoBulk d + 1
  | .slice elems spare => uptoBulkAll elems + uptoBulkAll spare + 1
  | .agg parts => uptoBulkAll parts + 1
  | .iface _ d => uptoBulk d + 1
  | .map entries => uptoBulkEntries entries + 1
  | .held _ => 1
def uptoBulkAll {H : Type} : List (DataW H) → Nat
  | [] => 0
  | d :: r => uptoBulk d + uptoBulkAll r
def uptoBulkEntries {H : Type} : List (Lit × DataW H) → Nat
  | [] => 0
  | x :: r => uptoBulkEntry x + uptoBulkEntries r
def uptoBulkEntry {H : Type} : Lit × DataW H → Nat
  | (.string bytes, d) => bytes.length + uptoBulk d + 1
  | (_, d) => uptoBulk d + 1
 end
def uptoSmall : (H : Type) → List (DataW H) → Bool := fun _ ds => decide (uptoBulkAll ds ≤ 1048576)
def OpenSpec.upto (s : _root_.Go.ChangeSpec) : _root_.Go.OpenSpec := { _root_.Go.OpenSpec.ofChange s with cond := some uptoSmall }

/-- 'gangerlaw11.ShareSums', WHERE WHAT IT READS IS OF BULK AT MOST 1048576: true; the input reads as it did. -/
def shareSumsUptoRow : OpenClaim := { program := "ytfccdngejfnmkaadoor", sum := "02dd6596529434bc8dc88b5961c57195c45ac608665ad6dff747e234020d6e59", func := "ganger/gangerlaw11.ShareSums", spec := "shareSums", recurses := true, named := ["unicode/utf8.first", "unicode/utf8.acceptRanges", "math/bits.divideError", "math/bits.overflowError"], apart := false, laid := [("unicode/utf8.acceptRanges", laid_unicode_utf8_acceptRanges), ("unicode/utf8.first", laid_unicode_utf8_first)], narrowed := true }
def ShareSumsUptoSaid : Prop := shareSumsUptoRow.holds Tryd.pinned (OpenSpec.upto shareSumsSpec)

/-- 'gangerlaw11.ShareNorms', WHERE WHAT IT READS IS OF BULK AT MOST 1048576: true; the input reads as it did. -/
def shareNormsUptoRow : OpenClaim := { program := "ytfccdngejfnmkaadoor", sum := "02dd6596529434bc8dc88b5961c57195c45ac608665ad6dff747e234020d6e59", func := "ganger/gangerlaw11.ShareNorms", spec := "shareNorms", recurses := true, named := ["unicode/utf8.first", "unicode/utf8.acceptRanges", "math/bits.divideError", "math/bits.overflowError"], apart := false, laid := [("unicode/utf8.acceptRanges", laid_unicode_utf8_acceptRanges), ("unicode/utf8.first", laid_unicode_utf8_first)], narrowed := true }
def ShareNormsUptoSaid : Prop := shareNormsUptoRow.holds Tryd.pinned (OpenSpec.upto shareNormsSpec)

/-- 'gangerlaw11.ShareFactors', WHERE WHAT IT READS IS OF BULK AT MOST 1048576: true; the input reads as it did. -/
def shareFactorsUptoRow : OpenClaim := { program := "ytfccdngejfnmkaadoor", sum := "02dd6596529434bc8dc88b5961c57195c45ac608665ad6dff747e234020d6e59", func := "ganger/gangerlaw11.ShareFactors", spec := "shareFactors", recurses := true, named := ["unicode/utf8.first", "unicode/utf8.acceptRanges", "math/bits.divideError", "math/bits.overflowError"], apart := false, laid := [("unicode/utf8.acceptRanges", laid_unicode_utf8_acceptRanges), ("unicode/utf8.first", laid_unicode_utf8_first)], narrowed := true }
def ShareFactorsUptoSaid : Prop := shareFactorsUptoRow.holds Tryd.pinned (OpenSpec.upto shareFactorsSpec)

/-- 'gangerlaw11.ShareChildren', WHERE WHAT IT READS IS OF BULK AT MOST 1048576: true; the input reads as it did. -/
def shareChildrenUptoRow : OpenClaim := { program := "ytfccdngejfnmkaadoor", sum := "02dd6596529434bc8dc88b5961c57195c45ac608665ad6dff747e234020d6e59", func := "ganger/gangerlaw11.ShareChildren", spec := "shareChildren", named := ["unicode/utf8.first", "unicode/utf8.acceptRanges", "math/bits.divideError", "math/bits.overflowError"], apart := false, laid := [("unicode/utf8.acceptRanges", laid_unicode_utf8_acceptRanges), ("unicode/utf8.first", laid_unicode_utf8_first)], narrowed := true }
def ShareChildrenUptoSaid : Prop := shareChildrenUptoRow.holds Tryd.pinned (OpenSpec.upto shareChildrenSpec)

/-- 'gangerlaw11.ShareFalls', WHERE WHAT IT READS IS OF BULK AT MOST 1048576: true; the input reads as it did. -/
def shareFallsUptoRow : OpenClaim := { program := "ytfccdngejfnmkaadoor", sum := "02dd6596529434bc8dc88b5961c57195c45ac608665ad6dff747e234020d6e59", func := "ganger/gangerlaw11.ShareFalls", spec := "shareFalls", named := ["unicode/utf8.first", "unicode/utf8.acceptRanges", "math/bits.divideError", "math/bits.overflowError"], apart := false, laid := [("unicode/utf8.acceptRanges", laid_unicode_utf8_acceptRanges), ("unicode/utf8.first", laid_unicode_utf8_first)], narrowed := true }
def ShareFallsUptoSaid : Prop := shareFallsUptoRow.holds Tryd.pinned (OpenSpec.upto shareFallsSpec)

/-- 'gangerlaw11.ShareAlike', WHERE WHAT IT READS IS OF BULK AT MOST 1048576: true; the input reads as it did. -/
def shareAlikeUptoRow : OpenClaim := { program := "ytfccdngejfnmkaadoor", sum := "02dd6596529434bc8dc88b5961c57195c45ac608665ad6dff747e234020d6e59", func := "ganger/gangerlaw11.ShareAlike", spec := "shareAlike", named := ["unicode/utf8.first", "unicode/utf8.acceptRanges", "math/bits.divideError", "math/bits.overflowError"], apart := false, laid := [("unicode/utf8.acceptRanges", laid_unicode_utf8_acceptRanges), ("unicode/utf8.first", laid_unicode_utf8_first)], narrowed := true }
def ShareAlikeUptoSaid : Prop := shareAlikeUptoRow.holds Tryd.pinned (OpenSpec.upto shareAlikeSpec)

/-- 'gangerlaw11.ShareOnly', WHERE WHAT IT READS IS OF BULK AT MOST 1048576: true; the input reads as it did. -/
def shareOnlyUptoRow : OpenClaim := { program := "ytfccdngejfnmkaadoor", sum := "02dd6596529434bc8dc88b5961c57195c45ac608665ad6dff747e234020d6e59", func := "ganger/gangerlaw11.ShareOnly", spec := "shareOnly", named := ["unicode/utf8.first", "unicode/utf8.acceptRanges", "math/bits.divideError", "math/bits.overflowError"], apart := false, laid := [("unicode/utf8.acceptRanges", laid_unicode_utf8_acceptRanges), ("unicode/utf8.first", laid_unicode_utf8_first)], narrowed := true }
def ShareOnlyUptoSaid : Prop := shareOnlyUptoRow.holds Tryd.pinned (OpenSpec.upto shareOnlySpec)

end Rows
end Go.Proofs.YtfccdngejfnmkaaDoor
