/-
  NARROWER THAN 'FOR EVERY INPUT', by the rows' own cells (each row's printed sentence says how): IndexesParses: laid · IndexesPrints: laid · IndexesBack: laid · IndexesJoins: laid · IndexesRuns: laid · IndexesFirst: laid · IndexesCounts: laid.
  DERIVED. THE GIVEN ROWS OF THIS SEAT. 7 by the template 'for every input the law returns true; each argument reads behind the call as it read before'; 0 by the template 'total and deterministic' (their statements: YtpkococfmohmiaaDoorTotals.lean).
  GIVEN WITH THE SEED: the statements are not yours to turn. If you find one false, say at which input.
  Laid BY PROGRAM, IN A SANDBOX (cutbox-rows.mjs): the forced cells as the released guide's own fill.sh prints them over the translation 15df7e0ea781e6d1… (all of the seat's roots in one cut). By AI agents, Wed Nov 11 2026. No macro, syntax, notation, axiom, sorry.
-/
import Derived.Test.YtpkococfmohmiaaDoorChecked
import GoSem.Claim
import GoSem.ClaimJoined
import GoSem.ClaimMapViews
import Derived.JoinedTies
import Derived.KernelRfl
namespace Go.Proofs.YtpkococfmohmiaaDoor
/- THE CELL 'sum', in the pinned program and in every row, IS THE sha256 OF THE DUMP (.gsa) THAT YtpkococfmohmiaaDoorProg.lean LOADS. Nothing in Lean hashes anything: it is a label: what it is worth is what the hold of that sum in a sandbox is worth. -/
noncomputable def Tryd.pinned : Pinned := { name := "ytpkococfmohmiaadoor", sum := "15df7e0ea781e6d191753f9b377a947c5aa8afa2d0ffbeb11fc471d724e96989", checked := Tryd.checked }
namespace Rows
def none {H : Type} : Left H := { results := [], args := [] }

/- WHAT THE LISTED PACKAGE-LEVEL VARIABLES READ AS WHEN THE CALL BEGINS. Each datum BY PROGRAM (the guide's laid-datum.mjs) off the statement by which the dump's own 'gosem.cut.vars' lays the variable. In a bare row this is a premise. The card (YtpkococfmohmiaaDoorCards.lean) ties it to the program's text. -/
def laid_math_bits_deBruijn32tab {H : Type} : DataW H := .agg [.lit (.int .u8 0), .lit (.int .u8 1), .lit (.int .u8 28), .lit (.int .u8 2), .lit (.int .u8 29), .lit (.int .u8 14), .lit (.int .u8 24), .lit (.int .u8 3), .lit (.int .u8 30), .lit (.int .u8 22), .lit (.int .u8 20), .lit (.int .u8 15), .lit (.int .u8 25), .lit (.int .u8 17), .lit (.int .u8 4), .lit (.int .u8 8), .lit (.int .u8 31), .lit (.int .u8 27), .lit (.int .u8 13), .lit (.int .u8 23), .lit (.int .u8 21), .lit (.int .u8 19), .lit (.int .u8 16), .lit (.int .u8 7), .lit (.int .u8 26), .lit (.int .u8 12), .lit (.int .u8 18), .lit (.int .u8 6), .lit (.int .u8 11), .lit (.int .u8 5), .lit (.int .u8 10), .lit (.int .u8 9)]
def laid_math_bits_deBruijn64tab {H : Type} : DataW H := .agg [.lit (.int .u8 0), .lit (.int .u8 1), .lit (.int .u8 56), .lit (.int .u8 2), .lit (.int .u8 57), .lit (.int .u8 49), .lit (.int .u8 28), .lit (.int .u8 3), .lit (.int .u8 61), .lit (.int .u8 58), .lit (.int .u8 42), .lit (.int .u8 50), .lit (.int .u8 38), .lit (.int .u8 29), .lit (.int .u8 17), .lit (.int .u8 4), .lit (.int .u8 62), .lit (.int .u8 47), .lit (.int .u8 59), .lit (.int .u8 36), .lit (.int .u8 45), .lit (.int .u8 43), .lit (.int .u8 51), .lit (.int .u8 22), .lit (.int .u8 53), .lit (.int .u8 39), .lit (.int .u8 33), .lit (.int .u8 30), .lit (.int .u8 24), .lit (.int .u8 18), .lit (.int .u8 12), .lit (.int .u8 5), .lit (.int .u8 63), .lit (.int .u8 55), .lit (.int .u8 48), .lit (.int .u8 27), .lit (.int .u8 60), .lit (.int .u8 41), .lit (.int .u8 37), .lit (.int .u8 16), .lit (.int .u8 46), .lit (.int .u8 35), .lit (.int .u8 44), .lit (.int .u8 21), .lit (.int .u8 52), .lit (.int .u8 32), .lit (.int .u8 23), .lit (.int .u8 11), .lit (.int .u8 54), .lit (.int .u8 26), .lit (.int .u8 40), .lit (.int .u8 15), .lit (.int .u8 34), .lit (.int .u8 20), .lit (.int .u8 31), .lit (.int .u8 10), .lit (.int .u8 25), .lit (.int .u8 14), .lit (.int .u8 19), .lit (.int .u8 9), .lit (.int .u8 13), .lit (.int .u8 8), .lit (.int .u8 7), .lit (.int .u8 6)]
def laid_internal_strconv_uint64pow10 {H : Type} : DataW H := .agg [.lit (.int .u64 1), .lit (.int .u64 10), .lit (.int .u64 100), .lit (.int .u64 1000), .lit (.int .u64 10000), .lit (.int .u64 100000), .lit (.int .u64 1000000), .lit (.int .u64 10000000), .lit (.int .u64 100000000), .lit (.int .u64 1000000000), .lit (.int .u64 10000000000), .lit (.int .u64 100000000000), .lit (.int .u64 1000000000000), .lit (.int .u64 10000000000000), .lit (.int .u64 100000000000000), .lit (.int .u64 1000000000000000), .lit (.int .u64 10000000000000000), .lit (.int .u64 100000000000000000), .lit (.int .u64 1000000000000000000), .lit (.int .u64 10000000000000000000)]

/-- 'gangerlaw06.IndexesParses': WHATEVER THE INPUT: true; the input reads as it did. -/
def indexesParsesSpec : ChangeSpec := { name := "indexesParses", fn := fun _ => fun
  | [d] => { results := [.lit (.bool true)], args := [d] }
  | _ => none }
def indexesParsesRow : OpenClaim := { program := "ytpkococfmohmiaadoor", sum := "15df7e0ea781e6d191753f9b377a947c5aa8afa2d0ffbeb11fc471d724e96989", func := "ganger/gangerlaw06.IndexesParses", spec := "indexesParses", inPlace := ["internal/abi.NoEscape", "internal/bytealg.MakeNoZero"], named := ["internal/strconv.uint64pow10", "math/bits.deBruijn32tab", "math/bits.deBruijn64tab"], apart := false, laid := [("math/bits.deBruijn32tab", laid_math_bits_deBruijn32tab), ("math/bits.deBruijn64tab", laid_math_bits_deBruijn64tab), ("internal/strconv.uint64pow10", laid_internal_strconv_uint64pow10)] }
def IndexesParsesSaid : Prop := indexesParsesRow.holds Tryd.pinned (OpenSpec.ofChange indexesParsesSpec)

/-- ITS FALSE NEIGHBOUR: 'it returns false'. Refute it at one input. -/
def indexesParsesWrong : ChangeSpec := { name := "indexesParses", fn := fun _ => fun
  | [d] => { results := [.lit (.bool false)], args := [d] }
  | _ => none }
def IndexesParsesWrongFalsely : Prop := indexesParsesRow.holds Tryd.pinned (OpenSpec.ofChange indexesParsesWrong)

/-- 'gangerlaw06.IndexesPrints': WHATEVER THE INPUT: true; the input reads as it did. -/
def indexesPrintsSpec : ChangeSpec := { name := "indexesPrints", fn := fun _ => fun
  | [d] => { results := [.lit (.bool true)], args := [d] }
  | _ => none }
def indexesPrintsRow : OpenClaim := { program := "ytpkococfmohmiaadoor", sum := "15df7e0ea781e6d191753f9b377a947c5aa8afa2d0ffbeb11fc471d724e96989", func := "ganger/gangerlaw06.IndexesPrints", spec := "indexesPrints", inPlace := ["internal/abi.NoEscape", "internal/bytealg.MakeNoZero"], recurses := true, named := ["internal/strconv.uint64pow10", "math/bits.deBruijn32tab", "math/bits.deBruijn64tab"], apart := false, laid := [("math/bits.deBruijn32tab", laid_math_bits_deBruijn32tab), ("math/bits.deBruijn64tab", laid_math_bits_deBruijn64tab), ("internal/strconv.uint64pow10", laid_internal_strconv_uint64pow10)] }
def IndexesPrintsSaid : Prop := indexesPrintsRow.holds Tryd.pinned (OpenSpec.ofChange indexesPrintsSpec)

/-- ITS FALSE NEIGHBOUR: 'it returns false'. Refute it at one input. -/
def indexesPrintsWrong : ChangeSpec := { name := "indexesPrints", fn := fun _ => fun
  | [d] => { results := [.lit (.bool false)], args := [d] }
  | _ => none }
def IndexesPrintsWrongFalsely : Prop := indexesPrintsRow.holds Tryd.pinned (OpenSpec.ofChange indexesPrintsWrong)

/-- 'gangerlaw06.IndexesBack': WHATEVER THE INPUT: true; the input reads as it did. -/
def indexesBackSpec : ChangeSpec := { name := "indexesBack", fn := fun _ => fun
  | [d1, d2] => { results := [.lit (.bool true)], args := [d1, d2] }
  | _ => none }
def indexesBackRow : OpenClaim := { program := "ytpkococfmohmiaadoor", sum := "15df7e0ea781e6d191753f9b377a947c5aa8afa2d0ffbeb11fc471d724e96989", func := "ganger/gangerlaw06.IndexesBack", spec := "indexesBack", inPlace := ["internal/abi.NoEscape", "internal/bytealg.MakeNoZero"], named := ["internal/strconv.uint64pow10", "math/bits.deBruijn32tab", "math/bits.deBruijn64tab"], apart := false, laid := [("math/bits.deBruijn32tab", laid_math_bits_deBruijn32tab), ("math/bits.deBruijn64tab", laid_math_bits_deBruijn64tab), ("internal/strconv.uint64pow10", laid_internal_strconv_uint64pow10)] }
def IndexesBackSaid : Prop := indexesBackRow.holds Tryd.pinned (OpenSpec.ofChange indexesBackSpec)

/-- ITS FALSE NEIGHBOUR: 'it returns false'. Refute it at one input. -/
def indexesBackWrong : ChangeSpec := { name := "indexesBack", fn := fun _ => fun
  | [d1, d2] => { results := [.lit (.bool false)], args := [d1, d2] }
  | _ => none }
def IndexesBackWrongFalsely : Prop := indexesBackRow.holds Tryd.pinned (OpenSpec.ofChange indexesBackWrong)

/-- 'gangerlaw06.IndexesJoins': WHATEVER THE INPUT: true; the input reads as it did. -/
def indexesJoinsSpec : ChangeSpec := { name := "indexesJoins", fn := fun _ => fun
  | [d1, d2] => { results := [.lit (.bool true)], args := [d1, d2] }
  | _ => none }
def indexesJoinsRow : OpenClaim := { program := "ytpkococfmohmiaadoor", sum := "15df7e0ea781e6d191753f9b377a947c5aa8afa2d0ffbeb11fc471d724e96989", func := "ganger/gangerlaw06.IndexesJoins", spec := "indexesJoins", inPlace := ["internal/abi.NoEscape", "internal/bytealg.MakeNoZero"], named := ["internal/strconv.uint64pow10", "math/bits.deBruijn32tab", "math/bits.deBruijn64tab"], apart := false, laid := [("math/bits.deBruijn32tab", laid_math_bits_deBruijn32tab), ("math/bits.deBruijn64tab", laid_math_bits_deBruijn64tab), ("internal/strconv.uint64pow10", laid_internal_strconv_uint64pow10)] }
def IndexesJoinsSaid : Prop := indexesJoinsRow.holds Tryd.pinned (OpenSpec.ofChange indexesJoinsSpec)

/-- ITS FALSE NEIGHBOUR: 'it returns false'. Refute it at one input. -/
def indexesJoinsWrong : ChangeSpec := { name := "indexesJoins", fn := fun _ => fun
  | [d1, d2] => { results := [.lit (.bool false)], args := [d1, d2] }
  | _ => none }
def IndexesJoinsWrongFalsely : Prop := indexesJoinsRow.holds Tryd.pinned (OpenSpec.ofChange indexesJoinsWrong)

/-- 'gangerlaw06.IndexesRuns': WHATEVER THE INPUT: true; the input reads as it did. -/
def indexesRunsSpec : ChangeSpec := { name := "indexesRuns", fn := fun _ => fun
  | [d1, d2, d3] => { results := [.lit (.bool true)], args := [d1, d2, d3] }
  | _ => none }
def indexesRunsRow : OpenClaim := { program := "ytpkococfmohmiaadoor", sum := "15df7e0ea781e6d191753f9b377a947c5aa8afa2d0ffbeb11fc471d724e96989", func := "ganger/gangerlaw06.IndexesRuns", spec := "indexesRuns", inPlace := ["internal/abi.NoEscape", "internal/bytealg.MakeNoZero"], recurses := true, named := ["internal/strconv.uint64pow10", "math/bits.deBruijn32tab", "math/bits.deBruijn64tab"], apart := false, laid := [("math/bits.deBruijn32tab", laid_math_bits_deBruijn32tab), ("math/bits.deBruijn64tab", laid_math_bits_deBruijn64tab), ("internal/strconv.uint64pow10", laid_internal_strconv_uint64pow10)] }
def IndexesRunsSaid : Prop := indexesRunsRow.holds Tryd.pinned (OpenSpec.ofChange indexesRunsSpec)

/-- ITS FALSE NEIGHBOUR: 'it returns false'. Refute it at one input. -/
def indexesRunsWrong : ChangeSpec := { name := "indexesRuns", fn := fun _ => fun
  | [d1, d2, d3] => { results := [.lit (.bool false)], args := [d1, d2, d3] }
  | _ => none }
def IndexesRunsWrongFalsely : Prop := indexesRunsRow.holds Tryd.pinned (OpenSpec.ofChange indexesRunsWrong)

/-- 'gangerlaw06.IndexesFirst': WHATEVER THE INPUT: true; the input reads as it did. -/
def indexesFirstSpec : ChangeSpec := { name := "indexesFirst", fn := fun _ => fun
  | [d1, d2, d3] => { results := [.lit (.bool true)], args := [d1, d2, d3] }
  | _ => none }
def indexesFirstRow : OpenClaim := { program := "ytpkococfmohmiaadoor", sum := "15df7e0ea781e6d191753f9b377a947c5aa8afa2d0ffbeb11fc471d724e96989", func := "ganger/gangerlaw06.IndexesFirst", spec := "indexesFirst", inPlace := ["internal/abi.NoEscape", "internal/bytealg.MakeNoZero"], named := ["internal/strconv.uint64pow10", "math/bits.deBruijn32tab", "math/bits.deBruijn64tab"], apart := false, laid := [("math/bits.deBruijn32tab", laid_math_bits_deBruijn32tab), ("math/bits.deBruijn64tab", laid_math_bits_deBruijn64tab), ("internal/strconv.uint64pow10", laid_internal_strconv_uint64pow10)] }
def IndexesFirstSaid : Prop := indexesFirstRow.holds Tryd.pinned (OpenSpec.ofChange indexesFirstSpec)

/-- ITS FALSE NEIGHBOUR: 'it returns false'. Refute it at one input. -/
def indexesFirstWrong : ChangeSpec := { name := "indexesFirst", fn := fun _ => fun
  | [d1, d2, d3] => { results := [.lit (.bool false)], args := [d1, d2, d3] }
  | _ => none }
def IndexesFirstWrongFalsely : Prop := indexesFirstRow.holds Tryd.pinned (OpenSpec.ofChange indexesFirstWrong)

/-- 'gangerlaw06.IndexesCounts': WHATEVER THE INPUT: true; the input reads as it did. -/
def indexesCountsSpec : ChangeSpec := { name := "indexesCounts", fn := fun _ => fun
  | [d1, d2, d3, d4] => { results := [.lit (.bool true)], args := [d1, d2, d3, d4] }
  | _ => none }
def indexesCountsRow : OpenClaim := { program := "ytpkococfmohmiaadoor", sum := "15df7e0ea781e6d191753f9b377a947c5aa8afa2d0ffbeb11fc471d724e96989", func := "ganger/gangerlaw06.IndexesCounts", spec := "indexesCounts", inPlace := ["internal/abi.NoEscape", "internal/bytealg.MakeNoZero"], recurses := true, named := ["internal/strconv.uint64pow10", "math/bits.deBruijn32tab", "math/bits.deBruijn64tab"], apart := false, laid := [("math/bits.deBruijn32tab", laid_math_bits_deBruijn32tab), ("math/bits.deBruijn64tab", laid_math_bits_deBruijn64tab), ("internal/strconv.uint64pow10", laid_internal_strconv_uint64pow10)] }
def IndexesCountsSaid : Prop := indexesCountsRow.holds Tryd.pinned (OpenSpec.ofChange indexesCountsSpec)

/-- ITS FALSE NEIGHBOUR: 'it returns false'. Refute it at one input. -/
def indexesCountsWrong : ChangeSpec := { name := "indexesCounts", fn := fun _ => fun
  | [d1, d2, d3, d4] => { results := [.lit (.bool false)], args := [d1, d2, d3, d4] }
  | _ => none }
def IndexesCountsWrongFalsely : Prop := indexesCountsRow.holds Tryd.pinned (OpenSpec.ofChange indexesCountsWrong)

/- THE SECOND FORM. 'bulk': how many values and letters a reading holds, each counted each time it is reached (what is shared counts as often as it is met; a slice's spare places count too). A statement '..UptoSaid' is the law's where the arguments, and the package variables that the reading takes, are together of bulk at most 1048576: NARROWER than '..Said'. Prove '..Said' where nothing that the law and all that it calls make is longer than what came in: it says more and counts as full. Else prove '..UptoSaid'. A law counts once. -/
mutual
def uptoBulk {H : Type} : DataW H → Nat
  | .lit (.string bytes) => bytes.length + 1
  | .lit _ => 1
  | .nil => 1
  | .ptr d => uptoBulk d + 1
  | .slice elems spare => uptoBulkAll elems + uptoBulkAll spare + 1
  | .agg parts => uptoBulkAll parts + 1
  | .iface _ d => uptoBulk d + 1
  | .map entries => uptoBulkEntries entries + 1
  | .held _ => 1
def uptoBulkAll {H : Type} : List (DataW H) → Nat
  | [] => 0
  | d :: r => uptoBulk d + uptoBulkAll r
def uptoBulkEntries {H : Type} : List (Lit × DataW H) → Nat
  | [] => 0
  | x :: r => uptoBulkEntry x + uptoBulkEntries r
def uptoBulkEntry {H : Type} : Lit × DataW H → Nat
  | (.string bytes, d) => bytes.length + uptoBulk d + 1
  | (_, d) => uptoBulk d + 1
 end
def uptoSmall : (H : Type) → List (DataW H) → Bool := fun _ ds => decide (uptoBulkAll ds ≤ 1048576)
def OpenSpec.upto (s : _root_.Go.ChangeSpec) : _root_.Go.OpenSpec := { _root_.Go.OpenSpec.ofChange s with cond := some uptoSmall }

/-- 'gangerlaw06.IndexesParses', WHERE WHAT IT READS IS OF BULK AT MOST 1048576: true; the input reads as it did. -/
def indexesParsesUptoRow : OpenClaim := { program := "ytpkococfmohmiaadoor", sum := "15df7e0ea781e6d191753f9b377a947c5aa8afa2d0ffbeb11fc471d724e96989", func := "ganger/gangerlaw06.IndexesParses", spec := "indexesParses", inPlace := ["internal/abi.NoEscape", "internal/bytealg.MakeNoZero"], named := ["internal/strconv.uint64pow10", "math/bits.deBruijn32tab", "math/bits.deBruijn64tab"], apart := false, laid := [("math/bits.deBruijn32tab", laid_math_bits_deBruijn32tab), ("math/bits.deBruijn64tab", laid_math_bits_deBruijn64tab), ("internal/strconv.uint64pow10", laid_internal_strconv_uint64pow10)], narrowed := true }
def IndexesParsesUptoSaid : Prop := indexesParsesUptoRow.holds Tryd.pinned (OpenSpec.upto indexesParsesSpec)

/-- 'gangerlaw06.IndexesPrints', WHERE WHAT IT READS IS OF BULK AT MOST 1048576: true; the input reads as it did. -/
def indexesPrintsUptoRow : OpenClaim := { program := "ytpkococfmohmiaadoor", sum := "15df7e0ea781e6d191753f9b377a947c5aa8afa2d0ffbeb11fc471d724e96989", func := "ganger/gangerlaw06.IndexesPrints", spec := "indexesPrints", inPlace := ["internal/abi.NoEscape", "internal/bytealg.MakeNoZero"], recurses := true, named := ["internal/strconv.uint64pow10", "math/bits.deBruijn32tab", "math/bits.deBruijn64tab"], apart := false, laid := [("math/bits.deBruijn32tab", laid_math_bits_deBruijn32tab), ("math/bits.deBruijn64tab", laid_math_bits_deBruijn64tab), ("internal/strconv.uint64pow10", laid_internal_strconv_uint64pow10)], narrowed := true }
def IndexesPrintsUptoSaid : Prop := indexesPrintsUptoRow.holds Tryd.pinned (OpenSpec.upto indexesPrintsSpec)

/-- 'gangerlaw06.IndexesBack', WHERE WHAT IT READS IS OF BULK AT MOST 1048576: true; the input reads as it did. -/
def indexesBackUptoRow : OpenClaim := { program := "ytpkococfmohmiaadoor", sum := "15df7e0ea781e6d191753f9b377a947c5aa8afa2d0ffbeb11fc471d724e96989", func := "ganger/gangerlaw06.IndexesBack", spec := "indexesBack", inPlace := ["internal/abi.NoEscape", "internal/bytealg.MakeNoZero"], named := ["internal/strconv.uint64pow10", "math/bits.deBruijn32tab", "math/bits.deBruijn64tab"], apart := false, laid := [("math/bits.deBruijn32tab", laid_math_bits_deBruijn32tab), ("math/bits.deBruijn64tab", laid_math_bits_deBruijn64tab), ("internal/strconv.uint64pow10", laid_internal_strconv_uint64pow10)], narrowed := true }
def IndexesBackUptoSaid : Prop := indexesBackUptoRow.holds Tryd.pinned (OpenSpec.upto indexesBackSpec)

/-- 'gangerlaw06.IndexesJoins', WHERE WHAT IT READS IS OF BULK AT MOST 1048576: true; the input reads as it did. -/
def indexesJoinsUptoRow : OpenClaim := { program := "ytpkococfmohmiaadoor", sum := "15df7e0ea781e6d191753f9b377a947c5aa8afa2d0ffbeb11fc471d724e96989", func := "ganger/gangerlaw06.IndexesJoins", spec := "indexesJoins", inPlace := ["internal/abi.NoEscape", "internal/bytealg.MakeNoZero"], named := ["internal/strconv.uint64pow10", "math/bits.deBruijn32tab", "math/bits.deBruijn64tab"], apart := false, laid := [("math/bits.deBruijn32tab", laid_math_bits_deBruijn32tab), ("math/bits.deBruijn64tab", laid_math_bits_deBruijn64tab), ("internal/strconv.uint64pow10", laid_internal_strconv_uint64pow10)], narrowed := true }
def IndexesJoinsUptoSaid : Prop := indexesJoinsUptoRow.holds Tryd.pinned (OpenSpec.upto indexesJoinsSpec)

/-- 'gangerlaw06.IndexesRuns', WHERE WHAT IT READS IS OF BULK AT MOST 1048576: true; the input reads as it did. -/
def indexesRunsUptoRow : OpenClaim := { program := "ytpkococfmohmiaadoor", sum := "15df7e0ea781e6d191753f9b377a947c5aa8afa2d0ffbeb11fc471d724e96989", func := "ganger/gangerlaw06.IndexesRuns", spec := "indexesRuns", inPlace := ["internal/abi.NoEscape", "internal/bytealg.MakeNoZero"], recurses := true, named := ["internal/strconv.uint64pow10", "math/bits.deBruijn32tab", "math/bits.deBruijn64tab"], apart := false, laid := [("math/bits.deBruijn32tab", laid_math_bits_deBruijn32tab), ("math/bits.deBruijn64tab", laid_math_bits_deBruijn64tab), ("internal/strconv.uint64pow10", laid_internal_strconv_uint64pow10)], narrowed := true }
def IndexesRunsUptoSaid : Prop := indexesRunsUptoRow.holds Tryd.pinned (OpenSpec.upto indexesRunsSpec)

/-- 'gangerlaw06.IndexesFirst', WHERE WHAT IT READS IS OF BULK AT MOST 1048576: true; the input reads as it did. -/
def indexesFirstUptoRow : OpenClaim := { program := "ytpkococfmohmiaadoor", sum := "15df7e0ea781e6d191753f9b377a947c5aa8afa2d0ffbeb11fc471d724e96989", func := "ganger/gangerlaw06.IndexesFirst", spec := "indexesFirst", inPlace := ["internal/abi.NoEscape", "internal/bytealg.MakeNoZero"], named := ["internal/strconv.uint64pow10", "math/bits.deBruijn32tab", "math/bits.deBruijn64tab"], apart := false, laid := [("math/bits.deBruijn32tab", laid_math_bits_deBruijn32tab), ("math/bits.deBruijn64tab", laid_math_bits_deBruijn64tab), ("internal/strconv.uint64pow10", laid_internal_strconv_uint64pow10)], narrowed := true }
def IndexesFirstUptoSaid : Prop := indexesFirstUptoRow.holds Tryd.pinned (OpenSpec.upto indexesFirstSpec)

/-- 'gangerlaw06.IndexesCounts', WHERE WHAT IT READS IS OF BULK AT MOST 1048576: true; the input reads as it did. -/
def indexesCountsUptoRow : OpenClaim := { program := "ytpkococfmohmiaadoor", sum := "15df7e0ea781e6d191753f9b377a947c5aa8afa2d0ffbeb11fc471d724e96989", func := "ganger/gangerlaw06.IndexesCounts", spec := "indexesCounts", inPlace := ["internal/abi.NoEscape", "internal/bytealg.MakeNoZero"], recurses := true, named := ["internal/strconv.uint64pow10", "math/bits.deBruijn32tab", "math/bits.deBruijn64tab"], apart := false, laid := [("math/bits.deBruijn32tab", laid_math_bits_deBruijn32tab), ("math/bits.deBruijn64tab", laid_math_bits_deBruijn64tab), ("internal/strconv.uint64pow10", laid_internal_strconv_uint64pow10)], narrowed := true }
def IndexesCountsUptoSaid : Prop := indexesCountsUptoRow.holds Tryd.pinned (OpenSpec.upto indexesCountsSpec)

end Rows
end Go.Proofs.YtpkococfmohmiaaDoor
