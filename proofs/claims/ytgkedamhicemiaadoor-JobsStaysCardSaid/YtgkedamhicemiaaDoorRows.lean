/-
  NARROWER THAN 'FOR EVERY INPUT', by the rows' own cells (each row's printed sentence says how): JobsAdmits: laid · JobsRuns: laid · JobsStays: laid · JobsStates: laid · JobsArrays: laid · JobsNil: laid.
  DERIVED. THE GIVEN ROWS OF THIS SEAT. 6 by the template 'for every input the law returns true; each argument reads behind the call as it read before'; 0 by the template 'total and deterministic' (their statements: YtgkedamhicemiaaDoorTotals.lean).
  GIVEN WITH THE SEED: the statements are not yours to turn. If you find one false, say at which input.
  Laid BY PROGRAM, IN A SANDBOX (cutbox-rows.mjs): the forced cells as the released guide's own fill.sh prints them over the translation f8a3196649a7d13c… (all of the seat's roots in one cut). By AI agents, Wed Nov 11 2026. No macro, syntax, notation, axiom, sorry.
-/
import Derived.Test.YtgkedamhicemiaaDoorChecked
import GoSem.PinnedTables
import GoSem.Claim
import GoSem.ClaimJoined
import GoSem.ClaimMapViews
import Derived.JoinedTies
import Derived.KernelRfl
namespace Go.Proofs.YtgkedamhicemiaaDoor
/- THE CELL 'sum', in the pinned program and in every row, IS THE sha256 OF THE DUMP (.gsa) THAT YtgkedamhicemiaaDoorProg.lean LOADS. Nothing in Lean hashes anything: it is a label: what it is worth is what the hold of that sum in a sandbox is worth. -/
noncomputable def Tryd.pinned : Pinned := { name := "ytgkedamhicemiaadoor", sum := "f8a3196649a7d13cde160359436329206b23784a36e1948665779eb07baf7a5c", checked := Tryd.checked }
namespace Rows
def none {H : Type} : Left H := { results := [], args := [] }

/- WHAT THE LISTED PACKAGE-LEVEL VARIABLES READ AS WHEN THE CALL BEGINS. Each datum BY PROGRAM (the guide's laid-datum.mjs) off the statement by which the dump's own 'gosem.cut.vars' lays the variable. In a bare row this is a premise. The card (YtgkedamhicemiaaDoorCards.lean) ties it to the program's text. -/
def laid_unicode_utf8_acceptRanges {H : Type} : DataW H := .agg [.agg [.lit (.int .u8 128), .lit (.int .u8 191)], .agg [.lit (.int .u8 160), .lit (.int .u8 191)], .agg [.lit (.int .u8 128), .lit (.int .u8 159)], .agg [.lit (.int .u8 144), .lit (.int .u8 191)], .agg [.lit (.int .u8 128), .lit (.int .u8 143)], .agg [.lit (.int .u8 0), .lit (.int .u8 0)], .agg [.lit (.int .u8 0), .lit (.int .u8 0)], .agg [.lit (.int .u8 0), .lit (.int .u8 0)], .agg [.lit (.int .u8 0), .lit (.int .u8 0)], .agg [.lit (.int .u8 0), .lit (.int .u8 0)], .agg [.lit (.int .u8 0), .lit (.int .u8 0)], .agg [.lit (.int .u8 0), .lit (.int .u8 0)], .agg [.lit (.int .u8 0), .lit (.int .u8 0)], .agg [.lit (.int .u8 0), .lit (.int .u8 0)], .agg [.lit (.int .u8 0), .lit (.int .u8 0)], .agg [.lit (.int .u8 0), .lit (.int .u8 0)]]
/-- One of Go's own tables, pinned by name: the form's constant. -/
def laid_unicode_utf8_first : DataW Unit := Go.Pinned.utf8First

/-- 'gangerlaw13.JobsAdmits': WHATEVER THE INPUT: true; the input reads as it did. -/
def jobsAdmitsSpec : ChangeSpec := { name := "jobsAdmits", fn := fun _ => fun
  | [d1, d2, d3] => { results := [.lit (.bool true)], args := [d1, d2, d3] }
  | _ => none }
def jobsAdmitsRow : OpenClaim := { program := "ytgkedamhicemiaadoor", sum := "f8a3196649a7d13cde160359436329206b23784a36e1948665779eb07baf7a5c", func := "ganger/gangerlaw13.JobsAdmits", spec := "jobsAdmits", unfollowed := true, recurses := true, named := ["unicode/utf8.first", "unicode/utf8.acceptRanges"], apart := false, laid := [("unicode/utf8.acceptRanges", laid_unicode_utf8_acceptRanges), ("unicode/utf8.first", laid_unicode_utf8_first)] }
def JobsAdmitsSaid : Prop := jobsAdmitsRow.holds Tryd.pinned (OpenSpec.ofChange jobsAdmitsSpec)

/-- ITS FALSE NEIGHBOUR: 'it returns false'. Refute it at one input. -/
def jobsAdmitsWrong : ChangeSpec := { name := "jobsAdmits", fn := fun _ => fun
  | [d1, d2, d3] => { results := [.lit (.bool false)], args := [d1, d2, d3] }
  | _ => none }
def JobsAdmitsWrongFalsely : Prop := jobsAdmitsRow.holds Tryd.pinned (OpenSpec.ofChange jobsAdmitsWrong)

/-- 'gangerlaw13.JobsRuns': WHATEVER THE INPUT: true; the input reads as it did. -/
def jobsRunsSpec : ChangeSpec := { name := "jobsRuns", fn := fun _ => fun
  | [d1, d2] => { results := [.lit (.bool true)], args := [d1, d2] }
  | _ => none }
def jobsRunsRow : OpenClaim := { program := "ytgkedamhicemiaadoor", sum := "f8a3196649a7d13cde160359436329206b23784a36e1948665779eb07baf7a5c", func := "ganger/gangerlaw13.JobsRuns", spec := "jobsRuns", unfollowed := true, recurses := true, named := ["unicode/utf8.first", "unicode/utf8.acceptRanges"], apart := false, laid := [("unicode/utf8.acceptRanges", laid_unicode_utf8_acceptRanges), ("unicode/utf8.first", laid_unicode_utf8_first)] }
def JobsRunsSaid : Prop := jobsRunsRow.holds Tryd.pinned (OpenSpec.ofChange jobsRunsSpec)

/-- ITS FALSE NEIGHBOUR: 'it returns false'. Refute it at one input. -/
def jobsRunsWrong : ChangeSpec := { name := "jobsRuns", fn := fun _ => fun
  | [d1, d2] => { results := [.lit (.bool false)], args := [d1, d2] }
  | _ => none }
def JobsRunsWrongFalsely : Prop := jobsRunsRow.holds Tryd.pinned (OpenSpec.ofChange jobsRunsWrong)

/-- 'gangerlaw13.JobsStays': WHATEVER THE INPUT: true; the input reads as it did. -/
def jobsStaysSpec : ChangeSpec := { name := "jobsStays", fn := fun _ => fun
  | [d1, d2] => { results := [.lit (.bool true)], args := [d1, d2] }
  | _ => none }
def jobsStaysRow : OpenClaim := { program := "ytgkedamhicemiaadoor", sum := "f8a3196649a7d13cde160359436329206b23784a36e1948665779eb07baf7a5c", func := "ganger/gangerlaw13.JobsStays", spec := "jobsStays", unfollowed := true, recurses := true, named := ["unicode/utf8.first", "unicode/utf8.acceptRanges"], apart := false, laid := [("unicode/utf8.acceptRanges", laid_unicode_utf8_acceptRanges), ("unicode/utf8.first", laid_unicode_utf8_first)] }
def JobsStaysSaid : Prop := jobsStaysRow.holds Tryd.pinned (OpenSpec.ofChange jobsStaysSpec)

/-- ITS FALSE NEIGHBOUR: 'it returns false'. Refute it at one input. -/
def jobsStaysWrong : ChangeSpec := { name := "jobsStays", fn := fun _ => fun
  | [d1, d2] => { results := [.lit (.bool false)], args := [d1, d2] }
  | _ => none }
def JobsStaysWrongFalsely : Prop := jobsStaysRow.holds Tryd.pinned (OpenSpec.ofChange jobsStaysWrong)

/-- 'gangerlaw13.JobsStates': WHATEVER THE INPUT: true; the input reads as it did. -/
def jobsStatesSpec : ChangeSpec := { name := "jobsStates", fn := fun _ => fun
  | [d1, d2] => { results := [.lit (.bool true)], args := [d1, d2] }
  | _ => none }
def jobsStatesRow : OpenClaim := { program := "ytgkedamhicemiaadoor", sum := "f8a3196649a7d13cde160359436329206b23784a36e1948665779eb07baf7a5c", func := "ganger/gangerlaw13.JobsStates", spec := "jobsStates", unfollowed := true, recurses := true, named := ["unicode/utf8.first", "unicode/utf8.acceptRanges"], apart := false, laid := [("unicode/utf8.acceptRanges", laid_unicode_utf8_acceptRanges), ("unicode/utf8.first", laid_unicode_utf8_first)] }
def JobsStatesSaid : Prop := jobsStatesRow.holds Tryd.pinned (OpenSpec.ofChange jobsStatesSpec)

/-- ITS FALSE NEIGHBOUR: 'it returns false'. Refute it at one input. -/
def jobsStatesWrong : ChangeSpec := { name := "jobsStates", fn := fun _ => fun
  | [d1, d2] => { results := [.lit (.bool false)], args := [d1, d2] }
  | _ => none }
def JobsStatesWrongFalsely : Prop := jobsStatesRow.holds Tryd.pinned (OpenSpec.ofChange jobsStatesWrong)

/-- 'gangerlaw13.JobsArrays': WHATEVER THE INPUT: true; the input reads as it did. -/
def jobsArraysSpec : ChangeSpec := { name := "jobsArrays", fn := fun _ => fun
  | [d1, d2, d3] => { results := [.lit (.bool true)], args := [d1, d2, d3] }
  | _ => none }
def jobsArraysRow : OpenClaim := { program := "ytgkedamhicemiaadoor", sum := "f8a3196649a7d13cde160359436329206b23784a36e1948665779eb07baf7a5c", func := "ganger/gangerlaw13.JobsArrays", spec := "jobsArrays", unfollowed := true, recurses := true, named := ["unicode/utf8.first", "unicode/utf8.acceptRanges"], apart := false, laid := [("unicode/utf8.acceptRanges", laid_unicode_utf8_acceptRanges), ("unicode/utf8.first", laid_unicode_utf8_first)] }
def JobsArraysSaid : Prop := jobsArraysRow.holds Tryd.pinned (OpenSpec.ofChange jobsArraysSpec)

/-- ITS FALSE NEIGHBOUR: 'it returns false'. Refute it at one input. -/
def jobsArraysWrong : ChangeSpec := { name := "jobsArrays", fn := fun _ => fun
  | [d1, d2, d3] => { results := [.lit (.bool false)], args := [d1, d2, d3] }
  | _ => none }
def JobsArraysWrongFalsely : Prop := jobsArraysRow.holds Tryd.pinned (OpenSpec.ofChange jobsArraysWrong)

/-- 'gangerlaw13.JobsNil': WHATEVER THE INPUT: true; the input reads as it did. -/
def jobsNilSpec : ChangeSpec := { name := "jobsNil", fn := fun _ => fun
  | [d1, d2] => { results := [.lit (.bool true)], args := [d1, d2] }
  | _ => none }
def jobsNilRow : OpenClaim := { program := "ytgkedamhicemiaadoor", sum := "f8a3196649a7d13cde160359436329206b23784a36e1948665779eb07baf7a5c", func := "ganger/gangerlaw13.JobsNil", spec := "jobsNil", unfollowed := true, recurses := true, named := ["unicode/utf8.first", "unicode/utf8.acceptRanges"], apart := false, laid := [("unicode/utf8.acceptRanges", laid_unicode_utf8_acceptRanges), ("unicode/utf8.first", laid_unicode_utf8_first)] }
def JobsNilSaid : Prop := jobsNilRow.holds Tryd.pinned (OpenSpec.ofChange jobsNilSpec)

/-- ITS FALSE NEIGHBOUR: 'it returns false'. Refute it at one input. -/
def jobsNilWrong : ChangeSpec := { name := "jobsNil", fn := fun _ => fun
  | [d1, d2] => { results := [.lit (.bool false)], args := [d1, d2] }
  | _ => none }
def JobsNilWrongFalsely : Prop := jobsNilRow.holds Tryd.pinned (OpenSpec.ofChange jobsNilWrong)

/- THE SECOND FORM. 'bulk': how many values and letters a reading holds, each counted each time it is reached (what is shared counts as often as it is met; a slice's spare places count too). A statement '..UptoSaid' is the law's where the arguments, and the package variables that the reading takes, are together of bulk at most 1048576: NARROWER than '..Said'. Prove '..Said' where nothing that the law and all that it calls make is longer than what came in: it says more and counts as full. Else prove '..UptoSaid'. A law counts once. -/
mutual
def uptoBulk {H : Type} : DataW H → Nat
  | .lit (.string bytes) => bytes.length + 1
  | .lit _ => 1
  | .nil => 1
  | .ptr d => uptoBulk d + 1
  | .slice elems spare => uptoBulkAll elems + uptoBulkAll spare + 1
  | .agg parts => uptoBulkAll parts + 1
  | .iface _ d => uptoBulk d + 1
  | .map entries => uptoBulkEntries entries + 1
  | .held _ => 1
def uptoBulkAll {H : Type} : List (DataW H) → Nat
  | [] => 0
  | d :: r => uptoBulk d + uptoBulkAll r
def uptoBulkEntries {H : Type} : List (Lit × DataW H) → Nat
  | [] => 0
  | x :: r => uptoBulkEntry x + uptoBulkEntries r
def uptoBulkEntry {H : Type} : Lit × DataW H → Nat
  | (.string bytes, d) => bytes.length + uptoBulk d + 1
  | (_, d) => uptoBulk d + 1
 end
def uptoSmall : (H : Type) → List (DataW H) → Bool := fun _ ds => decide (uptoBulkAll ds ≤ 1048576)
def OpenSpec.upto (s : _root_.Go.ChangeSpec) : _root_.Go.OpenSpec := { _root_.Go.OpenSpec.ofChange s with cond := some uptoSmall }

/-- 'gangerlaw13.JobsAdmits', WHERE WHAT IT READS IS OF BULK AT MOST 1048576: true; the input reads as it did. -/
def jobsAdmitsUptoRow : OpenClaim := { program := "ytgkedamhicemiaadoor", sum := "f8a3196649a7d13cde160359436329206b23784a36e1948665779eb07baf7a5c", func := "ganger/gangerlaw13.JobsAdmits", spec := "jobsAdmits", unfollowed := true, recurses := true, named := ["unicode/utf8.first", "unicode/utf8.acceptRanges"], apart := false, laid := [("unicode/utf8.acceptRanges", laid_unicode_utf8_acceptRanges), ("unicode/utf8.first", laid_unicode_utf8_first)], narrowed := true }
def JobsAdmitsUptoSaid : Prop := jobsAdmitsUptoRow.holds Tryd.pinned (OpenSpec.upto jobsAdmitsSpec)

/-- 'gangerlaw13.JobsRuns', WHERE WHAT IT READS IS OF BULK AT MOST 1048576: true; the input reads as it did. -/
def jobsRunsUptoRow : OpenClaim := { program := "ytgkedamhicemiaadoor", sum := "f8a3196649a7d13cde160359436329206b23784a36e1948665779eb07baf7a5c", func := "ganger/gangerlaw13.JobsRuns", spec := "jobsRuns", unfollowed := true, recurses := true, named := ["unicode/utf8.first", "unicode/utf8.acceptRanges"], apart := false, laid := [("unicode/utf8.acceptRanges", laid_unicode_utf8_acceptRanges), ("unicode/utf8.first", laid_unicode_utf8_first)], narrowed := true }
def JobsRunsUptoSaid : Prop := jobsRunsUptoRow.holds Tryd.pinned (OpenSpec.upto jobsRunsSpec)

/-- 'gangerlaw13.JobsStays', WHERE WHAT IT READS IS OF BULK AT MOST 1048576: true; the input reads as it did. -/
def jobsStaysUptoRow : OpenClaim := { program := "ytgkedamhicemiaadoor", sum := "f8a3196649a7d13cde160359436329206b23784a36e1948665779eb07baf7a5c", func := "ganger/gangerlaw13.JobsStays", spec := "jobsStays", unfollowed := true, recurses := true, named := ["unicode/utf8.first", "unicode/utf8.acceptRanges"], apart := false, laid := [("unicode/utf8.acceptRanges", laid_unicode_utf8_acceptRanges), ("unicode/utf8.first", laid_unicode_utf8_first)], narrowed := true }
def JobsStaysUptoSaid : Prop := jobsStaysUptoRow.holds Tryd.pinned (OpenSpec.upto jobsStaysSpec)

/-- 'gangerlaw13.JobsStates', WHERE WHAT IT READS IS OF BULK AT MOST 1048576: true; the input reads as it did. -/
def jobsStatesUptoRow : OpenClaim := { program := "ytgkedamhicemiaadoor", sum := "f8a3196649a7d13cde160359436329206b23784a36e1948665779eb07baf7a5c", func := "ganger/gangerlaw13.JobsStates", spec := "jobsStates", unfollowed := true, recurses := true, named := ["unicode/utf8.first", "unicode/utf8.acceptRanges"], apart := false, laid := [("unicode/utf8.acceptRanges", laid_unicode_utf8_acceptRanges), ("unicode/utf8.first", laid_unicode_utf8_first)], narrowed := true }
def JobsStatesUptoSaid : Prop := jobsStatesUptoRow.holds Tryd.pinned (OpenSpec.upto jobsStatesSpec)

/-- 'gangerlaw13.JobsArrays', WHERE WHAT IT READS IS OF BULK AT MOST 1048576: true; the input reads as it did. -/
def jobsArraysUptoRow : OpenClaim := { program := "ytgkedamhicemiaadoor", sum := "f8a3196649a7d13cde160359436329206b23784a36e1948665779eb07baf7a5c", func := "ganger/gangerlaw13.JobsArrays", spec := "jobsArrays", unfollowed := true, recurses := true, named := ["unicode/utf8.first", "unicode/utf8.acceptRanges"], apart := false, laid := [("unicode/utf8.acceptRanges", laid_unicode_utf8_acceptRanges), ("unicode/utf8.first", laid_unicode_utf8_first)], narrowed := true }
def JobsArraysUptoSaid : Prop := jobsArraysUptoRow.holds Tryd.pinned (OpenSpec.upto jobsArraysSpec)

/-- 'gangerlaw13.JobsNil', WHERE WHAT IT READS IS OF BULK AT MOST 1048576: true; the input reads as it did. -/
def jobsNilUptoRow : OpenClaim := { program := "ytgkedamhicemiaadoor", sum := "f8a3196649a7d13cde160359436329206b23784a36e1948665779eb07baf7a5c", func := "ganger/gangerlaw13.JobsNil", spec := "jobsNil", unfollowed := true, recurses := true, named := ["unicode/utf8.first", "unicode/utf8.acceptRanges"], apart := false, laid := [("unicode/utf8.acceptRanges", laid_unicode_utf8_acceptRanges), ("unicode/utf8.first", laid_unicode_utf8_first)], narrowed := true }
def JobsNilUptoSaid : Prop := jobsNilUptoRow.holds Tryd.pinned (OpenSpec.upto jobsNilSpec)

end Rows
end Go.Proofs.YtgkedamhicemiaaDoor
