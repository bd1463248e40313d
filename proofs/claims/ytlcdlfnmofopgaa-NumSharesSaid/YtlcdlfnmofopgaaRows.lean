/-
  No cell of these rows narrows 'for every input' (looked for: loops, veiled, ifaces, maps, wideKeys, modest, calm, conditions, laid).
  DERIVED. THE GIVEN ROWS OF THIS SEAT. 8 by the template 'for every input the law returns true; each argument reads behind the call as it read before'; 0 by the template 'total and deterministic' (their statements: YtlcdlfnmofopgaaTotals.lean).
  GIVEN WITH THE SEED: the statements are not yours to turn. If you find one false, say at which input.
  Laid BY PROGRAM, IN A SANDBOX (cutbox-rows.mjs): the forced cells as the released guide's own fill.sh prints them over the translation 9ab65abfa9775ecb… (all of the seat's roots in one cut). By AI agents, Wed Nov 11 2026. No macro, syntax, notation, axiom, sorry.
-/
import Derived.Test.YtlcdlfnmofopgaaChecked
import GoSem.Claim
import GoSem.ClaimJoined
import GoSem.ClaimMapViews
import Derived.JoinedTies
import Derived.KernelRfl
namespace Go.Proofs.Ytlcdlfnmofopgaa
/- THE CELL 'sum', in the pinned program and in every row, IS THE sha256 OF THE DUMP (.gsa) THAT YtlcdlfnmofopgaaProg.lean LOADS. Nothing in Lean hashes anything: it is a label: what it is worth is what the hold of that sum in a sandbox is worth. -/
noncomputable def Try.pinned : Pinned := { name := "ytlcdlfnmofopgaa", sum := "9ab65abfa9775ecb84f1aecbe5c3c53fb852f9f1805aa4a04c2d0fb912c37503", checked := Try.checked }
namespace Rows
def none {H : Type} : Left H := { results := [], args := [] }

/-- 'gangerlaw01.NumDivs': WHATEVER THE INPUT: true; the input reads as it did. -/
def numDivsSpec : ChangeSpec := { name := "numDivs", fn := fun _ => fun
  | [d1, d2] => { results := [.lit (.bool true)], args := [d1, d2] }
  | _ => none }
def numDivsRow : OpenClaim := { program := "ytlcdlfnmofopgaa", sum := "9ab65abfa9775ecb84f1aecbe5c3c53fb852f9f1805aa4a04c2d0fb912c37503", func := "ganger/gangerlaw01.NumDivs", spec := "numDivs", named := ["math/bits.divideError", "math/bits.overflowError"], apart := false }
def NumDivsSaid : Prop := numDivsRow.holds Try.pinned (OpenSpec.ofChange numDivsSpec)

/-- ITS FALSE NEIGHBOUR: 'it returns false'. Refute it at one input. -/
def numDivsWrong : ChangeSpec := { name := "numDivs", fn := fun _ => fun
  | [d1, d2] => { results := [.lit (.bool false)], args := [d1, d2] }
  | _ => none }
def NumDivsWrongFalsely : Prop := numDivsRow.holds Try.pinned (OpenSpec.ofChange numDivsWrong)

/-- 'gangerlaw01.NumSums': WHATEVER THE INPUT: true; the input reads as it did. -/
def numSumsSpec : ChangeSpec := { name := "numSums", fn := fun _ => fun
  | [d] => { results := [.lit (.bool true)], args := [d] }
  | _ => none }
def numSumsRow : OpenClaim := { program := "ytlcdlfnmofopgaa", sum := "9ab65abfa9775ecb84f1aecbe5c3c53fb852f9f1805aa4a04c2d0fb912c37503", func := "ganger/gangerlaw01.NumSums", spec := "numSums", named := ["math/bits.divideError", "math/bits.overflowError"], apart := false }
def NumSumsSaid : Prop := numSumsRow.holds Try.pinned (OpenSpec.ofChange numSumsSpec)

/-- ITS FALSE NEIGHBOUR: 'it returns false'. Refute it at one input. -/
def numSumsWrong : ChangeSpec := { name := "numSums", fn := fun _ => fun
  | [d] => { results := [.lit (.bool false)], args := [d] }
  | _ => none }
def NumSumsWrongFalsely : Prop := numSumsRow.holds Try.pinned (OpenSpec.ofChange numSumsWrong)

/-- 'gangerlaw01.NumMulDivs': WHATEVER THE INPUT: true; the input reads as it did. -/
def numMulDivsSpec : ChangeSpec := { name := "numMulDivs", fn := fun _ => fun
  | [d1, d2, d3] => { results := [.lit (.bool true)], args := [d1, d2, d3] }
  | _ => none }
def numMulDivsRow : OpenClaim := { program := "ytlcdlfnmofopgaa", sum := "9ab65abfa9775ecb84f1aecbe5c3c53fb852f9f1805aa4a04c2d0fb912c37503", func := "ganger/gangerlaw01.NumMulDivs", spec := "numMulDivs", named := ["math/bits.divideError", "math/bits.overflowError"], apart := false }
def NumMulDivsSaid : Prop := numMulDivsRow.holds Try.pinned (OpenSpec.ofChange numMulDivsSpec)

/-- ITS FALSE NEIGHBOUR: 'it returns false'. Refute it at one input. -/
def numMulDivsWrong : ChangeSpec := { name := "numMulDivs", fn := fun _ => fun
  | [d1, d2, d3] => { results := [.lit (.bool false)], args := [d1, d2, d3] }
  | _ => none }
def NumMulDivsWrongFalsely : Prop := numMulDivsRow.holds Try.pinned (OpenSpec.ofChange numMulDivsWrong)

/-- 'gangerlaw01.NumShares': WHATEVER THE INPUT: true; the input reads as it did. -/
def numSharesSpec : ChangeSpec := { name := "numShares", fn := fun _ => fun
  | [d1, d2] => { results := [.lit (.bool true)], args := [d1, d2] }
  | _ => none }
def numSharesRow : OpenClaim := { program := "ytlcdlfnmofopgaa", sum := "9ab65abfa9775ecb84f1aecbe5c3c53fb852f9f1805aa4a04c2d0fb912c37503", func := "ganger/gangerlaw01.NumShares", spec := "numShares", named := ["math/bits.divideError", "math/bits.overflowError"], apart := false }
def NumSharesSaid : Prop := numSharesRow.holds Try.pinned (OpenSpec.ofChange numSharesSpec)

/-- ITS FALSE NEIGHBOUR: 'it returns false'. Refute it at one input. -/
def numSharesWrong : ChangeSpec := { name := "numShares", fn := fun _ => fun
  | [d1, d2] => { results := [.lit (.bool false)], args := [d1, d2] }
  | _ => none }
def NumSharesWrongFalsely : Prop := numSharesRow.holds Try.pinned (OpenSpec.ofChange numSharesWrong)

/-- 'gangerlaw01.NumUps': WHATEVER THE INPUT: true; the input reads as it did. -/
def numUpsSpec : ChangeSpec := { name := "numUps", fn := fun _ => fun
  | [d] => { results := [.lit (.bool true)], args := [d] }
  | _ => none }
def numUpsRow : OpenClaim := { program := "ytlcdlfnmofopgaa", sum := "9ab65abfa9775ecb84f1aecbe5c3c53fb852f9f1805aa4a04c2d0fb912c37503", func := "ganger/gangerlaw01.NumUps", spec := "numUps", named := ["math/bits.divideError", "math/bits.overflowError"], apart := false }
def NumUpsSaid : Prop := numUpsRow.holds Try.pinned (OpenSpec.ofChange numUpsSpec)

/-- ITS FALSE NEIGHBOUR: 'it returns false'. Refute it at one input. -/
def numUpsWrong : ChangeSpec := { name := "numUps", fn := fun _ => fun
  | [d] => { results := [.lit (.bool false)], args := [d] }
  | _ => none }
def NumUpsWrongFalsely : Prop := numUpsRow.holds Try.pinned (OpenSpec.ofChange numUpsWrong)

/-- 'gangerlaw01.NumCuts': WHATEVER THE INPUT: true; the input reads as it did. -/
def numCutsSpec : ChangeSpec := { name := "numCuts", fn := fun _ => fun
  | [d1, d2, d3] => { results := [.lit (.bool true)], args := [d1, d2, d3] }
  | _ => none }
def numCutsRow : OpenClaim := { program := "ytlcdlfnmofopgaa", sum := "9ab65abfa9775ecb84f1aecbe5c3c53fb852f9f1805aa4a04c2d0fb912c37503", func := "ganger/gangerlaw01.NumCuts", spec := "numCuts", named := ["math/bits.divideError", "math/bits.overflowError"], apart := false }
def NumCutsSaid : Prop := numCutsRow.holds Try.pinned (OpenSpec.ofChange numCutsSpec)

/-- ITS FALSE NEIGHBOUR: 'it returns false'. Refute it at one input. -/
def numCutsWrong : ChangeSpec := { name := "numCuts", fn := fun _ => fun
  | [d1, d2, d3] => { results := [.lit (.bool false)], args := [d1, d2, d3] }
  | _ => none }
def NumCutsWrongFalsely : Prop := numCutsRow.holds Try.pinned (OpenSpec.ofChange numCutsWrong)

/-- 'gangerlaw01.NumAdds': WHATEVER THE INPUT: true; the input reads as it did. -/
def numAddsSpec : ChangeSpec := { name := "numAdds", fn := fun _ => fun
  | [d1, d2] => { results := [.lit (.bool true)], args := [d1, d2] }
  | _ => none }
def numAddsRow : OpenClaim := { program := "ytlcdlfnmofopgaa", sum := "9ab65abfa9775ecb84f1aecbe5c3c53fb852f9f1805aa4a04c2d0fb912c37503", func := "ganger/gangerlaw01.NumAdds", spec := "numAdds", named := ["math/bits.divideError", "math/bits.overflowError"], apart := false }
def NumAddsSaid : Prop := numAddsRow.holds Try.pinned (OpenSpec.ofChange numAddsSpec)

/-- ITS FALSE NEIGHBOUR: 'it returns false'. Refute it at one input. -/
def numAddsWrong : ChangeSpec := { name := "numAdds", fn := fun _ => fun
  | [d1, d2] => { results := [.lit (.bool false)], args := [d1, d2] }
  | _ => none }
def NumAddsWrongFalsely : Prop := numAddsRow.holds Try.pinned (OpenSpec.ofChange numAddsWrong)

/-- 'gangerlaw01.NumMuls': WHATEVER THE INPUT: true; the input reads as it did. -/
def numMulsSpec : ChangeSpec := { name := "numMuls", fn := fun _ => fun
  | [d1, d2] => { results := [.lit (.bool true)], args := [d1, d2] }
  | _ => none }
def numMulsRow : OpenClaim := { program := "ytlcdlfnmofopgaa", sum := "9ab65abfa9775ecb84f1aecbe5c3c53fb852f9f1805aa4a04c2d0fb912c37503", func := "ganger/gangerlaw01.NumMuls", spec := "numMuls", named := ["math/bits.divideError", "math/bits.overflowError"], apart := false }
def NumMulsSaid : Prop := numMulsRow.holds Try.pinned (OpenSpec.ofChange numMulsSpec)

/-- ITS FALSE NEIGHBOUR: 'it returns false'. Refute it at one input. -/
def numMulsWrong : ChangeSpec := { name := "numMuls", fn := fun _ => fun
  | [d1, d2] => { results := [.lit (.bool false)], args := [d1, d2] }
  | _ => none }
def NumMulsWrongFalsely : Prop := numMulsRow.holds Try.pinned (OpenSpec.ofChange numMulsWrong)

/- THE SECOND FORM. 'bulk': how many values and letters a reading holds, each counted each time it is reached (what is shared counts as often as it is met; a slice's spare places count too). A statement '..UptoSaid' is the law's where the arguments, and the package variables that the reading takes, are together of bulk at most 1048576: NARROWER than '..Said'. Prove '..Said' where nothing that the law and all that it calls make is longer than what came in: it says more and counts as full. Else prove '..UptoSaid'. A law counts once. -/
mutual
def uptoBulk {H : Type} : DataW H → Nat
  | .lit (.string bytes) => bytes.length + 1
  | .lit _ => 1
  | .nil => 1
  | .ptr d => uptoBulk d + 1
  | .slice elems spare => uptoBulkAll elems + uptoBulkAll spare + 1
  | .agg parts => uptoBulkAll parts + 1
  | .iface _ d => uptoBulk d + 1
  | .map entries => uptoBulkEntries entries + 1
  | .held _ => 1
def uptoBulkAll {H : Type} : List (DataW H) → Nat
  | [] => 0
  | d :: r => uptoBulk d + uptoBulkAll r
def uptoBulkEntries {H : Type} : List (Lit × DataW H) → Nat
  | [] => 0
  | x :: r => uptoBulkEntry x + uptoBulkEntries r
def uptoBulkEntry {H : Type} : Lit × DataW H → Nat
  | (.string bytes, d) => bytes.length + uptoBulk d + 1
  | (_, d) => uptoBulk d + 1
 end
def uptoSmall : (H : Type) → List (DataW H) → Bool := fun _ ds => decide (uptoBulkAll ds ≤ 1048576)
def OpenSpec.upto (s : _root_.Go.ChangeSpec) : _root_.Go.OpenSpec := { _root_.Go.OpenSpec.ofChange s with cond := some uptoSmall }

/-- 'gangerlaw01.NumDivs', WHERE WHAT IT READS IS OF BULK AT MOST 1048576: true; the input reads as it did. -/
def numDivsUptoRow : OpenClaim := { program := "ytlcdlfnmofopgaa", sum := "9ab65abfa9775ecb84f1aecbe5c3c53fb852f9f1805aa4a04c2d0fb912c37503", func := "ganger/gangerlaw01.NumDivs", spec := "numDivs", named := ["math/bits.divideError", "math/bits.overflowError"], apart := false, narrowed := true }
def NumDivsUptoSaid : Prop := numDivsUptoRow.holds Try.pinned (OpenSpec.upto numDivsSpec)

/-- 'gangerlaw01.NumSums', WHERE WHAT IT READS IS OF BULK AT MOST 1048576: true; the input reads as it did. -/
def numSumsUptoRow : OpenClaim := { program := "ytlcdlfnmofopgaa", sum := "9ab65abfa9775ecb84f1aecbe5c3c53fb852f9f1805aa4a04c2d0fb912c37503", func := "ganger/gangerlaw01.NumSums", spec := "numSums", named := ["math/bits.divideError", "math/bits.overflowError"], apart := false, narrowed := true }
def NumSumsUptoSaid : Prop := numSumsUptoRow.holds Try.pinned (OpenSpec.upto numSumsSpec)

/-- 'gangerlaw01.NumMulDivs', WHERE WHAT IT READS IS OF BULK AT MOST 1048576: true; the input reads as it did. -/
def numMulDivsUptoRow : OpenClaim := { program := "ytlcdlfnmofopgaa", sum := "9ab65abfa9775ecb84f1aecbe5c3c53fb852f9f1805aa4a04c2d0fb912c37503", func := "ganger/gangerlaw01.NumMulDivs", spec := "numMulDivs", named := ["math/bits.divideError", "math/bits.overflowError"], apart := false, narrowed := true }
def NumMulDivsUptoSaid : Prop := numMulDivsUptoRow.holds Try.pinned (OpenSpec.upto numMulDivsSpec)

/-- 'gangerlaw01.NumShares', WHERE WHAT IT READS IS OF BULK AT MOST 1048576: true; the input reads as it did. -/
def numSharesUptoRow : OpenClaim := { program := "ytlcdlfnmofopgaa", sum := "9ab65abfa9775ecb84f1aecbe5c3c53fb852f9f1805aa4a04c2d0fb912c37503", func := "ganger/gangerlaw01.NumShares", spec := "numShares", named := ["math/bits.divideError", "math/bits.overflowError"], apart := false, narrowed := true }
def NumSharesUptoSaid : Prop := numSharesUptoRow.holds Try.pinned (OpenSpec.upto numSharesSpec)

/-- 'gangerlaw01.NumUps', WHERE WHAT IT READS IS OF BULK AT MOST 1048576: true; the input reads as it did. -/
def numUpsUptoRow : OpenClaim := { program := "ytlcdlfnmofopgaa", sum := "9ab65abfa9775ecb84f1aecbe5c3c53fb852f9f1805aa4a04c2d0fb912c37503", func := "ganger/gangerlaw01.NumUps", spec := "numUps", named := ["math/bits.divideError", "math/bits.overflowError"], apart := false, narrowed := true }
def NumUpsUptoSaid : Prop := numUpsUptoRow.holds Try.pinned (OpenSpec.upto numUpsSpec)

/-- 'gangerlaw01.NumCuts', WHERE WHAT IT READS IS OF BULK AT MOST 1048576: true; the input reads as it did. -/
def numCutsUptoRow : OpenClaim := { program := "ytlcdlfnmofopgaa", sum := "9ab65abfa9775ecb84f1aecbe5c3c53fb852f9f1805aa4a04c2d0fb912c37503", func := "ganger/gangerlaw01.NumCuts", spec := "numCuts", named := ["math/bits.divideError", "math/bits.overflowError"], apart := false, narrowed := true }
def NumCutsUptoSaid : Prop := numCutsUptoRow.holds Try.pinned (OpenSpec.upto numCutsSpec)

/-- 'gangerlaw01.NumAdds', WHERE WHAT IT READS IS OF BULK AT MOST 1048576: true; the input reads as it did. -/
def numAddsUptoRow : OpenClaim := { program := "ytlcdlfnmofopgaa", sum := "9ab65abfa9775ecb84f1aecbe5c3c53fb852f9f1805aa4a04c2d0fb912c37503", func := "ganger/gangerlaw01.NumAdds", spec := "numAdds", named := ["math/bits.divideError", "math/bits.overflowError"], apart := false, narrowed := true }
def NumAddsUptoSaid : Prop := numAddsUptoRow.holds Try.pinned (OpenSpec.upto numAddsSpec)

/-- 'gangerlaw01.NumMuls', WHERE WHAT IT READS IS OF BULK AT MOST 1048576: true; the input reads as it did. -/
def numMulsUptoRow : OpenClaim := { program := "ytlcdlfnmofopgaa", sum := "9ab65abfa9775ecb84f1aecbe5c3c53fb852f9f1805aa4a04c2d0fb912c37503", func := "ganger/gangerlaw01.NumMuls", spec := "numMuls", named := ["math/bits.divideError", "math/bits.overflowError"], apart := false, narrowed := true }
def NumMulsUptoSaid : Prop := numMulsUptoRow.holds Try.pinned (OpenSpec.upto numMulsSpec)

end Rows
end Go.Proofs.Ytlcdlfnmofopgaa
