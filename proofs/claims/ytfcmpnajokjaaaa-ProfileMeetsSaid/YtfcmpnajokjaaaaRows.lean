/-
  No cell of these rows narrows 'for every input' (looked for: loops, veiled, ifaces, maps, wideKeys, modest, calm, conditions, laid).
  DERIVED. THE GIVEN ROWS OF THIS SEAT. 8 by the template 'for every input the law returns true; each argument reads behind the call as it read before'; 0 by the template 'total and deterministic' (their statements: YtfcmpnajokjaaaaTotals.lean).
  GIVEN WITH THE SEED: the statements are not yours to turn. If you find one false, say at which input.
  Laid BY PROGRAM, IN A SANDBOX (cutbox-rows.mjs): the forced cells as the released guide's own fill.sh prints them over the translation 1e08e8eac2721ced… (all of the seat's roots in one cut). By AI agents, Wed Nov 11 2026. No macro, syntax, notation, axiom, sorry.
-/
import Derived.Test.YtfcmpnajokjaaaaChecked
import GoSem.Claim
import GoSem.ClaimJoined
import GoSem.ClaimMapViews
import Derived.JoinedTies
import Derived.KernelRfl
namespace Go.Proofs.Ytfcmpnajokjaaaa
/- THE CELL 'sum', in the pinned program and in every row, IS THE sha256 OF THE DUMP (.gsa) THAT YtfcmpnajokjaaaaProg.lean LOADS. Nothing in Lean hashes anything: it is a label: what it is worth is what the hold of that sum in a sandbox is worth. -/
noncomputable def Try.pinned : Pinned := { name := "ytfcmpnajokjaaaa", sum := "1e08e8eac2721ced859c797c66a899b9d7bfa7fa6bd0aa48f0773c46abf741f2", checked := Try.checked }
namespace Rows
def none {H : Type} : Left H := { results := [], args := [] }

/-- 'gangerlaw05.ProfileFits': WHATEVER THE INPUT: true; the input reads as it did. -/
def profileFitsSpec : ChangeSpec := { name := "profileFits", fn := fun _ => fun
  | [d1, d2, d3, d4] => { results := [.lit (.bool true)], args := [d1, d2, d3, d4] }
  | _ => none }
def profileFitsRow : OpenClaim := { program := "ytfcmpnajokjaaaa", sum := "1e08e8eac2721ced859c797c66a899b9d7bfa7fa6bd0aa48f0773c46abf741f2", func := "ganger/gangerlaw05.ProfileFits", spec := "profileFits", inPlace := ["slices.overlaps[ganger/api.Level]"], unfollowed := true, recurses := true, apart := false }
def ProfileFitsSaid : Prop := profileFitsRow.holds Try.pinned (OpenSpec.ofChange profileFitsSpec)

/-- ITS FALSE NEIGHBOUR: 'it returns false'. Refute it at one input. -/
def profileFitsWrong : ChangeSpec := { name := "profileFits", fn := fun _ => fun
  | [d1, d2, d3, d4] => { results := [.lit (.bool false)], args := [d1, d2, d3, d4] }
  | _ => none }
def ProfileFitsWrongFalsely : Prop := profileFitsRow.holds Try.pinned (OpenSpec.ofChange profileFitsWrong)

/-- 'gangerlaw05.ProfileChanges': WHATEVER THE INPUT: true; the input reads as it did. -/
def profileChangesSpec : ChangeSpec := { name := "profileChanges", fn := fun _ => fun
  | [d1, d2, d3, d4] => { results := [.lit (.bool true)], args := [d1, d2, d3, d4] }
  | _ => none }
def profileChangesRow : OpenClaim := { program := "ytfcmpnajokjaaaa", sum := "1e08e8eac2721ced859c797c66a899b9d7bfa7fa6bd0aa48f0773c46abf741f2", func := "ganger/gangerlaw05.ProfileChanges", spec := "profileChanges", inPlace := ["slices.overlaps[ganger/api.Level]"], unfollowed := true, recurses := true, apart := false }
def ProfileChangesSaid : Prop := profileChangesRow.holds Try.pinned (OpenSpec.ofChange profileChangesSpec)

/-- ITS FALSE NEIGHBOUR: 'it returns false'. Refute it at one input. -/
def profileChangesWrong : ChangeSpec := { name := "profileChanges", fn := fun _ => fun
  | [d1, d2, d3, d4] => { results := [.lit (.bool false)], args := [d1, d2, d3, d4] }
  | _ => none }
def ProfileChangesWrongFalsely : Prop := profileChangesRow.holds Try.pinned (OpenSpec.ofChange profileChangesWrong)

/-- 'gangerlaw05.ProfileBack': WHATEVER THE INPUT: true; the input reads as it did. -/
def profileBackSpec : ChangeSpec := { name := "profileBack", fn := fun _ => fun
  | [d1, d2, d3, d4, d5, d6] => { results := [.lit (.bool true)], args := [d1, d2, d3, d4, d5, d6] }
  | _ => none }
def profileBackRow : OpenClaim := { program := "ytfcmpnajokjaaaa", sum := "1e08e8eac2721ced859c797c66a899b9d7bfa7fa6bd0aa48f0773c46abf741f2", func := "ganger/gangerlaw05.ProfileBack", spec := "profileBack", inPlace := ["slices.overlaps[ganger/api.Level]"], unfollowed := true, recurses := true, apart := false }
def ProfileBackSaid : Prop := profileBackRow.holds Try.pinned (OpenSpec.ofChange profileBackSpec)

/-- ITS FALSE NEIGHBOUR: 'it returns false'. Refute it at one input. -/
def profileBackWrong : ChangeSpec := { name := "profileBack", fn := fun _ => fun
  | [d1, d2, d3, d4, d5, d6] => { results := [.lit (.bool false)], args := [d1, d2, d3, d4, d5, d6] }
  | _ => none }
def ProfileBackWrongFalsely : Prop := profileBackRow.holds Try.pinned (OpenSpec.ofChange profileBackWrong)

/-- 'gangerlaw05.ProfileOne': WHATEVER THE INPUT: true; the input reads as it did. -/
def profileOneSpec : ChangeSpec := { name := "profileOne", fn := fun _ => fun
  | [d1, d2] => { results := [.lit (.bool true)], args := [d1, d2] }
  | _ => none }
def profileOneRow : OpenClaim := { program := "ytfcmpnajokjaaaa", sum := "1e08e8eac2721ced859c797c66a899b9d7bfa7fa6bd0aa48f0773c46abf741f2", func := "ganger/gangerlaw05.ProfileOne", spec := "profileOne", inPlace := ["slices.overlaps[ganger/api.Level]"], unfollowed := true, recurses := true, apart := false }
def ProfileOneSaid : Prop := profileOneRow.holds Try.pinned (OpenSpec.ofChange profileOneSpec)

/-- ITS FALSE NEIGHBOUR: 'it returns false'. Refute it at one input. -/
def profileOneWrong : ChangeSpec := { name := "profileOne", fn := fun _ => fun
  | [d1, d2] => { results := [.lit (.bool false)], args := [d1, d2] }
  | _ => none }
def ProfileOneWrongFalsely : Prop := profileOneRow.holds Try.pinned (OpenSpec.ofChange profileOneWrong)

/-- 'gangerlaw05.ProfileTrims': WHATEVER THE INPUT: true; the input reads as it did. -/
def profileTrimsSpec : ChangeSpec := { name := "profileTrims", fn := fun _ => fun
  | [d1, d2, d3] => { results := [.lit (.bool true)], args := [d1, d2, d3] }
  | _ => none }
def profileTrimsRow : OpenClaim := { program := "ytfcmpnajokjaaaa", sum := "1e08e8eac2721ced859c797c66a899b9d7bfa7fa6bd0aa48f0773c46abf741f2", func := "ganger/gangerlaw05.ProfileTrims", spec := "profileTrims", inPlace := ["slices.overlaps[ganger/api.Level]"], unfollowed := true, recurses := true, apart := false }
def ProfileTrimsSaid : Prop := profileTrimsRow.holds Try.pinned (OpenSpec.ofChange profileTrimsSpec)

/-- ITS FALSE NEIGHBOUR: 'it returns false'. Refute it at one input. -/
def profileTrimsWrong : ChangeSpec := { name := "profileTrims", fn := fun _ => fun
  | [d1, d2, d3] => { results := [.lit (.bool false)], args := [d1, d2, d3] }
  | _ => none }
def ProfileTrimsWrongFalsely : Prop := profileTrimsRow.holds Try.pinned (OpenSpec.ofChange profileTrimsWrong)

/-- 'gangerlaw05.ProfileTells': WHATEVER THE INPUT: true; the input reads as it did. -/
def profileTellsSpec : ChangeSpec := { name := "profileTells", fn := fun _ => fun
  | [d1, d2, d3] => { results := [.lit (.bool true)], args := [d1, d2, d3] }
  | _ => none }
def profileTellsRow : OpenClaim := { program := "ytfcmpnajokjaaaa", sum := "1e08e8eac2721ced859c797c66a899b9d7bfa7fa6bd0aa48f0773c46abf741f2", func := "ganger/gangerlaw05.ProfileTells", spec := "profileTells", inPlace := ["slices.overlaps[ganger/api.Level]"], unfollowed := true, recurses := true, apart := false }
def ProfileTellsSaid : Prop := profileTellsRow.holds Try.pinned (OpenSpec.ofChange profileTellsSpec)

/-- ITS FALSE NEIGHBOUR: 'it returns false'. Refute it at one input. -/
def profileTellsWrong : ChangeSpec := { name := "profileTells", fn := fun _ => fun
  | [d1, d2, d3] => { results := [.lit (.bool false)], args := [d1, d2, d3] }
  | _ => none }
def ProfileTellsWrongFalsely : Prop := profileTellsRow.holds Try.pinned (OpenSpec.ofChange profileTellsWrong)

/-- 'gangerlaw05.ProfileLeast': WHATEVER THE INPUT: true; the input reads as it did. -/
def profileLeastSpec : ChangeSpec := { name := "profileLeast", fn := fun _ => fun
  | [d1, d2, d3, d4, d5, d6] => { results := [.lit (.bool true)], args := [d1, d2, d3, d4, d5, d6] }
  | _ => none }
def profileLeastRow : OpenClaim := { program := "ytfcmpnajokjaaaa", sum := "1e08e8eac2721ced859c797c66a899b9d7bfa7fa6bd0aa48f0773c46abf741f2", func := "ganger/gangerlaw05.ProfileLeast", spec := "profileLeast", inPlace := ["slices.overlaps[ganger/api.Level]"], unfollowed := true, recurses := true, apart := false }
def ProfileLeastSaid : Prop := profileLeastRow.holds Try.pinned (OpenSpec.ofChange profileLeastSpec)

/-- ITS FALSE NEIGHBOUR: 'it returns false'. Refute it at one input. -/
def profileLeastWrong : ChangeSpec := { name := "profileLeast", fn := fun _ => fun
  | [d1, d2, d3, d4, d5, d6] => { results := [.lit (.bool false)], args := [d1, d2, d3, d4, d5, d6] }
  | _ => none }
def ProfileLeastWrongFalsely : Prop := profileLeastRow.holds Try.pinned (OpenSpec.ofChange profileLeastWrong)

/-- 'gangerlaw05.ProfileMeets': WHATEVER THE INPUT: true; the input reads as it did. -/
def profileMeetsSpec : ChangeSpec := { name := "profileMeets", fn := fun _ => fun
  | [d1, d2, d3] => { results := [.lit (.bool true)], args := [d1, d2, d3] }
  | _ => none }
def profileMeetsRow : OpenClaim := { program := "ytfcmpnajokjaaaa", sum := "1e08e8eac2721ced859c797c66a899b9d7bfa7fa6bd0aa48f0773c46abf741f2", func := "ganger/gangerlaw05.ProfileMeets", spec := "profileMeets", inPlace := ["slices.overlaps[ganger/api.Level]"], unfollowed := true, recurses := true, apart := false }
def ProfileMeetsSaid : Prop := profileMeetsRow.holds Try.pinned (OpenSpec.ofChange profileMeetsSpec)

/-- ITS FALSE NEIGHBOUR: 'it returns false'. Refute it at one input. -/
def profileMeetsWrong : ChangeSpec := { name := "profileMeets", fn := fun _ => fun
  | [d1, d2, d3] => { results := [.lit (.bool false)], args := [d1, d2, d3] }
  | _ => none }
def ProfileMeetsWrongFalsely : Prop := profileMeetsRow.holds Try.pinned (OpenSpec.ofChange profileMeetsWrong)

/- THE SECOND FORM. 'bulk': how many values and letters a reading holds, each counted each time it is reached (what is shared counts as often as it is met; a slice's spare places count too). A statement '..UptoSaid' is the law's where the arguments, and the package variables that the reading takes, are together of bulk at most 1048576: NARROWER than '..Said'. Prove '..Said' where nothing that the law and all that it calls make is longer than what came in: it says more and counts as full. Else prove '..UptoSaid'. A law counts once. -/
mutual
def uptoBulk {H : Type} : DataW H → Nat
  | .lit (.string bytes) => bytes.length + 1
  | .lit _ => 1
  | .nil => 1
  | .ptr d => uptoBulk d + 1
  | .slice elems spare => uptoBulkAll elems + uptoBulkAll spare + 1
  | .agg parts => uptoBulkAll parts + 1
  | .iface _ d => uptoBulk d + 1
  | .map entries => uptoBulkEntries entries + 1
  | .held _ => 1
def uptoBulkAll {H : Type} : List (DataW H) → Nat
  | [] => 0
  | d :: r => uptoBulk d + uptoBulkAll r
def uptoBulkEntries {H : Type} : List (Lit × DataW H) → Nat
  | [] => 0
  | x :: r => uptoBulkEntry x + uptoBulkEntries r
def uptoBulkEntry {H : Type} : Lit × DataW H → Nat
  | (.string bytes, d) => bytes.length + uptoBulk d + 1
  | (_, d) => uptoBulk d + 1
 end
def uptoSmall : (H : Type) → List (DataW H) → Bool := fun _ ds => decide (uptoBulkAll ds ≤ 1048576)
def OpenSpec.upto (s : _root_.Go.ChangeSpec) : _root_.Go.OpenSpec := { _root_.Go.OpenSpec.ofChange s with cond := some uptoSmall }

/-- 'gangerlaw05.ProfileFits', WHERE WHAT IT READS IS OF BULK AT MOST 1048576: true; the input reads as it did. -/
def profileFitsUptoRow : OpenClaim := { program := "ytfcmpnajokjaaaa", sum := "1e08e8eac2721ced859c797c66a899b9d7bfa7fa6bd0aa48f0773c46abf741f2", func := "ganger/gangerlaw05.ProfileFits", spec := "profileFits", inPlace := ["slices.overlaps[ganger/api.Level]"], unfollowed := true, recurses := true, apart := false, narrowed := true }
def ProfileFitsUptoSaid : Prop := profileFitsUptoRow.holds Try.pinned (OpenSpec.upto profileFitsSpec)

/-- 'gangerlaw05.ProfileChanges', WHERE WHAT IT READS IS OF BULK AT MOST 1048576: true; the input reads as it did. -/
def profileChangesUptoRow : OpenClaim := { program := "ytfcmpnajokjaaaa", sum := "1e08e8eac2721ced859c797c66a899b9d7bfa7fa6bd0aa48f0773c46abf741f2", func := "ganger/gangerlaw05.ProfileChanges", spec := "profileChanges", inPlace := ["slices.overlaps[ganger/api.Level]"], unfollowed := true, recurses := true, apart := false, narrowed := true }
def ProfileChangesUptoSaid : Prop := profileChangesUptoRow.holds Try.pinned (OpenSpec.upto profileChangesSpec)

/-- 'gangerlaw05.ProfileBack', WHERE WHAT IT READS IS OF BULK AT MOST 1048576: true; the input reads as it did. -/
def profileBackUptoRow : OpenClaim := { program := "ytfcmpnajokjaaaa", sum := "1e08e8eac2721ced859c797c66a899b9d7bfa7fa6bd0aa48f0773c46abf741f2", func := "ganger/gangerlaw05.ProfileBack", spec := "profileBack", inPlace := ["slices.overlaps[ganger/api.Level]"], unfollowed := true, recurses := true, apart := false, narrowed := true }
def ProfileBackUptoSaid : Prop := profileBackUptoRow.holds Try.pinned (OpenSpec.upto profileBackSpec)

/-- 'gangerlaw05.ProfileOne', WHERE WHAT IT READS IS OF BULK AT MOST 1048576: true; the input reads as it did. -/
def profileOneUptoRow : OpenClaim := { program := "ytfcmpnajokjaaaa", sum := "1e08e8eac2721ced859c797c66a899b9d7bfa7fa6bd0aa48f0773c46abf741f2", func := "ganger/gangerlaw05.ProfileOne", spec := "profileOne", inPlace := ["slices.overlaps[ganger/api.Level]"], unfollowed := true, recurses := true, apart := false, narrowed := true }
def ProfileOneUptoSaid : Prop := profileOneUptoRow.holds Try.pinned (OpenSpec.upto profileOneSpec)

/-- 'gangerlaw05.ProfileTrims', WHERE WHAT IT READS IS OF BULK AT MOST 1048576: true; the input reads as it did. -/
def profileTrimsUptoRow : OpenClaim := { program := "ytfcmpnajokjaaaa", sum := "1e08e8eac2721ced859c797c66a899b9d7bfa7fa6bd0aa48f0773c46abf741f2", func := "ganger/gangerlaw05.ProfileTrims", spec := "profileTrims", inPlace := ["slices.overlaps[ganger/api.Level]"], unfollowed := true, recurses := true, apart := false, narrowed := true }
def ProfileTrimsUptoSaid : Prop := profileTrimsUptoRow.holds Try.pinned (OpenSpec.upto profileTrimsSpec)

/-- 'gangerlaw05.ProfileTells', WHERE WHAT IT READS IS OF BULK AT MOST 1048576: true; the input reads as it did. -/
def profileTellsUptoRow : OpenClaim := { program := "ytfcmpnajokjaaaa", sum := "1e08e8eac2721ced859c797c66a899b9d7bfa7fa6bd0aa48f0773c46abf741f2", func := "ganger/gangerlaw05.ProfileTells", spec := "profileTells", inPlace := ["slices.overlaps[ganger/api.Level]"], unfollowed := true, recurses := true, apart := false, narrowed := true }
def ProfileTellsUptoSaid : Prop := profileTellsUptoRow.holds Try.pinned (OpenSpec.upto profileTellsSpec)

/-- 'gangerlaw05.ProfileLeast', WHERE WHAT IT READS IS OF BULK AT MOST 1048576: true; the input reads as it did. -/
def profileLeastUptoRow : OpenClaim := { program := "ytfcmpnajokjaaaa", sum := "1e08e8eac2721ced859c797c66a899b9d7bfa7fa6bd0aa48f0773c46abf741f2", func := "ganger/gangerlaw05.ProfileLeast", spec := "profileLeast", inPlace := ["slices.overlaps[ganger/api.Level]"], unfollowed := true, recurses := true, apart := false, narrowed := true }
def ProfileLeastUptoSaid : Prop := profileLeastUptoRow.holds Try.pinned (OpenSpec.upto profileLeastSpec)

/-- 'gangerlaw05.ProfileMeets', WHERE WHAT IT READS IS OF BULK AT MOST 1048576: true; the input reads as it did. -/
def profileMeetsUptoRow : OpenClaim := { program := "ytfcmpnajokjaaaa", sum := "1e08e8eac2721ced859c797c66a899b9d7bfa7fa6bd0aa48f0773c46abf741f2", func := "ganger/gangerlaw05.ProfileMeets", spec := "profileMeets", inPlace := ["slices.overlaps[ganger/api.Level]"], unfollowed := true, recurses := true, apart := false, narrowed := true }
def ProfileMeetsUptoSaid : Prop := profileMeetsUptoRow.holds Try.pinned (OpenSpec.upto profileMeetsSpec)

end Rows
end Go.Proofs.Ytfcmpnajokjaaaa
