/-
  No cell of these rows narrows 'for every input' (looked for: loops, veiled, ifaces, maps, wideKeys, modest, calm, conditions, laid).
  DERIVED. THE GIVEN ROWS OF THIS SEAT. 7 by the template 'for every input the law returns true; each argument reads behind the call as it read before'; 0 by the template 'total and deterministic' (their statements: YtaagimadfhcflaaTotals.lean).
  GIVEN WITH THE SEED: the statements are not yours to turn. If you find one false, say at which input.
  Laid BY PROGRAM, IN A SANDBOX (cutbox-rows.mjs): the forced cells as the released guide's own fill.sh prints them over the translation d1dba83e316fab8e… (all of the seat's roots in one cut). By AI agents, Wed Nov 11 2026. No macro, syntax, notation, axiom, sorry.
-/
import Derived.Test.YtaagimadfhcflaaChecked
import GoSem.Claim
import GoSem.ClaimJoined
import GoSem.ClaimMapViews
import Derived.JoinedTies
import Derived.KernelRfl
namespace Go.Proofs.Ytaagimadfhcflaa
/- THE CELL 'sum', in the pinned program and in every row, IS THE sha256 OF THE DUMP (.gsa) THAT YtaagimadfhcflaaProg.lean LOADS. Nothing in Lean hashes anything: it is a label: what it is worth is what the hold of that sum in a sandbox is worth. -/
noncomputable def Try.pinned : Pinned := { name := "ytaagimadfhcflaa", sum := "d1dba83e316fab8e3b79543d738b965027cc8875692136962bd3a395788c48d8", checked := Try.checked }
namespace Rows
def none {H : Type} : Left H := { results := [], args := [] }

/-- 'gangerlaw02.DecayFactors': WHATEVER THE INPUT: true; the input reads as it did. -/
def decayFactorsSpec : ChangeSpec := { name := "decayFactors", fn := fun _ => fun
  | [d1, d2] => { results := [.lit (.bool true)], args := [d1, d2] }
  | _ => none }
def decayFactorsRow : OpenClaim := { program := "ytaagimadfhcflaa", sum := "d1dba83e316fab8e3b79543d738b965027cc8875692136962bd3a395788c48d8", func := "ganger/gangerlaw02.DecayFactors", spec := "decayFactors", named := ["math/bits.divideError", "math/bits.overflowError"], apart := false }
def DecayFactorsSaid : Prop := decayFactorsRow.holds Try.pinned (OpenSpec.ofChange decayFactorsSpec)

/-- ITS FALSE NEIGHBOUR: 'it returns false'. Refute it at one input. -/
def decayFactorsWrong : ChangeSpec := { name := "decayFactors", fn := fun _ => fun
  | [d1, d2] => { results := [.lit (.bool false)], args := [d1, d2] }
  | _ => none }
def DecayFactorsWrongFalsely : Prop := decayFactorsRow.holds Try.pinned (OpenSpec.ofChange decayFactorsWrong)

/-- 'gangerlaw02.DecayAfters': WHATEVER THE INPUT: true; the input reads as it did. -/
def decayAftersSpec : ChangeSpec := { name := "decayAfters", fn := fun _ => fun
  | [d1, d2, d3] => { results := [.lit (.bool true)], args := [d1, d2, d3] }
  | _ => none }
def decayAftersRow : OpenClaim := { program := "ytaagimadfhcflaa", sum := "d1dba83e316fab8e3b79543d738b965027cc8875692136962bd3a395788c48d8", func := "ganger/gangerlaw02.DecayAfters", spec := "decayAfters", named := ["math/bits.divideError", "math/bits.overflowError"], apart := false }
def DecayAftersSaid : Prop := decayAftersRow.holds Try.pinned (OpenSpec.ofChange decayAftersSpec)

/-- ITS FALSE NEIGHBOUR: 'it returns false'. Refute it at one input. -/
def decayAftersWrong : ChangeSpec := { name := "decayAfters", fn := fun _ => fun
  | [d1, d2, d3] => { results := [.lit (.bool false)], args := [d1, d2, d3] }
  | _ => none }
def DecayAftersWrongFalsely : Prop := decayAftersRow.holds Try.pinned (OpenSpec.ofChange decayAftersWrong)

/-- 'gangerlaw02.DecayCharges': WHATEVER THE INPUT: true; the input reads as it did. -/
def decayChargesSpec : ChangeSpec := { name := "decayCharges", fn := fun _ => fun
  | [d1, d2, d3, d4] => { results := [.lit (.bool true)], args := [d1, d2, d3, d4] }
  | _ => none }
def decayChargesRow : OpenClaim := { program := "ytaagimadfhcflaa", sum := "d1dba83e316fab8e3b79543d738b965027cc8875692136962bd3a395788c48d8", func := "ganger/gangerlaw02.DecayCharges", spec := "decayCharges", named := ["math/bits.divideError", "math/bits.overflowError"], apart := false }
def DecayChargesSaid : Prop := decayChargesRow.holds Try.pinned (OpenSpec.ofChange decayChargesSpec)

/-- ITS FALSE NEIGHBOUR: 'it returns false'. Refute it at one input. -/
def decayChargesWrong : ChangeSpec := { name := "decayCharges", fn := fun _ => fun
  | [d1, d2, d3, d4] => { results := [.lit (.bool false)], args := [d1, d2, d3, d4] }
  | _ => none }
def DecayChargesWrongFalsely : Prop := decayChargesRow.holds Try.pinned (OpenSpec.ofChange decayChargesWrong)

/-- 'gangerlaw02.DecayFalls': WHATEVER THE INPUT: true; the input reads as it did. -/
def decayFallsSpec : ChangeSpec := { name := "decayFalls", fn := fun _ => fun
  | [d1, d2, d3, d4, d5] => { results := [.lit (.bool true)], args := [d1, d2, d3, d4, d5] }
  | _ => none }
def decayFallsRow : OpenClaim := { program := "ytaagimadfhcflaa", sum := "d1dba83e316fab8e3b79543d738b965027cc8875692136962bd3a395788c48d8", func := "ganger/gangerlaw02.DecayFalls", spec := "decayFalls", named := ["math/bits.divideError", "math/bits.overflowError"], apart := false }
def DecayFallsSaid : Prop := decayFallsRow.holds Try.pinned (OpenSpec.ofChange decayFallsSpec)

/-- ITS FALSE NEIGHBOUR: 'it returns false'. Refute it at one input. -/
def decayFallsWrong : ChangeSpec := { name := "decayFalls", fn := fun _ => fun
  | [d1, d2, d3, d4, d5] => { results := [.lit (.bool false)], args := [d1, d2, d3, d4, d5] }
  | _ => none }
def DecayFallsWrongFalsely : Prop := decayFallsRow.holds Try.pinned (OpenSpec.ofChange decayFallsWrong)

/-- 'gangerlaw02.DecayHalves': WHATEVER THE INPUT: true; the input reads as it did. -/
def decayHalvesSpec : ChangeSpec := { name := "decayHalves", fn := fun _ => fun
  | [d1, d2, d3, d4] => { results := [.lit (.bool true)], args := [d1, d2, d3, d4] }
  | _ => none }
def decayHalvesRow : OpenClaim := { program := "ytaagimadfhcflaa", sum := "d1dba83e316fab8e3b79543d738b965027cc8875692136962bd3a395788c48d8", func := "ganger/gangerlaw02.DecayHalves", spec := "decayHalves", named := ["math/bits.divideError", "math/bits.overflowError"], apart := false }
def DecayHalvesSaid : Prop := decayHalvesRow.holds Try.pinned (OpenSpec.ofChange decayHalvesSpec)

/-- ITS FALSE NEIGHBOUR: 'it returns false'. Refute it at one input. -/
def decayHalvesWrong : ChangeSpec := { name := "decayHalves", fn := fun _ => fun
  | [d1, d2, d3, d4] => { results := [.lit (.bool false)], args := [d1, d2, d3, d4] }
  | _ => none }
def DecayHalvesWrongFalsely : Prop := decayHalvesRow.holds Try.pinned (OpenSpec.ofChange decayHalvesWrong)

/-- 'gangerlaw02.DecayEnds': WHATEVER THE INPUT: true; the input reads as it did. -/
def decayEndsSpec : ChangeSpec := { name := "decayEnds", fn := fun _ => fun
  | [d1, d2, d3] => { results := [.lit (.bool true)], args := [d1, d2, d3] }
  | _ => none }
def decayEndsRow : OpenClaim := { program := "ytaagimadfhcflaa", sum := "d1dba83e316fab8e3b79543d738b965027cc8875692136962bd3a395788c48d8", func := "ganger/gangerlaw02.DecayEnds", spec := "decayEnds", named := ["math/bits.divideError", "math/bits.overflowError"], apart := false }
def DecayEndsSaid : Prop := decayEndsRow.holds Try.pinned (OpenSpec.ofChange decayEndsSpec)

/-- ITS FALSE NEIGHBOUR: 'it returns false'. Refute it at one input. -/
def decayEndsWrong : ChangeSpec := { name := "decayEnds", fn := fun _ => fun
  | [d1, d2, d3] => { results := [.lit (.bool false)], args := [d1, d2, d3] }
  | _ => none }
def DecayEndsWrongFalsely : Prop := decayEndsRow.holds Try.pinned (OpenSpec.ofChange decayEndsWrong)

/-- 'gangerlaw02.DecayPays': WHATEVER THE INPUT: true; the input reads as it did. -/
def decayPaysSpec : ChangeSpec := { name := "decayPays", fn := fun _ => fun
  | [d1, d2, d3, d4, d5] => { results := [.lit (.bool true)], args := [d1, d2, d3, d4, d5] }
  | _ => none }
def decayPaysRow : OpenClaim := { program := "ytaagimadfhcflaa", sum := "d1dba83e316fab8e3b79543d738b965027cc8875692136962bd3a395788c48d8", func := "ganger/gangerlaw02.DecayPays", spec := "decayPays", named := ["math/bits.divideError", "math/bits.overflowError"], apart := false }
def DecayPaysSaid : Prop := decayPaysRow.holds Try.pinned (OpenSpec.ofChange decayPaysSpec)

/-- ITS FALSE NEIGHBOUR: 'it returns false'. Refute it at one input. -/
def decayPaysWrong : ChangeSpec := { name := "decayPays", fn := fun _ => fun
  | [d1, d2, d3, d4, d5] => { results := [.lit (.bool false)], args := [d1, d2, d3, d4, d5] }
  | _ => none }
def DecayPaysWrongFalsely : Prop := decayPaysRow.holds Try.pinned (OpenSpec.ofChange decayPaysWrong)

/- THE SECOND FORM. 'bulk': how many values and letters a reading holds, each counted each time it is reached (what is shared counts as often as it is met; a slice's spare places count too). A statement '..UptoSaid' is the law's where the arguments, and the package variables that the reading takes, are together of bulk at most 1048576: NARROWER than '..Said'. Prove '..Said' where nothing that the law and all that it calls make is longer than what came in: it says more and counts as full. Else prove '..UptoSaid'. A law counts once. -/
mutual
def uptoBulk {H : Type} : DataW H → Nat
  | .lit (.string bytes) => bytes.length + 1
  | .lit _ => 1
  | .nil => 1
  | .ptr d => uptoBulk d + 1
  | .slice elems spare => uptoBulkAll elems + uptoBulkAll spare + 1
  | .agg parts => uptoBulkAll parts + 1
  | .iface _ d => uptoBulk d + 1
  | .map entries => uptoBulkEntries entries + 1
  | .held _ => 1
def uptoBulkAll {H : Type} : List (DataW H) → Nat
  | [] => 0
  | d :: r => uptoBulk d + uptoBulkAll r
def uptoBulkEntries {H : Type} : List (Lit × DataW H) → Nat
  | [] => 0
  | x :: r => uptoBulkEntry x + uptoBulkEntries r
def uptoBulkEntry {H : Type} : Lit × DataW H → Nat
  | (.string bytes, d) => bytes.length + uptoBulk d + 1
  | (_, d) => uptoBulk d + 1
 end
def uptoSmall : (H : Type) → List (DataW H) → Bool := fun _ ds => decide (uptoBulkAll ds ≤ 1048576)
def OpenSpec.upto (s : _root_.Go.ChangeSpec) : _root_.Go.OpenSpec := { _root_.Go.OpenSpec.ofChange s with cond := some uptoSmall }

/-- 'gangerlaw02.DecayFactors', WHERE WHAT IT READS IS OF BULK AT MOST 1048576: true; the input reads as it did. -/
def decayFactorsUptoRow : OpenClaim := { program := "ytaagimadfhcflaa", sum := "d1dba83e316fab8e3b79543d738b965027cc8875692136962bd3a395788c48d8", func := "ganger/gangerlaw02.DecayFactors", spec := "decayFactors", named := ["math/bits.divideError", "math/bits.overflowError"], apart := false, narrowed := true }
def DecayFactorsUptoSaid : Prop := decayFactorsUptoRow.holds Try.pinned (OpenSpec.upto decayFactorsSpec)

/-- 'gangerlaw02.DecayAfters', WHERE WHAT IT READS IS OF BULK AT MOST 1048576: true; the input reads as it did. -/
def decayAftersUptoRow : OpenClaim := { program := "ytaagimadfhcflaa", sum := "d1dba83e316fab8e3b79543d738b965027cc8875692136962bd3a395788c48d8", func := "ganger/gangerlaw02.DecayAfters", spec := "decayAfters", named := ["math/bits.divideError", "math/bits.overflowError"], apart := false, narrowed := true }
def DecayAftersUptoSaid : Prop := decayAftersUptoRow.holds Try.pinned (OpenSpec.upto decayAftersSpec)

/-- 'gangerlaw02.DecayCharges', WHERE WHAT IT READS IS OF BULK AT MOST 1048576: true; the input reads as it did. -/
def decayChargesUptoRow : OpenClaim := { program := "ytaagimadfhcflaa", sum := "d1dba83e316fab8e3b79543d738b965027cc8875692136962bd3a395788c48d8", func := "ganger/gangerlaw02.DecayCharges", spec := "decayCharges", named := ["math/bits.divideError", "math/bits.overflowError"], apart := false, narrowed := true }
def DecayChargesUptoSaid : Prop := decayChargesUptoRow.holds Try.pinned (OpenSpec.upto decayChargesSpec)

/-- 'gangerlaw02.DecayFalls', WHERE WHAT IT READS IS OF BULK AT MOST 1048576: true; the input reads as it did. -/
def decayFallsUptoRow : OpenClaim := { program := "ytaagimadfhcflaa", sum := "d1dba83e316fab8e3b79543d738b965027cc8875692136962bd3a395788c48d8", func := "ganger/gangerlaw02.DecayFalls", spec := "decayFalls", named := ["math/bits.divideError", "math/bits.overflowError"], apart := false, narrowed := true }
def DecayFallsUptoSaid : Prop := decayFallsUptoRow.holds Try.pinned (OpenSpec.upto decayFallsSpec)

/-- 'gangerlaw02.DecayHalves', WHERE WHAT IT READS IS OF BULK AT MOST 1048576: true; the input reads as it did. -/
def decayHalvesUptoRow : OpenClaim := { program := "ytaagimadfhcflaa", sum := "d1dba83e316fab8e3b79543d738b965027cc8875692136962bd3a395788c48d8", func := "ganger/gangerlaw02.DecayHalves", spec := "decayHalves", named := ["math/bits.divideError", "math/bits.overflowError"], apart := false, narrowed := true }
def DecayHalvesUptoSaid : Prop := decayHalvesUptoRow.holds Try.pinned (OpenSpec.upto decayHalvesSpec)

/-- 'gangerlaw02.DecayEnds', WHERE WHAT IT READS IS OF BULK AT MOST 1048576: true; the input reads as it did. -/
def decayEndsUptoRow : OpenClaim := { program := "ytaagimadfhcflaa", sum := "d1dba83e316fab8e3b79543d738b965027cc8875692136962bd3a395788c48d8", func := "ganger/gangerlaw02.DecayEnds", spec := "decayEnds", named := ["math/bits.divideError", "math/bits.overflowError"], apart := false, narrowed := true }
def DecayEndsUptoSaid : Prop := decayEndsUptoRow.holds Try.pinned (OpenSpec.upto decayEndsSpec)

/-- 'gangerlaw02.DecayPays', WHERE WHAT IT READS IS OF BULK AT MOST 1048576: true; the input reads as it did. -/
def decayPaysUptoRow : OpenClaim := { program := "ytaagimadfhcflaa", sum := "d1dba83e316fab8e3b79543d738b965027cc8875692136962bd3a395788c48d8", func := "ganger/gangerlaw02.DecayPays", spec := "decayPays", named := ["math/bits.divideError", "math/bits.overflowError"], apart := false, narrowed := true }
def DecayPaysUptoSaid : Prop := decayPaysUptoRow.holds Try.pinned (OpenSpec.upto decayPaysSpec)

end Rows
end Go.Proofs.Ytaagimadfhcflaa
