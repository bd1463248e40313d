/-
  DERIVED. GIVEN WITH THE SEED: THE CARDS: each row of YtgidipomfbikiaaDoorRows.lean that lists a variable, with what it lists TIED to the program's text (the seventh form; the later family's looks); each row that meets fmt, with fmt's text TOLD by the authors' own Lean function (tested against real Go, not proved from fmt's source: count such statements apart). THE CARD IS WHAT COUNTS. Prove the row's statement (the work); the ties are given (YtgidipomfbikiaaDoorTie.lean); close each card by the builder's one call (the guide's Derived/Test/ToyasCard.lean, 'card_holds'). Laid BY PROGRAM, IN A SANDBOX (cutbox-door.mjs). By AI agents, Wed Nov 11 2026. No macro, syntax, notation, axiom, sorry.
-/
import Derived.Test.YtgidipomfbikiaaDoorRows
import GoSem.ClaimSeven
namespace Go.Proofs.YtgidipomfbikiaaDoor
namespace Rows

/-- THE TIED CARD OF 'gangerlaw10.ConfPrints'. -/
def confPrintsCard : Claim7 := { stood := { row := confPrintsRow, standIns := [], harness := (true, "e62354747ba79042a2373bfb323fb84de198cf19a49aa6075cf516577df363cb"), looks := false }, kinds := [], alts := [], laidByText := true, laidKinds := [.data, .data, .data, .data, .pinned], laidTests := true, laidLooks := .later }
def ConfPrintsCardSaid : Prop := Claim7.holds Tryd.pinned (.plain (OpenSpec.ofChange confPrintsSpec)) confPrintsCard

/-- THE TIED CARD OF 'gangerlaw10.ConfBack'. -/
def confBackCard : Claim7 := { stood := { row := confBackRow, standIns := [], harness := (true, "e62354747ba79042a2373bfb323fb84de198cf19a49aa6075cf516577df363cb"), looks := false }, kinds := [], alts := [], laidByText := true, laidKinds := [.data, .data, .data, .data, .pinned], laidTests := true, laidLooks := .later }
def ConfBackCardSaid : Prop := Claim7.holds Tryd.pinned (.plain (OpenSpec.ofChange confBackSpec)) confBackCard

/-- THE TIED CARD OF 'gangerlaw10.ConfLines'. -/
def confLinesCard : Claim7 := { stood := { row := confLinesRow, standIns := [], harness := (true, "e62354747ba79042a2373bfb323fb84de198cf19a49aa6075cf516577df363cb"), looks := false }, kinds := [], alts := [], laidByText := true, laidKinds := [.data, .data, .data, .data, .pinned], laidTests := true, laidLooks := .later }
def ConfLinesCardSaid : Prop := Claim7.holds Tryd.pinned (.plain (OpenSpec.ofChange confLinesSpec)) confLinesCard

/-- THE TIED CARD OF 'gangerlaw10.ConfTwice'. -/
def confTwiceCard : Claim7 := { stood := { row := confTwiceRow, standIns := [], harness := (true, "e62354747ba79042a2373bfb323fb84de198cf19a49aa6075cf516577df363cb"), looks := false }, kinds := [], alts := [], laidByText := true, laidKinds := [.data, .data, .data, .data, .pinned], laidTests := true, laidLooks := .later }
def ConfTwiceCardSaid : Prop := Claim7.holds Tryd.pinned (.plain (OpenSpec.ofChange confTwiceSpec)) confTwiceCard

/-- THE TIED CARD OF 'gangerlaw10.ConfJoins'. -/
def confJoinsCard : Claim7 := { stood := { row := confJoinsRow, standIns := [], harness := (true, "e62354747ba79042a2373bfb323fb84de198cf19a49aa6075cf516577df363cb"), looks := false }, kinds := [], alts := [], laidByText := true, laidKinds := [.data, .data, .data, .data, .pinned], laidTests := true, laidLooks := .later }
def ConfJoinsCardSaid : Prop := Claim7.holds Tryd.pinned (.plain (OpenSpec.ofChange confJoinsSpec)) confJoinsCard

/-- THE TIED CARD OF 'gangerlaw10.ConfPaths'. -/
def confPathsCard : Claim7 := { stood := { row := confPathsRow, standIns := [], harness := (true, "e62354747ba79042a2373bfb323fb84de198cf19a49aa6075cf516577df363cb"), looks := false }, kinds := [], alts := [], laidByText := true, laidKinds := [.data, .data, .data, .data, .pinned], laidTests := true, laidLooks := .later }
def ConfPathsCardSaid : Prop := Claim7.holds Tryd.pinned (.plain (OpenSpec.ofChange confPathsSpec)) confPathsCard

/-- THE SECOND FORM's CARD OF 'gangerlaw10.ConfPrints'. -/
def confPrintsUptoCard : Claim7 := { stood := { row := confPrintsUptoRow, standIns := [], harness := (true, "e62354747ba79042a2373bfb323fb84de198cf19a49aa6075cf516577df363cb"), looks := false }, kinds := [], alts := [], laidByText := true, laidKinds := [.data, .data, .data, .data, .pinned], laidTests := true, laidLooks := .later }
def ConfPrintsUptoCardSaid : Prop := Claim7.holds Tryd.pinned (.plain (OpenSpec.upto confPrintsSpec)) confPrintsUptoCard

/-- THE SECOND FORM's CARD OF 'gangerlaw10.ConfBack'. -/
def confBackUptoCard : Claim7 := { stood := { row := confBackUptoRow, standIns := [], harness := (true, "e62354747ba79042a2373bfb323fb84de198cf19a49aa6075cf516577df363cb"), looks := false }, kinds := [], alts := [], laidByText := true, laidKinds := [.data, .data, .data, .data, .pinned], laidTests := true, laidLooks := .later }
def ConfBackUptoCardSaid : Prop := Claim7.holds Tryd.pinned (.plain (OpenSpec.upto confBackSpec)) confBackUptoCard

/-- THE SECOND FORM's CARD OF 'gangerlaw10.ConfLines'. -/
def confLinesUptoCard : Claim7 := { stood := { row := confLinesUptoRow, standIns := [], harness := (true, "e62354747ba79042a2373bfb323fb84de198cf19a49aa6075cf516577df363cb"), looks := false }, kinds := [], alts := [], laidByText := true, laidKinds := [.data, .data, .data, .data, .pinned], laidTests := true, laidLooks := .later }
def ConfLinesUptoCardSaid : Prop := Claim7.holds Tryd.pinned (.plain (OpenSpec.upto confLinesSpec)) confLinesUptoCard

/-- THE SECOND FORM's CARD OF 'gangerlaw10.ConfTwice'. -/
def confTwiceUptoCard : Claim7 := { stood := { row := confTwiceUptoRow, standIns := [], harness := (true, "e62354747ba79042a2373bfb323fb84de198cf19a49aa6075cf516577df363cb"), looks := false }, kinds := [], alts := [], laidByText := true, laidKinds := [.data, .data, .data, .data, .pinned], laidTests := true, laidLooks := .later }
def ConfTwiceUptoCardSaid : Prop := Claim7.holds Tryd.pinned (.plain (OpenSpec.upto confTwiceSpec)) confTwiceUptoCard

/-- THE SECOND FORM's CARD OF 'gangerlaw10.ConfJoins'. -/
def confJoinsUptoCard : Claim7 := { stood := { row := confJoinsUptoRow, standIns := [], harness := (true, "e62354747ba79042a2373bfb323fb84de198cf19a49aa6075cf516577df363cb"), looks := false }, kinds := [], alts := [], laidByText := true, laidKinds := [.data, .data, .data, .data, .pinned], laidTests := true, laidLooks := .later }
def ConfJoinsUptoCardSaid : Prop := Claim7.holds Tryd.pinned (.plain (OpenSpec.upto confJoinsSpec)) confJoinsUptoCard

/-- THE SECOND FORM's CARD OF 'gangerlaw10.ConfPaths'. -/
def confPathsUptoCard : Claim7 := { stood := { row := confPathsUptoRow, standIns := [], harness := (true, "e62354747ba79042a2373bfb323fb84de198cf19a49aa6075cf516577df363cb"), looks := false }, kinds := [], alts := [], laidByText := true, laidKinds := [.data, .data, .data, .data, .pinned], laidTests := true, laidLooks := .later }
def ConfPathsUptoCardSaid : Prop := Claim7.holds Tryd.pinned (.plain (OpenSpec.upto confPathsSpec)) confPathsUptoCard
end Rows
end Go.Proofs.YtgidipomfbikiaaDoor
