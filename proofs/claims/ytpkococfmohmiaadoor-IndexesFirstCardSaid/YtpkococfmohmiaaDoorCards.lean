/-
  DERIVED. GIVEN WITH THE SEED: THE CARDS: each row of YtpkococfmohmiaaDoorRows.lean that lists a variable, with what it lists TIED to the program's text (the seventh form; the later family's looks); each row that meets fmt, with fmt's text TOLD by the authors' own Lean function (tested against real Go, not proved from fmt's source: count such statements apart). THE CARD IS WHAT COUNTS. Prove the row's statement (the work); the ties are given (YtpkococfmohmiaaDoorTie.lean); close each card by the builder's one call (the guide's Derived/Test/ToyasCard.lean, 'card_holds'). Laid BY PROGRAM, IN A SANDBOX (cutbox-door.mjs). By AI agents, Wed Nov 11 2026. No macro, syntax, notation, axiom, sorry.
-/
import Derived.Test.YtpkococfmohmiaaDoorRows
import GoSem.ClaimSeven
namespace Go.Proofs.YtpkococfmohmiaaDoor
namespace Rows

/-- THE TIED CARD OF 'gangerlaw06.IndexesParses'. -/
def indexesParsesCard : Claim7 := { stood := { row := indexesParsesRow, standIns := [], harness := (true, "00f26403a5f1c8917e162e8000690421a24c7393de10bd2390dda86fe7f28128"), looks := false }, kinds := [], alts := [], laidByText := true, laidKinds := [.data, .data, .data], laidTests := true, laidLooks := .later }
def IndexesParsesCardSaid : Prop := Claim7.holds Tryd.pinned (.plain (OpenSpec.ofChange indexesParsesSpec)) indexesParsesCard

/-- THE TIED CARD OF 'gangerlaw06.IndexesPrints'. -/
def indexesPrintsCard : Claim7 := { stood := { row := indexesPrintsRow, standIns := [], harness := (true, "00f26403a5f1c8917e162e8000690421a24c7393de10bd2390dda86fe7f28128"), looks := false }, kinds := [], alts := [], laidByText := true, laidKinds := [.data, .data, .data], laidTests := true, laidLooks := .later }
def IndexesPrintsCardSaid : Prop := Claim7.holds Tryd.pinned (.plain (OpenSpec.ofChange indexesPrintsSpec)) indexesPrintsCard

/-- THE TIED CARD OF 'gangerlaw06.IndexesBack'. -/
def indexesBackCard : Claim7 := { stood := { row := indexesBackRow, standIns := [], harness := (true, "00f26403a5f1c8917e162e8000690421a24c7393de10bd2390dda86fe7f28128"), looks := false }, kinds := [], alts := [], laidByText := true, laidKinds := [.data, .data, .data], laidTests := true, laidLooks := .later }
def IndexesBackCardSaid : Prop := Claim7.holds Tryd.pinned (.plain (OpenSpec.ofChange indexesBackSpec)) indexesBackCard

/-- THE TIED CARD OF 'gangerlaw06.IndexesJoins'. -/
def indexesJoinsCard : Claim7 := { stood := { row := indexesJoinsRow, standIns := [], harness := (true, "00f26403a5f1c8917e162e8000690421a24c7393de10bd2390dda86fe7f28128"), looks := false }, kinds := [], alts := [], laidByText := true, laidKinds := [.data, .data, .data], laidTests := true, laidLooks := .later }
def IndexesJoinsCardSaid : Prop := Claim7.holds Tryd.pinned (.plain (OpenSpec.ofChange indexesJoinsSpec)) indexesJoinsCard

/-- THE TIED CARD OF 'gangerlaw06.IndexesRuns'. -/
def indexesRunsCard : Claim7 := { stood := { row := indexesRunsRow, standIns := [], harness := (true, "00f26403a5f1c8917e162e8000690421a24c7393de10bd2390dda86fe7f28128"), looks := false }, kinds := [], alts := [], laidByText := true, laidKinds := [.data, .data, .data], laidTests := true, laidLooks := .later }
def IndexesRunsCardSaid : Prop := Claim7.holds Tryd.pinned (.plain (OpenSpec.ofChange indexesRunsSpec)) indexesRunsCard

/-- THE TIED CARD OF 'gangerlaw06.IndexesFirst'. -/
def indexesFirstCard : Claim7 := { stood := { row := indexesFirstRow, standIns := [], harness := (true, "00f26403a5f1c8917e162e8000690421a24c7393de10bd2390dda86fe7f28128"), looks := false }, kinds := [], alts := [], laidByText := true, laidKinds := [.data, .data, .data], laidTests := true, laidLooks := .later }
def IndexesFirstCardSaid : Prop := Claim7.holds Tryd.pinned (.plain (OpenSpec.ofChange indexesFirstSpec)) indexesFirstCard

/-- THE TIED CARD OF 'gangerlaw06.IndexesCounts'. -/
def indexesCountsCard : Claim7 := { stood := { row := indexesCountsRow, standIns := [], harness := (true, "00f26403a5f1c8917e162e8000690421a24c7393de10bd2390dda86fe7f28128"), looks := false }, kinds := [], alts := [], laidByText := true, laidKinds := [.data, .data, .data], laidTests := true, laidLooks := .later }
def IndexesCountsCardSaid : Prop := Claim7.holds Tryd.pinned (.plain (OpenSpec.ofChange indexesCountsSpec)) indexesCountsCard

/-- THE SECOND FORM's CARD OF 'gangerlaw06.IndexesParses'. -/
def indexesParsesUptoCard : Claim7 := { stood := { row := indexesParsesUptoRow, standIns := [], harness := (true, "00f26403a5f1c8917e162e8000690421a24c7393de10bd2390dda86fe7f28128"), looks := false }, kinds := [], alts := [], laidByText := true, laidKinds := [.data, .data, .data], laidTests := true, laidLooks := .later }
def IndexesParsesUptoCardSaid : Prop := Claim7.holds Tryd.pinned (.plain (OpenSpec.upto indexesParsesSpec)) indexesParsesUptoCard

/-- THE SECOND FORM's CARD OF 'gangerlaw06.IndexesPrints'. -/
def indexesPrintsUptoCard : Claim7 := { stood := { row := indexesPrintsUptoRow, standIns := [], harness := (true, "00f26403a5f1c8917e162e8000690421a24c7393de10bd2390dda86fe7f28128"), looks := false }, kinds := [], alts := [], laidByText := true, laidKinds := [.data, .data, .data], laidTests := true, laidLooks := .later }
def IndexesPrintsUptoCardSaid : Prop := Claim7.holds Tryd.pinned (.plain (OpenSpec.upto indexesPrintsSpec)) indexesPrintsUptoCard

/-- THE SECOND FORM's CARD OF 'gangerlaw06.IndexesBack'. -/
def indexesBackUptoCard : Claim7 := { stood := { row := indexesBackUptoRow, standIns := [], harness := (true, "00f26403a5f1c8917e162e8000690421a24c7393de10bd2390dda86fe7f28128"), looks := false }, kinds := [], alts := [], laidByText := true, laidKinds := [.data, .data, .data], laidTests := true, laidLooks := .later }
def IndexesBackUptoCardSaid : Prop := Claim7.holds Tryd.pinned (.plain (OpenSpec.upto indexesBackSpec)) indexesBackUptoCard

/-- THE SECOND FORM's CARD OF 'gangerlaw06.IndexesJoins'. -/
def indexesJoinsUptoCard : Claim7 := { stood := { row := indexesJoinsUptoRow, standIns := [], harness := (true, "00f26403a5f1c8917e162e8000690421a24c7393de10bd2390dda86fe7f28128"), looks := false }, kinds := [], alts := [], laidByText := true, laidKinds := [.data, .data, .data], laidTests := true, laidLooks := .later }
def IndexesJoinsUptoCardSaid : Prop := Claim7.holds Tryd.pinned (.plain (OpenSpec.upto indexesJoinsSpec)) indexesJoinsUptoCard

/-- THE SECOND FORM's CARD OF 'gangerlaw06.IndexesRuns'. -/
def indexesRunsUptoCard : Claim7 := { stood := { row := indexesRunsUptoRow, standIns := [], harness := (true, "00f26403a5f1c8917e162e8000690421a24c7393de10bd2390dda86fe7f28128"), looks := false }, kinds := [], alts := [], laidByText := true, laidKinds := [.data, .data, .data], laidTests := true, laidLooks := .later }
def IndexesRunsUptoCardSaid : Prop := Claim7.holds Tryd.pinned (.plain (OpenSpec.upto indexesRunsSpec)) indexesRunsUptoCard

/-- THE SECOND FORM's CARD OF 'gangerlaw06.IndexesFirst'. -/
def indexesFirstUptoCard : Claim7 := { stood := { row := indexesFirstUptoRow, standIns := [], harness := (true, "00f26403a5f1c8917e162e8000690421a24c7393de10bd2390dda86fe7f28128"), looks := false }, kinds := [], alts := [], laidByText := true, laidKinds := [.data, .data, .data], laidTests := true, laidLooks := .later }
def IndexesFirstUptoCardSaid : Prop := Claim7.holds Tryd.pinned (.plain (OpenSpec.upto indexesFirstSpec)) indexesFirstUptoCard

/-- THE SECOND FORM's CARD OF 'gangerlaw06.IndexesCounts'. -/
def indexesCountsUptoCard : Claim7 := { stood := { row := indexesCountsUptoRow, standIns := [], harness := (true, "00f26403a5f1c8917e162e8000690421a24c7393de10bd2390dda86fe7f28128"), looks := false }, kinds := [], alts := [], laidByText := true, laidKinds := [.data, .data, .data], laidTests := true, laidLooks := .later }
def IndexesCountsUptoCardSaid : Prop := Claim7.holds Tryd.pinned (.plain (OpenSpec.upto indexesCountsSpec)) indexesCountsUptoCard
end Rows
end Go.Proofs.YtpkococfmohmiaaDoor
