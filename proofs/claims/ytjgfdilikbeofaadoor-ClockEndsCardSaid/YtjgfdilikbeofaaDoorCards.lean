/-
  DERIVED. GIVEN WITH THE SEED: THE CARDS: each row of YtjgfdilikbeofaaDoorRows.lean that lists a variable, with what it lists TIED to the program's text (the seventh form; the later family's looks); each row that meets fmt, with fmt's text TOLD by the authors' own Lean function (tested against real Go, not proved from fmt's source: count such statements apart). THE CARD IS WHAT COUNTS. Prove the row's statement (the work); the ties are given (YtjgfdilikbeofaaDoorTie.lean); close each card by the builder's one call (the guide's Derived/Test/ToyasCard.lean, 'card_holds'). Laid BY PROGRAM, IN A SANDBOX (cutbox-door.mjs). By AI agents, Wed Nov 11 2026. No macro, syntax, notation, axiom, sorry.
-/
import Derived.Test.YtjgfdilikbeofaaDoorRows
import GoSem.ClaimSeven
namespace Go.Proofs.YtjgfdilikbeofaaDoor
namespace Rows

/-- THE TIED CARD OF 'gangerlaw07.ClockParses'. -/
def clockParsesCard : Claim7 := { stood := { row := clockParsesRow, standIns := [], harness := (true, "9c6a9580fe6169ece0f8123ddedf5831c5f0fbe126c1e811b996ba4fcd9d56a0"), looks := false }, kinds := [], alts := [], laidByText := true, laidKinds := [.data, .data, .data, .data, .pinned], laidTests := true, laidLooks := .later }
def ClockParsesCardSaid : Prop := Claim7.holds Tryd.pinned (.plain (OpenSpec.ofChange clockParsesSpec)) clockParsesCard

/-- THE TIED CARD OF 'gangerlaw07.ClockPrints'. -/
def clockPrintsCard : Claim7 := { stood := { row := clockPrintsRow, standIns := [], harness := (true, "9c6a9580fe6169ece0f8123ddedf5831c5f0fbe126c1e811b996ba4fcd9d56a0"), looks := false }, kinds := [], alts := [], laidByText := true, laidKinds := [.data, .data, .data, .data, .pinned], laidTests := true, laidLooks := .later }
def ClockPrintsCardSaid : Prop := Claim7.holds Tryd.pinned (.plain (OpenSpec.ofChange clockPrintsSpec)) clockPrintsCard

/-- THE TIED CARD OF 'gangerlaw07.ClockBack'. -/
def clockBackCard : Claim7 := { stood := { row := clockBackRow, standIns := [], harness := (true, "9c6a9580fe6169ece0f8123ddedf5831c5f0fbe126c1e811b996ba4fcd9d56a0"), looks := false }, kinds := [], alts := [], laidByText := true, laidKinds := [.data, .data, .data, .data, .pinned], laidTests := true, laidLooks := .later }
def ClockBackCardSaid : Prop := Claim7.holds Tryd.pinned (.plain (OpenSpec.ofChange clockBackSpec)) clockBackCard

/-- THE TIED CARD OF 'gangerlaw07.ClockForms'. -/
def clockFormsCard : Claim7 := { stood := { row := clockFormsRow, standIns := [], harness := (true, "9c6a9580fe6169ece0f8123ddedf5831c5f0fbe126c1e811b996ba4fcd9d56a0"), looks := false }, kinds := [], alts := [], laidByText := true, laidKinds := [.data, .data, .data, .data, .pinned], laidTests := true, laidLooks := .later }
def ClockFormsCardSaid : Prop := Claim7.holds Tryd.pinned (.plain (OpenSpec.ofChange clockFormsSpec)) clockFormsCard

/-- THE TIED CARD OF 'gangerlaw07.ClockEnds'. -/
def clockEndsCard : Claim7 := { stood := { row := clockEndsRow, standIns := [], harness := (true, "9c6a9580fe6169ece0f8123ddedf5831c5f0fbe126c1e811b996ba4fcd9d56a0"), looks := false }, kinds := [], alts := [], laidByText := true, laidKinds := [.data, .data, .data, .data, .pinned], laidTests := true, laidLooks := .later }
def ClockEndsCardSaid : Prop := Claim7.holds Tryd.pinned (.plain (OpenSpec.ofChange clockEndsSpec)) clockEndsCard

/-- THE TIED CARD OF 'gangerlaw07.ClockMinutes'. -/
def clockMinutesCard : Claim7 := { stood := { row := clockMinutesRow, standIns := [], harness := (true, "9c6a9580fe6169ece0f8123ddedf5831c5f0fbe126c1e811b996ba4fcd9d56a0"), looks := false }, kinds := [], alts := [], laidByText := true, laidKinds := [.data, .data, .data, .data, .pinned], laidTests := true, laidLooks := .later }
def ClockMinutesCardSaid : Prop := Claim7.holds Tryd.pinned (.plain (OpenSpec.ofChange clockMinutesSpec)) clockMinutesCard

/-- THE TIED CARD OF 'gangerlaw07.ClockApart'. -/
def clockApartCard : Claim7 := { stood := { row := clockApartRow, standIns := [], harness := (true, "9c6a9580fe6169ece0f8123ddedf5831c5f0fbe126c1e811b996ba4fcd9d56a0"), looks := false }, kinds := [], alts := [], laidByText := true, laidKinds := [.data, .data, .data, .data, .pinned], laidTests := true, laidLooks := .later }
def ClockApartCardSaid : Prop := Claim7.holds Tryd.pinned (.plain (OpenSpec.ofChange clockApartSpec)) clockApartCard

/-- THE SECOND FORM's CARD OF 'gangerlaw07.ClockParses'. -/
def clockParsesUptoCard : Claim7 := { stood := { row := clockParsesUptoRow, standIns := [], harness := (true, "9c6a9580fe6169ece0f8123ddedf5831c5f0fbe126c1e811b996ba4fcd9d56a0"), looks := false }, kinds := [], alts := [], laidByText := true, laidKinds := [.data, .data, .data, .data, .pinned], laidTests := true, laidLooks := .later }
def ClockParsesUptoCardSaid : Prop := Claim7.holds Tryd.pinned (.plain (OpenSpec.upto clockParsesSpec)) clockParsesUptoCard

/-- THE SECOND FORM's CARD OF 'gangerlaw07.ClockPrints'. -/
def clockPrintsUptoCard : Claim7 := { stood := { row := clockPrintsUptoRow, standIns := [], harness := (true, "9c6a9580fe6169ece0f8123ddedf5831c5f0fbe126c1e811b996ba4fcd9d56a0"), looks := false }, kinds := [], alts := [], laidByText := true, laidKinds := [.data, .data, .data, .data, .pinned], laidTests := true, laidLooks := .later }
def ClockPrintsUptoCardSaid : Prop := Claim7.holds Tryd.pinned (.plain (OpenSpec.upto clockPrintsSpec)) clockPrintsUptoCard

/-- THE SECOND FORM's CARD OF 'gangerlaw07.ClockBack'. -/
def clockBackUptoCard : Claim7 := { stood := { row := clockBackUptoRow, standIns := [], harness := (true, "9c6a9580fe6169ece0f8123ddedf5831c5f0fbe126c1e811b996ba4fcd9d56a0"), looks := false }, kinds := [], alts := [], laidByText := true, laidKinds := [.data, .data, .data, .data, .pinned], laidTests := true, laidLooks := .later }
def ClockBackUptoCardSaid : Prop := Claim7.holds Tryd.pinned (.plain (OpenSpec.upto clockBackSpec)) clockBackUptoCard

/-- THE SECOND FORM's CARD OF 'gangerlaw07.ClockForms'. -/
def clockFormsUptoCard : Claim7 := { stood := { row := clockFormsUptoRow, standIns := [], harness := (true, "9c6a9580fe6169ece0f8123ddedf5831c5f0fbe126c1e811b996ba4fcd9d56a0"), looks := false }, kinds := [], alts := [], laidByText := true, laidKinds := [.data, .data, .data, .data, .pinned], laidTests := true, laidLooks := .later }
def ClockFormsUptoCardSaid : Prop := Claim7.holds Tryd.pinned (.plain (OpenSpec.upto clockFormsSpec)) clockFormsUptoCard

/-- THE SECOND FORM's CARD OF 'gangerlaw07.ClockEnds'. -/
def clockEndsUptoCard : Claim7 := { stood := { row := clockEndsUptoRow, standIns := [], harness := (true, "9c6a9580fe6169ece0f8123ddedf5831c5f0fbe126c1e811b996ba4fcd9d56a0"), looks := false }, kinds := [], alts := [], laidByText := true, laidKinds := [.data, .data, .data, .data, .pinned], laidTests := true, laidLooks := .later }
def ClockEndsUptoCardSaid : Prop := Claim7.holds Tryd.pinned (.plain (OpenSpec.upto clockEndsSpec)) clockEndsUptoCard

/-- THE SECOND FORM's CARD OF 'gangerlaw07.ClockMinutes'. -/
def clockMinutesUptoCard : Claim7 := { stood := { row := clockMinutesUptoRow, standIns := [], harness := (true, "9c6a9580fe6169ece0f8123ddedf5831c5f0fbe126c1e811b996ba4fcd9d56a0"), looks := false }, kinds := [], alts := [], laidByText := true, laidKinds := [.data, .data, .data, .data, .pinned], laidTests := true, laidLooks := .later }
def ClockMinutesUptoCardSaid : Prop := Claim7.holds Tryd.pinned (.plain (OpenSpec.upto clockMinutesSpec)) clockMinutesUptoCard

/-- THE SECOND FORM's CARD OF 'gangerlaw07.ClockApart'. -/
def clockApartUptoCard : Claim7 := { stood := { row := clockApartUptoRow, standIns := [], harness := (true, "9c6a9580fe6169ece0f8123ddedf5831c5f0fbe126c1e811b996ba4fcd9d56a0"), looks := false }, kinds := [], alts := [], laidByText := true, laidKinds := [.data, .data, .data, .data, .pinned], laidTests := true, laidLooks := .later }
def ClockApartUptoCardSaid : Prop := Claim7.holds Tryd.pinned (.plain (OpenSpec.upto clockApartSpec)) clockApartUptoCard
end Rows
end Go.Proofs.YtjgfdilikbeofaaDoor
