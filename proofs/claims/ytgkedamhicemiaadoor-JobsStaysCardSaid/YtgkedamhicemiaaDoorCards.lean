/-
  DERIVED. GIVEN WITH THE SEED: THE CARDS: each row of YtgkedamhicemiaaDoorRows.lean that lists a variable, with what it lists TIED to the program's text (the seventh form; the later family's looks); each row that meets fmt, with fmt's text TOLD by the authors' own Lean function (tested against real Go, not proved from fmt's source: count such statements apart). THE CARD IS WHAT COUNTS. Prove the row's statement (the work); the ties are given (YtgkedamhicemiaaDoorTie.lean); close each card by the builder's one call (the guide's Derived/Test/ToyasCard.lean, 'card_holds'). Laid BY PROGRAM, IN A SANDBOX (cutbox-door.mjs). By AI agents, Wed Nov 11 2026. No macro, syntax, notation, axiom, sorry.
-/
import Derived.Test.YtgkedamhicemiaaDoorRows
import GoSem.ClaimSeven
namespace Go.Proofs.YtgkedamhicemiaaDoor
namespace Rows

/-- THE TIED CARD OF 'gangerlaw13.JobsAdmits'. -/
def jobsAdmitsCard : Claim7 := { stood := { row := jobsAdmitsRow, standIns := [], harness := (true, "d853ecfc695862ba85d20721289aa9d2b7cba5306cf46fbd3c6425a6307f6028"), looks := false }, kinds := [], alts := [], laidByText := true, laidKinds := [.data, .pinned], laidTests := true, laidLooks := .later }
def JobsAdmitsCardSaid : Prop := Claim7.holds Tryd.pinned (.plain (OpenSpec.ofChange jobsAdmitsSpec)) jobsAdmitsCard

/-- THE TIED CARD OF 'gangerlaw13.JobsRuns'. -/
def jobsRunsCard : Claim7 := { stood := { row := jobsRunsRow, standIns := [], harness := (true, "d853ecfc695862ba85d20721289aa9d2b7cba5306cf46fbd3c6425a6307f6028"), looks := false }, kinds := [], alts := [], laidByText := true, laidKinds := [.data, .pinned], laidTests := true, laidLooks := .later }
def JobsRunsCardSaid : Prop := Claim7.holds Tryd.pinned (.plain (OpenSpec.ofChange jobsRunsSpec)) jobsRunsCard

/-- THE TIED CARD OF 'gangerlaw13.JobsStays'. -/
def jobsStaysCard : Claim7 := { stood := { row := jobsStaysRow, standIns := [], harness := (true, "d853ecfc695862ba85d20721289aa9d2b7cba5306cf46fbd3c6425a6307f6028"), looks := false }, kinds := [], alts := [], laidByText := true, laidKinds := [.data, .pinned], laidTests := true, laidLooks := .later }
def JobsStaysCardSaid : Prop := Claim7.holds Tryd.pinned (.plain (OpenSpec.ofChange jobsStaysSpec)) jobsStaysCard

/-- THE TIED CARD OF 'gangerlaw13.JobsStates'. -/
def jobsStatesCard : Claim7 := { stood := { row := jobsStatesRow, standIns := [], harness := (true, "d853ecfc695862ba85d20721289aa9d2b7cba5306cf46fbd3c6425a6307f6028"), looks := false }, kinds := [], alts := [], laidByText := true, laidKinds := [.data, .pinned], laidTests := true, laidLooks := .later }
def JobsStatesCardSaid : Prop := Claim7.holds Tryd.pinned (.plain (OpenSpec.ofChange jobsStatesSpec)) jobsStatesCard

/-- THE TIED CARD OF 'gangerlaw13.JobsArrays'. -/
def jobsArraysCard : Claim7 := { stood := { row := jobsArraysRow, standIns := [], harness := (true, "d853ecfc695862ba85d20721289aa9d2b7cba5306cf46fbd3c6425a6307f6028"), looks := false }, kinds := [], alts := [], laidByText := true, laidKinds := [.data, .pinned], laidTests := true, laidLooks := .later }
def JobsArraysCardSaid : Prop := Claim7.holds Tryd.pinned (.plain (OpenSpec.ofChange jobsArraysSpec)) jobsArraysCard

/-- THE TIED CARD OF 'gangerlaw13.JobsNil'. -/
def jobsNilCard : Claim7 := { stood := { row := jobsNilRow, standIns := [], harness := (true, "d853ecfc695862ba85d20721289aa9d2b7cba5306cf46fbd3c6425a6307f6028"), looks := false }, kinds := [], alts := [], laidByText := true, laidKinds := [.data, .pinned], laidTests := true, laidLooks := .later }
def JobsNilCardSaid : Prop := Claim7.holds Tryd.pinned (.plain (OpenSpec.ofChange jobsNilSpec)) jobsNilCard

/-- THE SECOND FORM's CARD OF 'gangerlaw13.JobsAdmits'. -/
def jobsAdmitsUptoCard : Claim7 := { stood := { row := jobsAdmitsUptoRow, standIns := [], harness := (true, "d853ecfc695862ba85d20721289aa9d2b7cba5306cf46fbd3c6425a6307f6028"), looks := false }, kinds := [], alts := [], laidByText := true, laidKinds := [.data, .pinned], laidTests := true, laidLooks := .later }
def JobsAdmitsUptoCardSaid : Prop := Claim7.holds Tryd.pinned (.plain (OpenSpec.upto jobsAdmitsSpec)) jobsAdmitsUptoCard

/-- THE SECOND FORM's CARD OF 'gangerlaw13.JobsRuns'. -/
def jobsRunsUptoCard : Claim7 := { stood := { row := jobsRunsUptoRow, standIns := [], harness := (true, "d853ecfc695862ba85d20721289aa9d2b7cba5306cf46fbd3c6425a6307f6028"), looks := false }, kinds := [], alts := [], laidByText := true, laidKinds := [.data, .pinned], laidTests := true, laidLooks := .later }
def JobsRunsUptoCardSaid : Prop := Claim7.holds Tryd.pinned (.plain (OpenSpec.upto jobsRunsSpec)) jobsRunsUptoCard

/-- THE SECOND FORM's CARD OF 'gangerlaw13.JobsStays'. -/
def jobsStaysUptoCard : Claim7 := { stood := { row := jobsStaysUptoRow, standIns := [], harness := (true, "d853ecfc695862ba85d20721289aa9d2b7cba5306cf46fbd3c6425a6307f6028"), looks := false }, kinds := [], alts := [], laidByText := true, laidKinds := [.data, .pinned], laidTests := true, laidLooks := .later }
def JobsStaysUptoCardSaid : Prop := Claim7.holds Tryd.pinned (.plain (OpenSpec.upto jobsStaysSpec)) jobsStaysUptoCard

/-- THE SECOND FORM's CARD OF 'gangerlaw13.JobsStates'. -/
def jobsStatesUptoCard : Claim7 := { stood := { row := jobsStatesUptoRow, standIns := [], harness := (true, "d853ecfc695862ba85d20721289aa9d2b7cba5306cf46fbd3c6425a6307f6028"), looks := false }, kinds := [], alts := [], laidByText := true, laidKinds := [.data, .pinned], laidTests := true, laidLooks := .later }
def JobsStatesUptoCardSaid : Prop := Claim7.holds Tryd.pinned (.plain (OpenSpec.upto jobsStatesSpec)) jobsStatesUptoCard

/-- THE SECOND FORM's CARD OF 'gangerlaw13.JobsArrays'. -/
def jobsArraysUptoCard : Claim7 := { stood := { row := jobsArraysUptoRow, standIns := [], harness := (true, "d853ecfc695862ba85d20721289aa9d2b7cba5306cf46fbd3c6425a6307f6028"), looks := false }, kinds := [], alts := [], laidByText := true, laidKinds := [.data, .pinned], laidTests := true, laidLooks := .later }
def JobsArraysUptoCardSaid : Prop := Claim7.holds Tryd.pinned (.plain (OpenSpec.upto jobsArraysSpec)) jobsArraysUptoCard

/-- THE SECOND FORM's CARD OF 'gangerlaw13.JobsNil'. -/
def jobsNilUptoCard : Claim7 := { stood := { row := jobsNilUptoRow, standIns := [], harness := (true, "d853ecfc695862ba85d20721289aa9d2b7cba5306cf46fbd3c6425a6307f6028"), looks := false }, kinds := [], alts := [], laidByText := true, laidKinds := [.data, .pinned], laidTests := true, laidLooks := .later }
def JobsNilUptoCardSaid : Prop := Claim7.holds Tryd.pinned (.plain (OpenSpec.upto jobsNilSpec)) jobsNilUptoCard
end Rows
end Go.Proofs.YtgkedamhicemiaaDoor
