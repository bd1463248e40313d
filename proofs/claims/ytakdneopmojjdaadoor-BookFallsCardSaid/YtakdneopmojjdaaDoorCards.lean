/-
  DERIVED. GIVEN WITH THE SEED: THE CARDS: each row of YtakdneopmojjdaaDoorRows.lean that lists a variable, with what it lists TIED to the program's text (the seventh form; the later family's looks); each row that meets fmt, with fmt's text TOLD by the authors' own Lean function (tested against real Go, not proved from fmt's source: count such statements apart). THE CARD IS WHAT COUNTS. Prove the row's statement (the work); the ties are given (YtakdneopmojjdaaDoorTie.lean); close each card by the builder's one call (the guide's Derived/Test/ToyasCard.lean, 'card_holds'). Laid BY PROGRAM, IN A SANDBOX (cutbox-door.mjs). By AI agents, Wed Nov 11 2026. No macro, syntax, notation, axiom, sorry.
-/
import Derived.Test.YtakdneopmojjdaaDoorRows
import GoSem.ClaimSeven
namespace Go.Proofs.YtakdneopmojjdaaDoor
namespace Rows

/-- THE TIED CARD OF 'gangerlaw20.BookBack'. -/
def bookBackCard : Claim7 := { stood := { row := bookBackRow, standIns := [], harness := (true, "99209a18a146b7b2722d149fdc0940ecc95b50818dc6d0c6b02fc8be8848d023"), looks := false }, kinds := [], alts := [], laidByText := true, laidKinds := [.data, .data, .data, .data, .pinned], laidTests := true, laidLooks := .later }
def BookBackCardSaid : Prop := Claim7.holds Tryd.pinned (.plain (OpenSpec.ofChange bookBackSpec)) bookBackCard

/-- THE TIED CARD OF 'gangerlaw20.BookSums'. -/
def bookSumsCard : Claim7 := { stood := { row := bookSumsRow, standIns := [], harness := (true, "99209a18a146b7b2722d149fdc0940ecc95b50818dc6d0c6b02fc8be8848d023"), looks := false }, kinds := [], alts := [], laidByText := true, laidKinds := [.data, .data, .data, .data, .pinned], laidTests := true, laidLooks := .later }
def BookSumsCardSaid : Prop := Claim7.holds Tryd.pinned (.plain (OpenSpec.ofChange bookSumsSpec)) bookSumsCard

/-- THE TIED CARD OF 'gangerlaw20.BookFalls'. -/
def bookFallsCard : Claim7 := { stood := { row := bookFallsRow, standIns := [], harness := (true, "99209a18a146b7b2722d149fdc0940ecc95b50818dc6d0c6b02fc8be8848d023"), looks := false }, kinds := [], alts := [], laidByText := true, laidKinds := [.data, .data, .data, .data, .pinned], laidTests := true, laidLooks := .later }
def BookFallsCardSaid : Prop := Claim7.holds Tryd.pinned (.plain (OpenSpec.ofChange bookFallsSpec)) bookFallsCard

/-- THE TIED CARD OF 'gangerlaw20.BookTells'. -/
def bookTellsCard : Claim7 := { stood := { row := bookTellsRow, standIns := [], harness := (true, "99209a18a146b7b2722d149fdc0940ecc95b50818dc6d0c6b02fc8be8848d023"), looks := false }, kinds := [], alts := [], laidByText := true, laidKinds := [.data, .data, .data, .data, .pinned], laidTests := true, laidLooks := .later }
def BookTellsCardSaid : Prop := Claim7.holds Tryd.pinned (.plain (OpenSpec.ofChange bookTellsSpec)) bookTellsCard

/-- THE TIED CARD OF 'gangerlaw20.BookJobs'. -/
def bookJobsCard : Claim7 := { stood := { row := bookJobsRow, standIns := [], harness := (true, "99209a18a146b7b2722d149fdc0940ecc95b50818dc6d0c6b02fc8be8848d023"), looks := false }, kinds := [], alts := [], laidByText := true, laidKinds := [.data, .data, .data, .data, .pinned], laidTests := true, laidLooks := .later }
def BookJobsCardSaid : Prop := Claim7.holds Tryd.pinned (.plain (OpenSpec.ofChange bookJobsSpec)) bookJobsCard

/-- THE SECOND FORM's CARD OF 'gangerlaw20.BookBack'. -/
def bookBackUptoCard : Claim7 := { stood := { row := bookBackUptoRow, standIns := [], harness := (true, "99209a18a146b7b2722d149fdc0940ecc95b50818dc6d0c6b02fc8be8848d023"), looks := false }, kinds := [], alts := [], laidByText := true, laidKinds := [.data, .data, .data, .data, .pinned], laidTests := true, laidLooks := .later }
def BookBackUptoCardSaid : Prop := Claim7.holds Tryd.pinned (.plain (OpenSpec.upto bookBackSpec)) bookBackUptoCard

/-- THE SECOND FORM's CARD OF 'gangerlaw20.BookSums'. -/
def bookSumsUptoCard : Claim7 := { stood := { row := bookSumsUptoRow, standIns := [], harness := (true, "99209a18a146b7b2722d149fdc0940ecc95b50818dc6d0c6b02fc8be8848d023"), looks := false }, kinds := [], alts := [], laidByText := true, laidKinds := [.data, .data, .data, .data, .pinned], laidTests := true, laidLooks := .later }
def BookSumsUptoCardSaid : Prop := Claim7.holds Tryd.pinned (.plain (OpenSpec.upto bookSumsSpec)) bookSumsUptoCard

/-- THE SECOND FORM's CARD OF 'gangerlaw20.BookFalls'. -/
def bookFallsUptoCard : Claim7 := { stood := { row := bookFallsUptoRow, standIns := [], harness := (true, "99209a18a146b7b2722d149fdc0940ecc95b50818dc6d0c6b02fc8be8848d023"), looks := false }, kinds := [], alts := [], laidByText := true, laidKinds := [.data, .data, .data, .data, .pinned], laidTests := true, laidLooks := .later }
def BookFallsUptoCardSaid : Prop := Claim7.holds Tryd.pinned (.plain (OpenSpec.upto bookFallsSpec)) bookFallsUptoCard

/-- THE SECOND FORM's CARD OF 'gangerlaw20.BookTells'. -/
def bookTellsUptoCard : Claim7 := { stood := { row := bookTellsUptoRow, standIns := [], harness := (true, "99209a18a146b7b2722d149fdc0940ecc95b50818dc6d0c6b02fc8be8848d023"), looks := false }, kinds := [], alts := [], laidByText := true, laidKinds := [.data, .data, .data, .data, .pinned], laidTests := true, laidLooks := .later }
def BookTellsUptoCardSaid : Prop := Claim7.holds Tryd.pinned (.plain (OpenSpec.upto bookTellsSpec)) bookTellsUptoCard

/-- THE SECOND FORM's CARD OF 'gangerlaw20.BookJobs'. -/
def bookJobsUptoCard : Claim7 := { stood := { row := bookJobsUptoRow, standIns := [], harness := (true, "99209a18a146b7b2722d149fdc0940ecc95b50818dc6d0c6b02fc8be8848d023"), looks := false }, kinds := [], alts := [], laidByText := true, laidKinds := [.data, .data, .data, .data, .pinned], laidTests := true, laidLooks := .later }
def BookJobsUptoCardSaid : Prop := Claim7.holds Tryd.pinned (.plain (OpenSpec.upto bookJobsSpec)) bookJobsUptoCard
end Rows
end Go.Proofs.YtakdneopmojjdaaDoor
