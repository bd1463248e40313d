/-
  DERIVED. GIVEN WITH THE SEED: THE CARDS: each row of YtfccdngejfnmkaaDoorRows.lean that lists a variable, with what it lists TIED to the program's text (the seventh form; the later family's looks); each row that meets fmt, with fmt's text TOLD by the authors' own Lean function (tested against real Go, not proved from fmt's source: count such statements apart). THE CARD IS WHAT COUNTS. Prove the row's statement (the work); the ties are given (YtfccdngejfnmkaaDoorTie.lean); close each card by the builder's one call (the guide's Derived/Test/ToyasCard.lean, 'card_holds'). Laid BY PROGRAM, IN A SANDBOX (cutbox-door.mjs). By AI agents, Wed Nov 11 2026. No macro, syntax, notation, axiom, sorry.
-/
import Derived.Test.YtfccdngejfnmkaaDoorRows
import GoSem.ClaimSeven
namespace Go.Proofs.YtfccdngejfnmkaaDoor
namespace Rows

/-- THE TIED CARD OF 'gangerlaw11.ShareSums'. -/
def shareSumsCard : Claim7 := { stood := { row := shareSumsRow, standIns := [], harness := (true, "8181305a17a5d21df95a0123d3a0093d16004da1c4e0cdceea9a145d69dde80b"), looks := false }, kinds := [], alts := [], laidByText := true, laidKinds := [.data, .pinned], laidTests := true, laidLooks := .later }
def ShareSumsCardSaid : Prop := Claim7.holds Tryd.pinned (.plain (OpenSpec.ofChange shareSumsSpec)) shareSumsCard

/-- THE TIED CARD OF 'gangerlaw11.ShareNorms'. -/
def shareNormsCard : Claim7 := { stood := { row := shareNormsRow, standIns := [], harness := (true, "8181305a17a5d21df95a0123d3a0093d16004da1c4e0cdceea9a145d69dde80b"), looks := false }, kinds := [], alts := [], laidByText := true, laidKinds := [.data, .pinned], laidTests := true, laidLooks := .later }
def ShareNormsCardSaid : Prop := Claim7.holds Tryd.pinned (.plain (OpenSpec.ofChange shareNormsSpec)) shareNormsCard

/-- THE TIED CARD OF 'gangerlaw11.ShareFactors'. -/
def shareFactorsCard : Claim7 := { stood := { row := shareFactorsRow, standIns := [], harness := (true, "8181305a17a5d21df95a0123d3a0093d16004da1c4e0cdceea9a145d69dde80b"), looks := false }, kinds := [], alts := [], laidByText := true, laidKinds := [.data, .pinned], laidTests := true, laidLooks := .later }
def ShareFactorsCardSaid : Prop := Claim7.holds Tryd.pinned (.plain (OpenSpec.ofChange shareFactorsSpec)) shareFactorsCard

/-- THE TIED CARD OF 'gangerlaw11.ShareChildren'. -/
def shareChildrenCard : Claim7 := { stood := { row := shareChildrenRow, standIns := [], harness := (true, "8181305a17a5d21df95a0123d3a0093d16004da1c4e0cdceea9a145d69dde80b"), looks := false }, kinds := [], alts := [], laidByText := true, laidKinds := [.data, .pinned], laidTests := true, laidLooks := .later }
def ShareChildrenCardSaid : Prop := Claim7.holds Tryd.pinned (.plain (OpenSpec.ofChange shareChildrenSpec)) shareChildrenCard

/-- THE TIED CARD OF 'gangerlaw11.ShareFalls'. -/
def shareFallsCard : Claim7 := { stood := { row := shareFallsRow, standIns := [], harness := (true, "8181305a17a5d21df95a0123d3a0093d16004da1c4e0cdceea9a145d69dde80b"), looks := false }, kinds := [], alts := [], laidByText := true, laidKinds := [.data, .pinned], laidTests := true, laidLooks := .later }
def ShareFallsCardSaid : Prop := Claim7.holds Tryd.pinned (.plain (OpenSpec.ofChange shareFallsSpec)) shareFallsCard

/-- THE TIED CARD OF 'gangerlaw11.ShareAlike'. -/
def shareAlikeCard : Claim7 := { stood := { row := shareAlikeRow, standIns := [], harness := (true, "8181305a17a5d21df95a0123d3a0093d16004da1c4e0cdceea9a145d69dde80b"), looks := false }, kinds := [], alts := [], laidByText := true, laidKinds := [.data, .pinned], laidTests := true, laidLooks := .later }
def ShareAlikeCardSaid : Prop := Claim7.holds Tryd.pinned (.plain (OpenSpec.ofChange shareAlikeSpec)) shareAlikeCard

/-- THE TIED CARD OF 'gangerlaw11.ShareOnly'. -/
def shareOnlyCard : Claim7 := { stood := { row := shareOnlyRow, standIns := [], harness := (true, "8181305a17a5d21df95a0123d3a0093d16004da1c4e0cdceea9a145d69dde80b"), looks := false }, kinds := [], alts := [], laidByText := true, laidKinds := [.data, .pinned], laidTests := true, laidLooks := .later }
def ShareOnlyCardSaid : Prop := Claim7.holds Tryd.pinned (.plain (OpenSpec.ofChange shareOnlySpec)) shareOnlyCard

/-- THE SECOND FORM's CARD OF 'gangerlaw11.ShareSums'. -/
def shareSumsUptoCard : Claim7 := { stood := { row := shareSumsUptoRow, standIns := [], harness := (true, "8181305a17a5d21df95a0123d3a0093d16004da1c4e0cdceea9a145d69dde80b"), looks := false }, kinds := [], alts := [], laidByText := true, laidKinds := [.data, .pinned], laidTests := true, laidLooks := .later }
def ShareSumsUptoCardSaid : Prop := Claim7.holds Tryd.pinned (.plain (OpenSpec.upto shareSumsSpec)) shareSumsUptoCard

/-- THE SECOND FORM's CARD OF 'gangerlaw11.ShareNorms'. -/
def shareNormsUptoCard : Claim7 := { stood := { row := shareNormsUptoRow, standIns := [], harness := (true, "8181305a17a5d21df95a0123d3a0093d16004da1c4e0cdceea9a145d69dde80b"), looks := false }, kinds := [], alts := [], laidByText := true, laidKinds := [.data, .pinned], laidTests := true, laidLooks := .later }
def ShareNormsUptoCardSaid : Prop := Claim7.holds Tryd.pinned (.plain (OpenSpec.upto shareNormsSpec)) shareNormsUptoCard

/-- THE SECOND FORM's CARD OF 'gangerlaw11.ShareFactors'. -/
def shareFactorsUptoCard : Claim7 := { stood := { row := shareFactorsUptoRow, standIns := [], harness := (true, "8181305a17a5d21df95a0123d3a0093d16004da1c4e0cdceea9a145d69dde80b"), looks := false }, kinds := [], alts := [], laidByText := true, laidKinds := [.data, .pinned], laidTests := true, laidLooks := .later }
def ShareFactorsUptoCardSaid : Prop := Claim7.holds Tryd.pinned (.plain (OpenSpec.upto shareFactorsSpec)) shareFactorsUptoCard

/-- THE SECOND FORM's CARD OF 'gangerlaw11.ShareChildren'. -/
def shareChildrenUptoCard : Claim7 := { stood := { row := shareChildrenUptoRow, standIns := [], harness := (true, "8181305a17a5d21df95a0123d3a0093d16004da1c4e0cdceea9a145d69dde80b"), looks := false }, kinds := [], alts := [], laidByText := true, laidKinds := [.data, .pinned], laidTests := true, laidLooks := .later }
def ShareChildrenUptoCardSaid : Prop := Claim7.holds Tryd.pinned (.plain (OpenSpec.upto shareChildrenSpec)) shareChildrenUptoCard

/-- THE SECOND FORM's CARD OF 'gangerlaw11.ShareFalls'. -/
def shareFallsUptoCard : Claim7 := { stood := { row := shareFallsUptoRow, standIns := [], harness := (true, "8181305a17a5d21df95a0123d3a0093d16004da1c4e0cdceea9a145d69dde80b"), looks := false }, kinds := [], alts := [], laidByText := true, laidKinds := [.data, .pinned], laidTests := true, laidLooks := .later }
def ShareFallsUptoCardSaid : Prop := Claim7.holds Tryd.pinned (.plain (OpenSpec.upto shareFallsSpec)) shareFallsUptoCard

/-- THE SECOND FORM's CARD OF 'gangerlaw11.ShareAlike'. -/
def shareAlikeUptoCard : Claim7 := { stood := { row := shareAlikeUptoRow, standIns := [], harness := (true, "8181305a17a5d21df95a0123d3a0093d16004da1c4e0cdceea9a145d69dde80b"), looks := false }, kinds := [], alts := [], laidByText := true, laidKinds := [.data, .pinned], laidTests := true, laidLooks := .later }
def ShareAlikeUptoCardSaid : Prop := Claim7.holds Tryd.pinned (.plain (OpenSpec.upto shareAlikeSpec)) shareAlikeUptoCard

/-- THE SECOND FORM's CARD OF 'gangerlaw11.ShareOnly'. -/
def shareOnlyUptoCard : Claim7 := { stood := { row := shareOnlyUptoRow, standIns := [], harness := (true, "8181305a17a5d21df95a0123d3a0093d16004da1c4e0cdceea9a145d69dde80b"), looks := false }, kinds := [], alts := [], laidByText := true, laidKinds := [.data, .pinned], laidTests := true, laidLooks := .later }
def ShareOnlyUptoCardSaid : Prop := Claim7.holds Tryd.pinned (.plain (OpenSpec.upto shareOnlySpec)) shareOnlyUptoCard
end Rows
end Go.Proofs.YtfccdngejfnmkaaDoor
