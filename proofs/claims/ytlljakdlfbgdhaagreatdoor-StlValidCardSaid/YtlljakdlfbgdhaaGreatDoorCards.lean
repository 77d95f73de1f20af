/-
  DERIVED. GIVEN WITH THE SEED: THE CARDS: each row of YtlljakdlfbgdhaaGreatDoorRows.lean that lists a variable, with what it lists TIED to the program's text (the seventh form; the later family's looks); each row that meets fmt, with fmt's text TOLD by the authors' own Lean function (tested against real Go, not proved from fmt's source: count such statements apart). THE CARD IS WHAT COUNTS. Prove the row's statement (the work); the ties are given (YtlljakdlfbgdhaaGreatDoorTie.lean); close each card by the builder's one call (the guide's Derived/Test/ToyasCard.lean, 'card_holds'). Laid BY PROGRAM, IN A SANDBOX (cutbox-door.mjs). By AI agents, Wed Nov 11 2026. No macro, syntax, notation, axiom, sorry.
-/
import Derived.Test.YtlljakdlfbgdhaaGreatDoorRows
import GoSem.ClaimSeven
namespace Go.Proofs.YtlljakdlfbgdhaaGreatDoor
namespace Rows

/-- THE TIED CARD OF 'captionerlaw24.StlAccepts'. -/
def stlAcceptsCard : Claim7 := { stood := { row := stlAcceptsRow, standIns := [], harness := (true, "f75aa8a8c2a6cb60337665faebb9ec29efcd8806a3e91edbf987b1c30948d383"), looks := false }, kinds := [], alts := [], laidByText := true, laidKinds := [.data, .data, .data, .data, .pinned], laidTests := true, laidLooks := .later }
def StlAcceptsCardSaid : Prop := Claim7.holds Tryz.pinned (.plain (OpenSpec.ofChange stlAcceptsSpec)) stlAcceptsCard

/-- THE TIED CARD OF 'captionerlaw24.StlReduced'. -/
def stlReducedCard : Claim7 := { stood := { row := stlReducedRow, standIns := [], harness := (true, "f75aa8a8c2a6cb60337665faebb9ec29efcd8806a3e91edbf987b1c30948d383"), looks := false }, kinds := [], alts := [], laidByText := true, laidKinds := [.data, .data, .data, .data, .pinned], laidTests := true, laidLooks := .later }
def StlReducedCardSaid : Prop := Claim7.holds Tryz.pinned (.plain (OpenSpec.ofChange stlReducedSpec)) stlReducedCard

/-- THE TIED CARD OF 'captionerlaw24.StlTexts'. -/
def stlTextsCard : Claim7 := { stood := { row := stlTextsRow, standIns := [], harness := (true, "f75aa8a8c2a6cb60337665faebb9ec29efcd8806a3e91edbf987b1c30948d383"), looks := false }, kinds := [], alts := [], laidByText := true, laidKinds := [.data, .data, .data, .data, .pinned], laidTests := true, laidLooks := .later }
def StlTextsCardSaid : Prop := Claim7.holds Tryz.pinned (.plain (OpenSpec.ofChange stlTextsSpec)) stlTextsCard

/-- THE TIED CARD OF 'captionerlaw24.StlReturns'. -/
def stlReturnsCard : Claim7 := { stood := { row := stlReturnsRow, standIns := [], harness := (true, "f75aa8a8c2a6cb60337665faebb9ec29efcd8806a3e91edbf987b1c30948d383"), looks := false }, kinds := [], alts := [], laidByText := true, laidKinds := [.data, .data, .data, .data, .pinned], laidTests := true, laidLooks := .later }
def StlReturnsCardSaid : Prop := Claim7.holds Tryz.pinned (.plain (OpenSpec.ofChange stlReturnsSpec)) stlReturnsCard

/-- THE TIED CARD OF 'captionerlaw24.StlEncodes'. -/
def stlEncodesCard : Claim7 := { stood := { row := stlEncodesRow, standIns := [], harness := (true, "f75aa8a8c2a6cb60337665faebb9ec29efcd8806a3e91edbf987b1c30948d383"), looks := false }, kinds := [], alts := [], laidByText := true, laidKinds := [.data, .data, .data, .data, .pinned], laidTests := true, laidLooks := .later }
def StlEncodesCardSaid : Prop := Claim7.holds Tryz.pinned (.plain (OpenSpec.ofChange stlEncodesSpec)) stlEncodesCard

/-- THE TIED CARD OF 'captionerlaw24.StlDecodes'. -/
def stlDecodesCard : Claim7 := { stood := { row := stlDecodesRow, standIns := [], harness := (true, "f75aa8a8c2a6cb60337665faebb9ec29efcd8806a3e91edbf987b1c30948d383"), looks := false }, kinds := [], alts := [], laidByText := true, laidKinds := [.data, .data, .data, .data, .pinned], laidTests := true, laidLooks := .later }
def StlDecodesCardSaid : Prop := Claim7.holds Tryz.pinned (.plain (OpenSpec.ofChange stlDecodesSpec)) stlDecodesCard

/-- THE TIED CARD OF 'captionerlaw24.StlValid'. -/
def stlValidCard : Claim7 := { stood := { row := stlValidRow, standIns := [], harness := (true, "f75aa8a8c2a6cb60337665faebb9ec29efcd8806a3e91edbf987b1c30948d383"), looks := false }, kinds := [], alts := [], laidByText := true, laidKinds := [.data, .data, .data, .data, .pinned], laidTests := true, laidLooks := .later }
def StlValidCardSaid : Prop := Claim7.holds Tryz.pinned (.plain (OpenSpec.ofChange stlValidSpec)) stlValidCard

/-- THE TIED CARD OF 'captionerlaw24.StlCarries'. -/
def stlCarriesCard : Claim7 := { stood := { row := stlCarriesRow, standIns := [], harness := (true, "f75aa8a8c2a6cb60337665faebb9ec29efcd8806a3e91edbf987b1c30948d383"), looks := false }, kinds := [], alts := [], laidByText := true, laidKinds := [.data, .data, .data, .data, .pinned], laidTests := true, laidLooks := .later }
def StlCarriesCardSaid : Prop := Claim7.holds Tryz.pinned (.plain (OpenSpec.ofChange stlCarriesSpec)) stlCarriesCard

/-- THE SECOND FORM's CARD OF 'captionerlaw24.StlAccepts'. -/
def stlAcceptsUptoCard : Claim7 := { stood := { row := stlAcceptsUptoRow, standIns := [], harness := (true, "f75aa8a8c2a6cb60337665faebb9ec29efcd8806a3e91edbf987b1c30948d383"), looks := false }, kinds := [], alts := [], laidByText := true, laidKinds := [.data, .data, .data, .data, .pinned], laidTests := true, laidLooks := .later }
def StlAcceptsUptoCardSaid : Prop := Claim7.holds Tryz.pinned (.plain (OpenSpec.upto stlAcceptsSpec)) stlAcceptsUptoCard

/-- THE SECOND FORM's CARD OF 'captionerlaw24.StlReduced'. -/
def stlReducedUptoCard : Claim7 := { stood := { row := stlReducedUptoRow, standIns := [], harness := (true, "f75aa8a8c2a6cb60337665faebb9ec29efcd8806a3e91edbf987b1c30948d383"), looks := false }, kinds := [], alts := [], laidByText := true, laidKinds := [.data, .data, .data, .data, .pinned], laidTests := true, laidLooks := .later }
def StlReducedUptoCardSaid : Prop := Claim7.holds Tryz.pinned (.plain (OpenSpec.upto stlReducedSpec)) stlReducedUptoCard

/-- THE SECOND FORM's CARD OF 'captionerlaw24.StlTexts'. -/
def stlTextsUptoCard : Claim7 := { stood := { row := stlTextsUptoRow, standIns := [], harness := (true, "f75aa8a8c2a6cb60337665faebb9ec29efcd8806a3e91edbf987b1c30948d383"), looks := false }, kinds := [], alts := [], laidByText := true, laidKinds := [.data, .data, .data, .data, .pinned], laidTests := true, laidLooks := .later }
def StlTextsUptoCardSaid : Prop := Claim7.holds Tryz.pinned (.plain (OpenSpec.upto stlTextsSpec)) stlTextsUptoCard

/-- THE SECOND FORM's CARD OF 'captionerlaw24.StlReturns'. -/
def stlReturnsUptoCard : Claim7 := { stood := { row := stlReturnsUptoRow, standIns := [], harness := (true, "f75aa8a8c2a6cb60337665faebb9ec29efcd8806a3e91edbf987b1c30948d383"), looks := false }, kinds := [], alts := [], laidByText := true, laidKinds := [.data, .data, .data, .data, .pinned], laidTests := true, laidLooks := .later }
def StlReturnsUptoCardSaid : Prop := Claim7.holds Tryz.pinned (.plain (OpenSpec.upto stlReturnsSpec)) stlReturnsUptoCard

/-- THE SECOND FORM's CARD OF 'captionerlaw24.StlEncodes'. -/
def stlEncodesUptoCard : Claim7 := { stood := { row := stlEncodesUptoRow, standIns := [], harness := (true, "f75aa8a8c2a6cb60337665faebb9ec29efcd8806a3e91edbf987b1c30948d383"), looks := false }, kinds := [], alts := [], laidByText := true, laidKinds := [.data, .data, .data, .data, .pinned], laidTests := true, laidLooks := .later }
def StlEncodesUptoCardSaid : Prop := Claim7.holds Tryz.pinned (.plain (OpenSpec.upto stlEncodesSpec)) stlEncodesUptoCard

/-- THE SECOND FORM's CARD OF 'captionerlaw24.StlDecodes'. -/
def stlDecodesUptoCard : Claim7 := { stood := { row := stlDecodesUptoRow, standIns := [], harness := (true, "f75aa8a8c2a6cb60337665faebb9ec29efcd8806a3e91edbf987b1c30948d383"), looks := false }, kinds := [], alts := [], laidByText := true, laidKinds := [.data, .data, .data, .data, .pinned], laidTests := true, laidLooks := .later }
def StlDecodesUptoCardSaid : Prop := Claim7.holds Tryz.pinned (.plain (OpenSpec.upto stlDecodesSpec)) stlDecodesUptoCard

/-- THE SECOND FORM's CARD OF 'captionerlaw24.StlValid'. -/
def stlValidUptoCard : Claim7 := { stood := { row := stlValidUptoRow, standIns := [], harness := (true, "f75aa8a8c2a6cb60337665faebb9ec29efcd8806a3e91edbf987b1c30948d383"), looks := false }, kinds := [], alts := [], laidByText := true, laidKinds := [.data, .data, .data, .data, .pinned], laidTests := true, laidLooks := .later }
def StlValidUptoCardSaid : Prop := Claim7.holds Tryz.pinned (.plain (OpenSpec.upto stlValidSpec)) stlValidUptoCard

/-- THE SECOND FORM's CARD OF 'captionerlaw24.StlCarries'. -/
def stlCarriesUptoCard : Claim7 := { stood := { row := stlCarriesUptoRow, standIns := [], harness := (true, "f75aa8a8c2a6cb60337665faebb9ec29efcd8806a3e91edbf987b1c30948d383"), looks := false }, kinds := [], alts := [], laidByText := true, laidKinds := [.data, .data, .data, .data, .pinned], laidTests := true, laidLooks := .later }
def StlCarriesUptoCardSaid : Prop := Claim7.holds Tryz.pinned (.plain (OpenSpec.upto stlCarriesSpec)) stlCarriesUptoCard
end Rows
end Go.Proofs.YtlljakdlfbgdhaaGreatDoor
