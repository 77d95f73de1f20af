/-
  DERIVED. GIVEN WITH THE SEED: THE CARDS: each row of YtmhoognbjmdddaaGreatDoorRows.lean that lists a variable, with what it lists TIED to the program's text (the seventh form; the later family's looks); each row that meets fmt, with fmt's text TOLD by the authors' own Lean function (tested against real Go, not proved from fmt's source: count such statements apart). THE CARD IS WHAT COUNTS. Prove the row's statement (the work); the ties are given (YtmhoognbjmdddaaGreatDoorTie.lean); close each card by the builder's one call (the guide's Derived/Test/ToyasCard.lean, 'card_holds'). Laid BY PROGRAM, IN A SANDBOX (cutbox-door.mjs). By AI agents, Wed Nov 11 2026. No macro, syntax, notation, axiom, sorry.
-/
import Derived.Test.YtmhoognbjmdddaaGreatDoorRows
import GoSem.ClaimSeven
namespace Go.Proofs.YtmhoognbjmdddaaGreatDoor
namespace Rows

/-- THE TIED CARD OF 'captionerlaw19.SubripClocks'. -/
def subripClocksCard : Claim7 := { stood := { row := subripClocksRow, standIns := [], harness := (true, "81cec37546ffb7e7721ba89336d940411131f42731d3b64a8a30a0ecc6b2ebca"), looks := false }, kinds := [], alts := [], laidByText := true, laidKinds := [.data, .data, .data, .data, .pinned], laidTests := true, laidLooks := .later }
def SubripClocksCardSaid : Prop := Claim7.holds Tryz.pinned (.plain (OpenSpec.ofChange subripClocksSpec)) subripClocksCard

/-- THE TIED CARD OF 'captionerlaw19.SubripMarkups'. -/
def subripMarkupsCard : Claim7 := { stood := { row := subripMarkupsRow, standIns := [], harness := (true, "81cec37546ffb7e7721ba89336d940411131f42731d3b64a8a30a0ecc6b2ebca"), looks := false }, kinds := [], alts := [], laidByText := true, laidKinds := [.data, .data, .data, .data, .pinned], laidTests := true, laidLooks := .later }
def SubripMarkupsCardSaid : Prop := Claim7.holds Tryz.pinned (.plain (OpenSpec.ofChange subripMarkupsSpec)) subripMarkupsCard

/-- THE TIED CARD OF 'captionerlaw19.SubripReturns'. -/
def subripReturnsCard : Claim7 := { stood := { row := subripReturnsRow, standIns := [], harness := (true, "81cec37546ffb7e7721ba89336d940411131f42731d3b64a8a30a0ecc6b2ebca"), looks := false }, kinds := [], alts := [], laidByText := true, laidKinds := [.data, .data, .data, .data, .pinned], laidTests := true, laidLooks := .later }
def SubripReturnsCardSaid : Prop := Claim7.holds Tryz.pinned (.plain (OpenSpec.ofChange subripReturnsSpec)) subripReturnsCard

/-- THE TIED CARD OF 'captionerlaw19.SubripEncodes'. -/
def subripEncodesCard : Claim7 := { stood := { row := subripEncodesRow, standIns := [], harness := (true, "81cec37546ffb7e7721ba89336d940411131f42731d3b64a8a30a0ecc6b2ebca"), looks := false }, kinds := [], alts := [], laidByText := true, laidKinds := [.data, .data, .data, .data, .pinned], laidTests := true, laidLooks := .later }
def SubripEncodesCardSaid : Prop := Claim7.holds Tryz.pinned (.plain (OpenSpec.ofChange subripEncodesSpec)) subripEncodesCard

/-- THE TIED CARD OF 'captionerlaw19.SubripDecodes'. -/
def subripDecodesCard : Claim7 := { stood := { row := subripDecodesRow, standIns := [], harness := (true, "81cec37546ffb7e7721ba89336d940411131f42731d3b64a8a30a0ecc6b2ebca"), looks := false }, kinds := [], alts := [], laidByText := true, laidKinds := [.data, .data, .data, .data, .pinned], laidTests := true, laidLooks := .later }
def SubripDecodesCardSaid : Prop := Claim7.holds Tryz.pinned (.plain (OpenSpec.ofChange subripDecodesSpec)) subripDecodesCard

/-- THE TIED CARD OF 'captionerlaw19.SubripValid'. -/
def subripValidCard : Claim7 := { stood := { row := subripValidRow, standIns := [], harness := (true, "81cec37546ffb7e7721ba89336d940411131f42731d3b64a8a30a0ecc6b2ebca"), looks := false }, kinds := [], alts := [], laidByText := true, laidKinds := [.data, .data, .data, .data, .pinned], laidTests := true, laidLooks := .later }
def SubripValidCardSaid : Prop := Claim7.holds Tryz.pinned (.plain (OpenSpec.ofChange subripValidSpec)) subripValidCard

/-- THE TIED CARD OF 'captionerlaw19.SubripCarries'. -/
def subripCarriesCard : Claim7 := { stood := { row := subripCarriesRow, standIns := [], harness := (true, "81cec37546ffb7e7721ba89336d940411131f42731d3b64a8a30a0ecc6b2ebca"), looks := false }, kinds := [], alts := [], laidByText := true, laidKinds := [.data, .data, .data, .data, .pinned], laidTests := true, laidLooks := .later }
def SubripCarriesCardSaid : Prop := Claim7.holds Tryz.pinned (.plain (OpenSpec.ofChange subripCarriesSpec)) subripCarriesCard

/-- THE TIED CARD OF 'captionerlaw19.SubripReduced'. -/
def subripReducedCard : Claim7 := { stood := { row := subripReducedRow, standIns := [], harness := (true, "81cec37546ffb7e7721ba89336d940411131f42731d3b64a8a30a0ecc6b2ebca"), looks := false }, kinds := [], alts := [], laidByText := true, laidKinds := [.data, .data, .data, .data, .pinned], laidTests := true, laidLooks := .later }
def SubripReducedCardSaid : Prop := Claim7.holds Tryz.pinned (.plain (OpenSpec.ofChange subripReducedSpec)) subripReducedCard

/-- THE TIED CARD OF 'captionerlaw19.SubripAccepts'. -/
def subripAcceptsCard : Claim7 := { stood := { row := subripAcceptsRow, standIns := [], harness := (true, "81cec37546ffb7e7721ba89336d940411131f42731d3b64a8a30a0ecc6b2ebca"), looks := false }, kinds := [], alts := [], laidByText := true, laidKinds := [.data, .data, .data, .data, .pinned], laidTests := true, laidLooks := .later }
def SubripAcceptsCardSaid : Prop := Claim7.holds Tryz.pinned (.plain (OpenSpec.ofChange subripAcceptsSpec)) subripAcceptsCard

/-- THE TIED CARD OF 'captionerlaw19.SubripTolerates'. -/
def subripToleratesCard : Claim7 := { stood := { row := subripToleratesRow, standIns := [], harness := (true, "81cec37546ffb7e7721ba89336d940411131f42731d3b64a8a30a0ecc6b2ebca"), looks := false }, kinds := [], alts := [], laidByText := true, laidKinds := [.data, .data, .data, .data, .pinned], laidTests := true, laidLooks := .later }
def SubripToleratesCardSaid : Prop := Claim7.holds Tryz.pinned (.plain (OpenSpec.ofChange subripToleratesSpec)) subripToleratesCard

/-- THE SECOND FORM's CARD OF 'captionerlaw19.SubripClocks'. -/
def subripClocksUptoCard : Claim7 := { stood := { row := subripClocksUptoRow, standIns := [], harness := (true, "81cec37546ffb7e7721ba89336d940411131f42731d3b64a8a30a0ecc6b2ebca"), looks := false }, kinds := [], alts := [], laidByText := true, laidKinds := [.data, .data, .data, .data, .pinned], laidTests := true, laidLooks := .later }
def SubripClocksUptoCardSaid : Prop := Claim7.holds Tryz.pinned (.plain (OpenSpec.upto subripClocksSpec)) subripClocksUptoCard

/-- THE SECOND FORM's CARD OF 'captionerlaw19.SubripMarkups'. -/
def subripMarkupsUptoCard : Claim7 := { stood := { row := subripMarkupsUptoRow, standIns := [], harness := (true, "81cec37546ffb7e7721ba89336d940411131f42731d3b64a8a30a0ecc6b2ebca"), looks := false }, kinds := [], alts := [], laidByText := true, laidKinds := [.data, .data, .data, .data, .pinned], laidTests := true, laidLooks := .later }
def SubripMarkupsUptoCardSaid : Prop := Claim7.holds Tryz.pinned (.plain (OpenSpec.upto subripMarkupsSpec)) subripMarkupsUptoCard

/-- THE SECOND FORM's CARD OF 'captionerlaw19.SubripReturns'. -/
def subripReturnsUptoCard : Claim7 := { stood := { row := subripReturnsUptoRow, standIns := [], harness := (true, "81cec37546ffb7e7721ba89336d940411131f42731d3b64a8a30a0ecc6b2ebca"), looks := false }, kinds := [], alts := [], laidByText := true, laidKinds := [.data, .data, .data, .data, .pinned], laidTests := true, laidLooks := .later }
def SubripReturnsUptoCardSaid : Prop := Claim7.holds Tryz.pinned (.plain (OpenSpec.upto subripReturnsSpec)) subripReturnsUptoCard

/-- THE SECOND FORM's CARD OF 'captionerlaw19.SubripEncodes'. -/
def subripEncodesUptoCard : Claim7 := { stood := { row := subripEncodesUptoRow, standIns := [], harness := (true, "81cec37546ffb7e7721ba89336d940411131f42731d3b64a8a30a0ecc6b2ebca"), looks := false }, kinds := [], alts := [], laidByText := true, laidKinds := [.data, .data, .data, .data, .pinned], laidTests := true, laidLooks := .later }
def SubripEncodesUptoCardSaid : Prop := Claim7.holds Tryz.pinned (.plain (OpenSpec.upto subripEncodesSpec)) subripEncodesUptoCard

/-- THE SECOND FORM's CARD OF 'captionerlaw19.SubripDecodes'. -/
def subripDecodesUptoCard : Claim7 := { stood := { row := subripDecodesUptoRow, standIns := [], harness := (true, "81cec37546ffb7e7721ba89336d940411131f42731d3b64a8a30a0ecc6b2ebca"), looks := false }, kinds := [], alts := [], laidByText := true, laidKinds := [.data, .data, .data, .data, .pinned], laidTests := true, laidLooks := .later }
def SubripDecodesUptoCardSaid : Prop := Claim7.holds Tryz.pinned (.plain (OpenSpec.upto subripDecodesSpec)) subripDecodesUptoCard

/-- THE SECOND FORM's CARD OF 'captionerlaw19.SubripValid'. -/
def subripValidUptoCard : Claim7 := { stood := { row := subripValidUptoRow, standIns := [], harness := (true, "81cec37546ffb7e7721ba89336d940411131f42731d3b64a8a30a0ecc6b2ebca"), looks := false }, kinds := [], alts := [], laidByText := true, laidKinds := [.data, .data, .data, .data, .pinned], laidTests := true, laidLooks := .later }
def SubripValidUptoCardSaid : Prop := Claim7.holds Tryz.pinned (.plain (OpenSpec.upto subripValidSpec)) subripValidUptoCard

/-- THE SECOND FORM's CARD OF 'captionerlaw19.SubripCarries'. -/
def subripCarriesUptoCard : Claim7 := { stood := { row := subripCarriesUptoRow, standIns := [], harness := (true, "81cec37546ffb7e7721ba89336d940411131f42731d3b64a8a30a0ecc6b2ebca"), looks := false }, kinds := [], alts := [], laidByText := true, laidKinds := [.data, .data, .data, .data, .pinned], laidTests := true, laidLooks := .later }
def SubripCarriesUptoCardSaid : Prop := Claim7.holds Tryz.pinned (.plain (OpenSpec.upto subripCarriesSpec)) subripCarriesUptoCard

/-- THE SECOND FORM's CARD OF 'captionerlaw19.SubripReduced'. -/
def subripReducedUptoCard : Claim7 := { stood := { row := subripReducedUptoRow, standIns := [], harness := (true, "81cec37546ffb7e7721ba89336d940411131f42731d3b64a8a30a0ecc6b2ebca"), looks := false }, kinds := [], alts := [], laidByText := true, laidKinds := [.data, .data, .data, .data, .pinned], laidTests := true, laidLooks := .later }
def SubripReducedUptoCardSaid : Prop := Claim7.holds Tryz.pinned (.plain (OpenSpec.upto subripReducedSpec)) subripReducedUptoCard

/-- THE SECOND FORM's CARD OF 'captionerlaw19.SubripAccepts'. -/
def subripAcceptsUptoCard : Claim7 := { stood := { row := subripAcceptsUptoRow, standIns := [], harness := (true, "81cec37546ffb7e7721ba89336d940411131f42731d3b64a8a30a0ecc6b2ebca"), looks := false }, kinds := [], alts := [], laidByText := true, laidKinds := [.data, .data, .data, .data, .pinned], laidTests := true, laidLooks := .later }
def SubripAcceptsUptoCardSaid : Prop := Claim7.holds Tryz.pinned (.plain (OpenSpec.upto subripAcceptsSpec)) subripAcceptsUptoCard

/-- THE SECOND FORM's CARD OF 'captionerlaw19.SubripTolerates'. -/
def subripToleratesUptoCard : Claim7 := { stood := { row := subripToleratesUptoRow, standIns := [], harness := (true, "81cec37546ffb7e7721ba89336d940411131f42731d3b64a8a30a0ecc6b2ebca"), looks := false }, kinds := [], alts := [], laidByText := true, laidKinds := [.data, .data, .data, .data, .pinned], laidTests := true, laidLooks := .later }
def SubripToleratesUptoCardSaid : Prop := Claim7.holds Tryz.pinned (.plain (OpenSpec.upto subripToleratesSpec)) subripToleratesUptoCard
end Rows
end Go.Proofs.YtmhoognbjmdddaaGreatDoor
