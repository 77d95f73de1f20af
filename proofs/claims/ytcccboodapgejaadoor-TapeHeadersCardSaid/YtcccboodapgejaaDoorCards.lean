/-
  DERIVED. GIVEN WITH THE SEED: THE CARDS: each row of YtcccboodapgejaaDoorRows.lean that lists a variable, with what it lists TIED to the program's text (the seventh form; the later family's looks); each row that meets fmt, with fmt's text TOLD by the authors' own Lean function (tested against real Go, not proved from fmt's source: count such statements apart). THE CARD IS WHAT COUNTS. Prove the row's statement (the work); the ties are given (YtcccboodapgejaaDoorTie.lean); close each card by the builder's one call (the guide's Derived/Test/ToyasCard.lean, 'card_holds'). Laid BY PROGRAM, IN A SANDBOX (cutbox-door.mjs). By AI agents, Wed Nov 11 2026. No macro, syntax, notation, axiom, sorry.
-/
import Derived.Test.YtcccboodapgejaaDoorRows
import GoSem.ClaimSeven
namespace Go.Proofs.YtcccboodapgejaaDoor
namespace Rows

/-- THE TIED CARD OF 'captionerlaw23.TapeHeaders'. -/
def tapeHeadersCard : Claim7 := { stood := { row := tapeHeadersRow, standIns := [], harness := (true, "8ae2bb07ac383bd89a8d628c27d559a31c75e741e45a81cae82caf14c630e11f"), looks := false }, kinds := [], alts := [], laidByText := true, laidKinds := [.data, .pinned], laidTests := true, laidLooks := .later }
def TapeHeadersCardSaid : Prop := Claim7.holds Tryd.pinned (.plain (OpenSpec.ofChange tapeHeadersSpec)) tapeHeadersCard

/-- THE SECOND FORM's CARD OF 'captionerlaw23.TapeHeaders'. -/
def tapeHeadersUptoCard : Claim7 := { stood := { row := tapeHeadersUptoRow, standIns := [], harness := (true, "8ae2bb07ac383bd89a8d628c27d559a31c75e741e45a81cae82caf14c630e11f"), looks := false }, kinds := [], alts := [], laidByText := true, laidKinds := [.data, .pinned], laidTests := true, laidLooks := .later }
def TapeHeadersUptoCardSaid : Prop := Claim7.holds Tryd.pinned (.plain (OpenSpec.upto tapeHeadersSpec)) tapeHeadersUptoCard
end Rows
end Go.Proofs.YtcccboodapgejaaDoor
