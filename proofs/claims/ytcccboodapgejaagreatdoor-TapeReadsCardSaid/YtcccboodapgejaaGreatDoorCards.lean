/-
  DERIVED. GIVEN WITH THE SEED: THE CARDS: each row of YtcccboodapgejaaGreatDoorRows.lean that lists a variable, with what it lists TIED to the program's text (the seventh form; the later family's looks); each row that meets fmt, with fmt's text TOLD by the authors' own Lean function (tested against real Go, not proved from fmt's source: count such statements apart). THE CARD IS WHAT COUNTS. Prove the row's statement (the work); the ties are given (YtcccboodapgejaaGreatDoorTie.lean); close each card by the builder's one call (the guide's Derived/Test/ToyasCard.lean, 'card_holds'). Laid BY PROGRAM, IN A SANDBOX (cutbox-door.mjs). By AI agents, Wed Nov 11 2026. No macro, syntax, notation, axiom, sorry.
-/
import Derived.Test.YtcccboodapgejaaGreatDoorRows
import GoSem.ClaimSeven
namespace Go.Proofs.YtcccboodapgejaaGreatDoor
namespace Rows

/-- THE TIED CARD OF 'captionerlaw23.TapeReadsHeaders'. -/
def tapeReadsHeadersCard : Claim7 := { stood := { row := tapeReadsHeadersRow, standIns := [], harness := (true, "ba33a76604357a6fc7617283f2cde8d6d254d16a64d41e4134e239f6427d14dd"), looks := false }, kinds := [], alts := [], laidByText := true, laidKinds := [.data, .pinned], laidTests := true, laidLooks := .later }
def TapeReadsHeadersCardSaid : Prop := Claim7.holds Tryz.pinned (.plain (OpenSpec.ofChange tapeReadsHeadersSpec)) tapeReadsHeadersCard

/-- THE TIED CARD OF 'captionerlaw23.TapeWrites'. -/
def tapeWritesCard : Claim7 := { stood := { row := tapeWritesRow, standIns := [], harness := (true, "ba33a76604357a6fc7617283f2cde8d6d254d16a64d41e4134e239f6427d14dd"), looks := false }, kinds := [], alts := [], laidByText := true, laidKinds := [.data, .pinned], laidTests := true, laidLooks := .later }
def TapeWritesCardSaid : Prop := Claim7.holds Tryz.pinned (.plain (OpenSpec.ofChange tapeWritesSpec)) tapeWritesCard

/-- THE TIED CARD OF 'captionerlaw23.TapeReads'. -/
def tapeReadsCard : Claim7 := { stood := { row := tapeReadsRow, standIns := [], harness := (true, "ba33a76604357a6fc7617283f2cde8d6d254d16a64d41e4134e239f6427d14dd"), looks := false }, kinds := [], alts := [], laidByText := true, laidKinds := [.data, .pinned], laidTests := true, laidLooks := .later }
def TapeReadsCardSaid : Prop := Claim7.holds Tryz.pinned (.plain (OpenSpec.ofChange tapeReadsSpec)) tapeReadsCard

/-- THE SECOND FORM's CARD OF 'captionerlaw23.TapeReadsHeaders'. -/
def tapeReadsHeadersUptoCard : Claim7 := { stood := { row := tapeReadsHeadersUptoRow, standIns := [], harness := (true, "ba33a76604357a6fc7617283f2cde8d6d254d16a64d41e4134e239f6427d14dd"), looks := false }, kinds := [], alts := [], laidByText := true, laidKinds := [.data, .pinned], laidTests := true, laidLooks := .later }
def TapeReadsHeadersUptoCardSaid : Prop := Claim7.holds Tryz.pinned (.plain (OpenSpec.upto tapeReadsHeadersSpec)) tapeReadsHeadersUptoCard

/-- THE SECOND FORM's CARD OF 'captionerlaw23.TapeWrites'. -/
def tapeWritesUptoCard : Claim7 := { stood := { row := tapeWritesUptoRow, standIns := [], harness := (true, "ba33a76604357a6fc7617283f2cde8d6d254d16a64d41e4134e239f6427d14dd"), looks := false }, kinds := [], alts := [], laidByText := true, laidKinds := [.data, .pinned], laidTests := true, laidLooks := .later }
def TapeWritesUptoCardSaid : Prop := Claim7.holds Tryz.pinned (.plain (OpenSpec.upto tapeWritesSpec)) tapeWritesUptoCard

/-- THE SECOND FORM's CARD OF 'captionerlaw23.TapeReads'. -/
def tapeReadsUptoCard : Claim7 := { stood := { row := tapeReadsUptoRow, standIns := [], harness := (true, "ba33a76604357a6fc7617283f2cde8d6d254d16a64d41e4134e239f6427d14dd"), looks := false }, kinds := [], alts := [], laidByText := true, laidKinds := [.data, .pinned], laidTests := true, laidLooks := .later }
def TapeReadsUptoCardSaid : Prop := Claim7.holds Tryz.pinned (.plain (OpenSpec.upto tapeReadsSpec)) tapeReadsUptoCard
end Rows
end Go.Proofs.YtcccboodapgejaaGreatDoor
