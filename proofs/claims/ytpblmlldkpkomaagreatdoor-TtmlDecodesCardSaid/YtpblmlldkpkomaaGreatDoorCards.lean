/-
  DERIVED. GIVEN WITH THE SEED: THE CARDS: each row of YtpblmlldkpkomaaGreatDoorRows.lean that lists a variable, with what it lists TIED to the program's text (the seventh form; the later family's looks); each row that meets fmt, with fmt's text TOLD by the authors' own Lean function (tested against real Go, not proved from fmt's source: count such statements apart). THE CARD IS WHAT COUNTS. Prove the row's statement (the work); the ties are given (YtpblmlldkpkomaaGreatDoorTie.lean); close each card by the builder's one call (the guide's Derived/Test/ToyasCard.lean, 'card_holds'). Laid BY PROGRAM, IN A SANDBOX (cutbox-door.mjs). By AI agents, Wed Nov 11 2026. No macro, syntax, notation, axiom, sorry.
-/
import Derived.Test.YtpblmlldkpkomaaGreatDoorRows
import GoSem.ClaimSeven
namespace Go.Proofs.YtpblmlldkpkomaaGreatDoor
namespace Rows

/-- THE TIED CARD OF 'captionerlaw21.TtmlNodes'. -/
def ttmlNodesCard : Claim7 := { stood := { row := ttmlNodesRow, standIns := [], harness := (true, "14eae3156791a1efb01e585bd7752db1c5458bff3ec73d279494688316bc45ef"), looks := true }, kinds := [], alts := [], laidByText := true, laidKinds := [.data, .data, .data, .data, .data, .widerDeep, .widerDeep, .pinned], laidTests := true, laidLooks := .later }
def TtmlNodesCardSaid : Prop := Claim7.holds Tryz.pinned (.plain (OpenSpec.ofChange ttmlNodesSpec)) ttmlNodesCard

/-- THE TIED CARD OF 'captionerlaw21.TtmlBuilds'. -/
def ttmlBuildsCard : Claim7 := { stood := { row := ttmlBuildsRow, standIns := [], harness := (true, "14eae3156791a1efb01e585bd7752db1c5458bff3ec73d279494688316bc45ef"), looks := true }, kinds := [], alts := [], laidByText := true, laidKinds := [.data, .data, .data, .data, .sentinel, .sentinel, .data, .widerDeep, .widerDeep, .pinned], laidTests := true, laidLooks := .later }
def TtmlBuildsCardSaid : Prop := Claim7.holds Tryz.pinned (.plain (OpenSpec.ofChange ttmlBuildsSpec)) ttmlBuildsCard

/-- THE TIED CARD OF 'captionerlaw21.TtmlShuffles'. -/
def ttmlShufflesCard : Claim7 := { stood := { row := ttmlShufflesRow, standIns := [], harness := (true, "14eae3156791a1efb01e585bd7752db1c5458bff3ec73d279494688316bc45ef"), looks := true }, kinds := [], alts := [], laidByText := true, laidKinds := [.data, .data, .data, .data, .sentinel, .sentinel, .data, .widerDeep, .widerDeep, .pinned], laidTests := true, laidLooks := .later }
def TtmlShufflesCardSaid : Prop := Claim7.holds Tryz.pinned (.plain (OpenSpec.ofChange ttmlShufflesSpec)) ttmlShufflesCard

/-- THE TIED CARD OF 'captionerlaw21.TtmlDecodes'. -/
def ttmlDecodesCard : Claim7 := { stood := { row := ttmlDecodesRow, standIns := [], harness := (true, "14eae3156791a1efb01e585bd7752db1c5458bff3ec73d279494688316bc45ef"), looks := true }, kinds := [], alts := [], laidByText := true, laidKinds := [.data, .data, .data, .data, .sentinel, .sentinel, .data, .widerDeep, .widerDeep, .pinned], laidTests := true, laidLooks := .later }
def TtmlDecodesCardSaid : Prop := Claim7.holds Tryz.pinned (.plain (OpenSpec.ofChange ttmlDecodesSpec)) ttmlDecodesCard

/-- THE TIED CARD OF 'captionerlaw21.TtmlValid'. -/
def ttmlValidCard : Claim7 := { stood := { row := ttmlValidRow, standIns := [], harness := (true, "14eae3156791a1efb01e585bd7752db1c5458bff3ec73d279494688316bc45ef"), looks := true }, kinds := [], alts := [], laidByText := true, laidKinds := [.data, .data, .data, .data, .sentinel, .sentinel, .data, .widerDeep, .widerDeep, .pinned], laidTests := true, laidLooks := .later }
def TtmlValidCardSaid : Prop := Claim7.holds Tryz.pinned (.plain (OpenSpec.ofChange ttmlValidSpec)) ttmlValidCard

/-- THE TIED CARD OF 'captionerlaw21.TtmlCarries'. -/
def ttmlCarriesCard : Claim7 := { stood := { row := ttmlCarriesRow, standIns := [], harness := (true, "14eae3156791a1efb01e585bd7752db1c5458bff3ec73d279494688316bc45ef"), looks := true }, kinds := [], alts := [], laidByText := true, laidKinds := [.data, .data, .data, .data, .sentinel, .sentinel, .data, .widerDeep, .widerDeep, .pinned], laidTests := true, laidLooks := .later }
def TtmlCarriesCardSaid : Prop := Claim7.holds Tryz.pinned (.plain (OpenSpec.ofChange ttmlCarriesSpec)) ttmlCarriesCard

/-- THE TIED CARD OF 'captionerlaw21.TtmlLoose'. -/
def ttmlLooseCard : Claim7 := { stood := { row := ttmlLooseRow, standIns := [], harness := (true, "14eae3156791a1efb01e585bd7752db1c5458bff3ec73d279494688316bc45ef"), looks := true }, kinds := [], alts := [], laidByText := true, laidKinds := [.data, .data, .data, .data, .sentinel, .sentinel, .data, .widerDeep, .widerDeep, .pinned], laidTests := true, laidLooks := .later }
def TtmlLooseCardSaid : Prop := Claim7.holds Tryz.pinned (.plain (OpenSpec.ofChange ttmlLooseSpec)) ttmlLooseCard

/-- THE SECOND FORM's CARD OF 'captionerlaw21.TtmlNodes'. -/
def ttmlNodesUptoCard : Claim7 := { stood := { row := ttmlNodesUptoRow, standIns := [], harness := (true, "14eae3156791a1efb01e585bd7752db1c5458bff3ec73d279494688316bc45ef"), looks := true }, kinds := [], alts := [], laidByText := true, laidKinds := [.data, .data, .data, .data, .data, .widerDeep, .widerDeep, .pinned], laidTests := true, laidLooks := .later }
def TtmlNodesUptoCardSaid : Prop := Claim7.holds Tryz.pinned (.plain (OpenSpec.upto ttmlNodesSpec)) ttmlNodesUptoCard

/-- THE SECOND FORM's CARD OF 'captionerlaw21.TtmlBuilds'. -/
def ttmlBuildsUptoCard : Claim7 := { stood := { row := ttmlBuildsUptoRow, standIns := [], harness := (true, "14eae3156791a1efb01e585bd7752db1c5458bff3ec73d279494688316bc45ef"), looks := true }, kinds := [], alts := [], laidByText := true, laidKinds := [.data, .data, .data, .data, .sentinel, .sentinel, .data, .widerDeep, .widerDeep, .pinned], laidTests := true, laidLooks := .later }
def TtmlBuildsUptoCardSaid : Prop := Claim7.holds Tryz.pinned (.plain (OpenSpec.upto ttmlBuildsSpec)) ttmlBuildsUptoCard

/-- THE SECOND FORM's CARD OF 'captionerlaw21.TtmlShuffles'. -/
def ttmlShufflesUptoCard : Claim7 := { stood := { row := ttmlShufflesUptoRow, standIns := [], harness := (true, "14eae3156791a1efb01e585bd7752db1c5458bff3ec73d279494688316bc45ef"), looks := true }, kinds := [], alts := [], laidByText := true, laidKinds := [.data, .data, .data, .data, .sentinel, .sentinel, .data, .widerDeep, .widerDeep, .pinned], laidTests := true, laidLooks := .later }
def TtmlShufflesUptoCardSaid : Prop := Claim7.holds Tryz.pinned (.plain (OpenSpec.upto ttmlShufflesSpec)) ttmlShufflesUptoCard

/-- THE SECOND FORM's CARD OF 'captionerlaw21.TtmlDecodes'. -/
def ttmlDecodesUptoCard : Claim7 := { stood := { row := ttmlDecodesUptoRow, standIns := [], harness := (true, "14eae3156791a1efb01e585bd7752db1c5458bff3ec73d279494688316bc45ef"), looks := true }, kinds := [], alts := [], laidByText := true, laidKinds := [.data, .data, .data, .data, .sentinel, .sentinel, .data, .widerDeep, .widerDeep, .pinned], laidTests := true, laidLooks := .later }
def TtmlDecodesUptoCardSaid : Prop := Claim7.holds Tryz.pinned (.plain (OpenSpec.upto ttmlDecodesSpec)) ttmlDecodesUptoCard

/-- THE SECOND FORM's CARD OF 'captionerlaw21.TtmlValid'. -/
def ttmlValidUptoCard : Claim7 := { stood := { row := ttmlValidUptoRow, standIns := [], harness := (true, "14eae3156791a1efb01e585bd7752db1c5458bff3ec73d279494688316bc45ef"), looks := true }, kinds := [], alts := [], laidByText := true, laidKinds := [.data, .data, .data, .data, .sentinel, .sentinel, .data, .widerDeep, .widerDeep, .pinned], laidTests := true, laidLooks := .later }
def TtmlValidUptoCardSaid : Prop := Claim7.holds Tryz.pinned (.plain (OpenSpec.upto ttmlValidSpec)) ttmlValidUptoCard

/-- THE SECOND FORM's CARD OF 'captionerlaw21.TtmlCarries'. -/
def ttmlCarriesUptoCard : Claim7 := { stood := { row := ttmlCarriesUptoRow, standIns := [], harness := (true, "14eae3156791a1efb01e585bd7752db1c5458bff3ec73d279494688316bc45ef"), looks := true }, kinds := [], alts := [], laidByText := true, laidKinds := [.data, .data, .data, .data, .sentinel, .sentinel, .data, .widerDeep, .widerDeep, .pinned], laidTests := true, laidLooks := .later }
def TtmlCarriesUptoCardSaid : Prop := Claim7.holds Tryz.pinned (.plain (OpenSpec.upto ttmlCarriesSpec)) ttmlCarriesUptoCard

/-- THE SECOND FORM's CARD OF 'captionerlaw21.TtmlLoose'. -/
def ttmlLooseUptoCard : Claim7 := { stood := { row := ttmlLooseUptoRow, standIns := [], harness := (true, "14eae3156791a1efb01e585bd7752db1c5458bff3ec73d279494688316bc45ef"), looks := true }, kinds := [], alts := [], laidByText := true, laidKinds := [.data, .data, .data, .data, .sentinel, .sentinel, .data, .widerDeep, .widerDeep, .pinned], laidTests := true, laidLooks := .later }
def TtmlLooseUptoCardSaid : Prop := Claim7.holds Tryz.pinned (.plain (OpenSpec.upto ttmlLooseSpec)) ttmlLooseUptoCard
end Rows
end Go.Proofs.YtpblmlldkpkomaaGreatDoor
