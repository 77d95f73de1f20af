/-
  DERIVED. GIVEN WITH THE SEED: THE CARDS: each row of YtihkkflfdblpcaaGreatDoorRows.lean that lists a variable, with what it lists TIED to the program's text (the seventh form; the later family's looks); each row that meets fmt, with fmt's text TOLD by the authors' own Lean function (tested against real Go, not proved from fmt's source: count such statements apart). THE CARD IS WHAT COUNTS. Prove the row's statement (the work); the ties are given (YtihkkflfdblpcaaGreatDoorTie.lean); close each card by the builder's one call (the guide's Derived/Test/ToyasCard.lean, 'card_holds'). Laid BY PROGRAM, IN A SANDBOX (cutbox-door.mjs). By AI agents, Wed Nov 11 2026. No macro, syntax, notation, axiom, sorry.
-/
import Derived.Test.YtihkkflfdblpcaaGreatDoorRows
import GoSem.ClaimSeven
namespace Go.Proofs.YtihkkflfdblpcaaGreatDoor
namespace Rows

/-- THE TIED CARD OF 'captionerlaw20.XmlEscapes'. -/
def xmlEscapesCard : Claim7 := { stood := { row := xmlEscapesRow, standIns := [], harness := (true, "4eea783dead804a31bc117800b55749a917661fbf567228c3ab15a5214f84f3a"), looks := true }, kinds := [], alts := [], laidByText := true, laidKinds := [.data, .data, .pinned], laidTests := true, laidLooks := .later }
def XmlEscapesCardSaid : Prop := Claim7.holds Tryz.pinned (.plain (OpenSpec.ofChange xmlEscapesSpec)) xmlEscapesCard

/-- THE TIED CARD OF 'captionerlaw20.XmlUnescapes'. -/
def xmlUnescapesCard : Claim7 := { stood := { row := xmlUnescapesRow, standIns := [], harness := (true, "4eea783dead804a31bc117800b55749a917661fbf567228c3ab15a5214f84f3a"), looks := true }, kinds := [], alts := [], laidByText := true, laidKinds := [.data, .data, .pinned], laidTests := true, laidLooks := .later }
def XmlUnescapesCardSaid : Prop := Claim7.holds Tryz.pinned (.plain (OpenSpec.ofChange xmlUnescapesSpec)) xmlUnescapesCard

/-- THE TIED CARD OF 'captionerlaw20.XmlChecks'. -/
def xmlChecksCard : Claim7 := { stood := { row := xmlChecksRow, standIns := [], harness := (true, "4eea783dead804a31bc117800b55749a917661fbf567228c3ab15a5214f84f3a"), looks := true }, kinds := [], alts := [], laidByText := true, laidKinds := [.data, .data, .pinned], laidTests := true, laidLooks := .later }
def XmlChecksCardSaid : Prop := Claim7.holds Tryz.pinned (.plain (OpenSpec.ofChange xmlChecksSpec)) xmlChecksCard

/-- THE TIED CARD OF 'captionerlaw20.XmlParses'. -/
def xmlParsesCard : Claim7 := { stood := { row := xmlParsesRow, standIns := [], harness := (true, "4eea783dead804a31bc117800b55749a917661fbf567228c3ab15a5214f84f3a"), looks := true }, kinds := [], alts := [], laidByText := true, laidKinds := [.data, .data, .pinned], laidTests := true, laidLooks := .later }
def XmlParsesCardSaid : Prop := Claim7.holds Tryz.pinned (.plain (OpenSpec.ofChange xmlParsesSpec)) xmlParsesCard

/-- THE TIED CARD OF 'captionerlaw20.XmlReturns'. -/
def xmlReturnsCard : Claim7 := { stood := { row := xmlReturnsRow, standIns := [], harness := (true, "4eea783dead804a31bc117800b55749a917661fbf567228c3ab15a5214f84f3a"), looks := true }, kinds := [], alts := [], laidByText := true, laidKinds := [.data, .data, .pinned], laidTests := true, laidLooks := .later }
def XmlReturnsCardSaid : Prop := Claim7.holds Tryz.pinned (.plain (OpenSpec.ofChange xmlReturnsSpec)) xmlReturnsCard

/-- THE TIED CARD OF 'captionerlaw20.XmlValid'. -/
def xmlValidCard : Claim7 := { stood := { row := xmlValidRow, standIns := [], harness := (true, "4eea783dead804a31bc117800b55749a917661fbf567228c3ab15a5214f84f3a"), looks := true }, kinds := [], alts := [], laidByText := true, laidKinds := [.data, .data, .pinned], laidTests := true, laidLooks := .later }
def XmlValidCardSaid : Prop := Claim7.holds Tryz.pinned (.plain (OpenSpec.ofChange xmlValidSpec)) xmlValidCard

/-- THE TIED CARD OF 'captionerlaw20.XmlIgnores'. -/
def xmlIgnoresCard : Claim7 := { stood := { row := xmlIgnoresRow, standIns := [], harness := (true, "4eea783dead804a31bc117800b55749a917661fbf567228c3ab15a5214f84f3a"), looks := true }, kinds := [], alts := [], laidByText := true, laidKinds := [.data, .data, .pinned], laidTests := true, laidLooks := .later }
def XmlIgnoresCardSaid : Prop := Claim7.holds Tryz.pinned (.plain (OpenSpec.ofChange xmlIgnoresSpec)) xmlIgnoresCard

/-- THE TIED CARD OF 'captionerlaw20.XmlText'. -/
def xmlTextCard : Claim7 := { stood := { row := xmlTextRow, standIns := [], harness := (true, "4eea783dead804a31bc117800b55749a917661fbf567228c3ab15a5214f84f3a"), looks := true }, kinds := [], alts := [], laidByText := true, laidKinds := [.data, .data, .pinned], laidTests := true, laidLooks := .later }
def XmlTextCardSaid : Prop := Claim7.holds Tryz.pinned (.plain (OpenSpec.ofChange xmlTextSpec)) xmlTextCard

/-- THE TIED CARD OF 'captionerlaw20.XmlCovers'. -/
def xmlCoversCard : Claim7 := { stood := { row := xmlCoversRow, standIns := [], harness := (true, "4eea783dead804a31bc117800b55749a917661fbf567228c3ab15a5214f84f3a"), looks := true }, kinds := [], alts := [], laidByText := true, laidKinds := [.data, .data, .pinned], laidTests := true, laidLooks := .later }
def XmlCoversCardSaid : Prop := Claim7.holds Tryz.pinned (.plain (OpenSpec.ofChange xmlCoversSpec)) xmlCoversCard

/-- THE TIED CARD OF 'captionerlaw20.XmlLooks'. -/
def xmlLooksCard : Claim7 := { stood := { row := xmlLooksRow, standIns := [], harness := (true, "4eea783dead804a31bc117800b55749a917661fbf567228c3ab15a5214f84f3a"), looks := true }, kinds := [], alts := [], laidByText := true, laidKinds := [.data, .data, .pinned], laidTests := true, laidLooks := .later }
def XmlLooksCardSaid : Prop := Claim7.holds Tryz.pinned (.plain (OpenSpec.ofChange xmlLooksSpec)) xmlLooksCard

/-- THE SECOND FORM's CARD OF 'captionerlaw20.XmlEscapes'. -/
def xmlEscapesUptoCard : Claim7 := { stood := { row := xmlEscapesUptoRow, standIns := [], harness := (true, "4eea783dead804a31bc117800b55749a917661fbf567228c3ab15a5214f84f3a"), looks := true }, kinds := [], alts := [], laidByText := true, laidKinds := [.data, .data, .pinned], laidTests := true, laidLooks := .later }
def XmlEscapesUptoCardSaid : Prop := Claim7.holds Tryz.pinned (.plain (OpenSpec.upto xmlEscapesSpec)) xmlEscapesUptoCard

/-- THE SECOND FORM's CARD OF 'captionerlaw20.XmlUnescapes'. -/
def xmlUnescapesUptoCard : Claim7 := { stood := { row := xmlUnescapesUptoRow, standIns := [], harness := (true, "4eea783dead804a31bc117800b55749a917661fbf567228c3ab15a5214f84f3a"), looks := true }, kinds := [], alts := [], laidByText := true, laidKinds := [.data, .data, .pinned], laidTests := true, laidLooks := .later }
def XmlUnescapesUptoCardSaid : Prop := Claim7.holds Tryz.pinned (.plain (OpenSpec.upto xmlUnescapesSpec)) xmlUnescapesUptoCard

/-- THE SECOND FORM's CARD OF 'captionerlaw20.XmlChecks'. -/
def xmlChecksUptoCard : Claim7 := { stood := { row := xmlChecksUptoRow, standIns := [], harness := (true, "4eea783dead804a31bc117800b55749a917661fbf567228c3ab15a5214f84f3a"), looks := true }, kinds := [], alts := [], laidByText := true, laidKinds := [.data, .data, .pinned], laidTests := true, laidLooks := .later }
def XmlChecksUptoCardSaid : Prop := Claim7.holds Tryz.pinned (.plain (OpenSpec.upto xmlChecksSpec)) xmlChecksUptoCard

/-- THE SECOND FORM's CARD OF 'captionerlaw20.XmlParses'. -/
def xmlParsesUptoCard : Claim7 := { stood := { row := xmlParsesUptoRow, standIns := [], harness := (true, "4eea783dead804a31bc117800b55749a917661fbf567228c3ab15a5214f84f3a"), looks := true }, kinds := [], alts := [], laidByText := true, laidKinds := [.data, .data, .pinned], laidTests := true, laidLooks := .later }
def XmlParsesUptoCardSaid : Prop := Claim7.holds Tryz.pinned (.plain (OpenSpec.upto xmlParsesSpec)) xmlParsesUptoCard

/-- THE SECOND FORM's CARD OF 'captionerlaw20.XmlReturns'. -/
def xmlReturnsUptoCard : Claim7 := { stood := { row := xmlReturnsUptoRow, standIns := [], harness := (true, "4eea783dead804a31bc117800b55749a917661fbf567228c3ab15a5214f84f3a"), looks := true }, kinds := [], alts := [], laidByText := true, laidKinds := [.data, .data, .pinned], laidTests := true, laidLooks := .later }
def XmlReturnsUptoCardSaid : Prop := Claim7.holds Tryz.pinned (.plain (OpenSpec.upto xmlReturnsSpec)) xmlReturnsUptoCard

/-- THE SECOND FORM's CARD OF 'captionerlaw20.XmlValid'. -/
def xmlValidUptoCard : Claim7 := { stood := { row := xmlValidUptoRow, standIns := [], harness := (true, "4eea783dead804a31bc117800b55749a917661fbf567228c3ab15a5214f84f3a"), looks := true }, kinds := [], alts := [], laidByText := true, laidKinds := [.data, .data, .pinned], laidTests := true, laidLooks := .later }
def XmlValidUptoCardSaid : Prop := Claim7.holds Tryz.pinned (.plain (OpenSpec.upto xmlValidSpec)) xmlValidUptoCard

/-- THE SECOND FORM's CARD OF 'captionerlaw20.XmlIgnores'. -/
def xmlIgnoresUptoCard : Claim7 := { stood := { row := xmlIgnoresUptoRow, standIns := [], harness := (true, "4eea783dead804a31bc117800b55749a917661fbf567228c3ab15a5214f84f3a"), looks := true }, kinds := [], alts := [], laidByText := true, laidKinds := [.data, .data, .pinned], laidTests := true, laidLooks := .later }
def XmlIgnoresUptoCardSaid : Prop := Claim7.holds Tryz.pinned (.plain (OpenSpec.upto xmlIgnoresSpec)) xmlIgnoresUptoCard

/-- THE SECOND FORM's CARD OF 'captionerlaw20.XmlText'. -/
def xmlTextUptoCard : Claim7 := { stood := { row := xmlTextUptoRow, standIns := [], harness := (true, "4eea783dead804a31bc117800b55749a917661fbf567228c3ab15a5214f84f3a"), looks := true }, kinds := [], alts := [], laidByText := true, laidKinds := [.data, .data, .pinned], laidTests := true, laidLooks := .later }
def XmlTextUptoCardSaid : Prop := Claim7.holds Tryz.pinned (.plain (OpenSpec.upto xmlTextSpec)) xmlTextUptoCard

/-- THE SECOND FORM's CARD OF 'captionerlaw20.XmlCovers'. -/
def xmlCoversUptoCard : Claim7 := { stood := { row := xmlCoversUptoRow, standIns := [], harness := (true, "4eea783dead804a31bc117800b55749a917661fbf567228c3ab15a5214f84f3a"), looks := true }, kinds := [], alts := [], laidByText := true, laidKinds := [.data, .data, .pinned], laidTests := true, laidLooks := .later }
def XmlCoversUptoCardSaid : Prop := Claim7.holds Tryz.pinned (.plain (OpenSpec.upto xmlCoversSpec)) xmlCoversUptoCard

/-- THE SECOND FORM's CARD OF 'captionerlaw20.XmlLooks'. -/
def xmlLooksUptoCard : Claim7 := { stood := { row := xmlLooksUptoRow, standIns := [], harness := (true, "4eea783dead804a31bc117800b55749a917661fbf567228c3ab15a5214f84f3a"), looks := true }, kinds := [], alts := [], laidByText := true, laidKinds := [.data, .data, .pinned], laidTests := true, laidLooks := .later }
def XmlLooksUptoCardSaid : Prop := Claim7.holds Tryz.pinned (.plain (OpenSpec.upto xmlLooksSpec)) xmlLooksUptoCard
end Rows
end Go.Proofs.YtihkkflfdblpcaaGreatDoor
