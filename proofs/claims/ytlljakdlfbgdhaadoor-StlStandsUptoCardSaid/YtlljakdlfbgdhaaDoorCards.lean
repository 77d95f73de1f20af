/-
  DERIVED. GIVEN WITH THE SEED: THE CARDS: each row of YtlljakdlfbgdhaaDoorRows.lean that lists a variable, with what it lists TIED to the program's text (the seventh form; the later family's looks); each row that meets fmt, with fmt's text TOLD by the authors' own Lean function (tested against real Go, not proved from fmt's source: count such statements apart). THE CARD IS WHAT COUNTS. Prove the row's statement (the work); the ties are given (YtlljakdlfbgdhaaDoorTie.lean); close each card by the builder's one call (the guide's Derived/Test/ToyasCard.lean, 'card_holds'). Laid BY PROGRAM, IN A SANDBOX (cutbox-door.mjs). By AI agents, Wed Nov 11 2026. No macro, syntax, notation, axiom, sorry.
-/
import Derived.Test.YtlljakdlfbgdhaaDoorRows
import GoSem.ClaimSeven
namespace Go.Proofs.YtlljakdlfbgdhaaDoor
namespace Rows

/-- THE TIED CARD OF 'captionerlaw24.StlStands'. -/
def stlStandsCard : Claim7 := { stood := { row := stlStandsRow, standIns := [], harness := (true, "6550dd7bbff5c978e1bf3434ac111ec85f2cd7f1ef627ffb82258149abd6c234"), looks := false }, kinds := [], alts := [], laidByText := true, laidKinds := [.data, .data, .data, .data, .pinned], laidTests := true, laidLooks := .later }
def StlStandsCardSaid : Prop := Claim7.holds Tryd.pinned (.plain (OpenSpec.ofChange stlStandsSpec)) stlStandsCard

/-- THE SECOND FORM's CARD OF 'captionerlaw24.StlStands'. -/
def stlStandsUptoCard : Claim7 := { stood := { row := stlStandsUptoRow, standIns := [], harness := (true, "6550dd7bbff5c978e1bf3434ac111ec85f2cd7f1ef627ffb82258149abd6c234"), looks := false }, kinds := [], alts := [], laidByText := true, laidKinds := [.data, .data, .data, .data, .pinned], laidTests := true, laidLooks := .later }
def StlStandsUptoCardSaid : Prop := Claim7.holds Tryd.pinned (.plain (OpenSpec.upto stlStandsSpec)) stlStandsUptoCard
end Rows
end Go.Proofs.YtlljakdlfbgdhaaDoor
