/-
  No cell of these rows narrows 'for every input' (looked for: loops, veiled, ifaces, maps, wideKeys, modest, calm, conditions, laid).
  DERIVED. THE GIVEN ROWS OF THIS SEAT. 5 by the template 'for every input the law returns true; each argument reads behind the call as it read before'; 0 by the template 'total and deterministic' (their statements: YtcccboodapgejaaTotals.lean).
  GIVEN WITH THE SEED: the statements are not yours to turn. If you find one false, say at which input.
  Laid BY PROGRAM, IN A SANDBOX (cutbox-rows.mjs): the forced cells as the released guide's own fill.sh prints them over the translation edf2fd347847a4f5… (all of the seat's roots in one cut). By AI agents, Wed Nov 11 2026. No macro, syntax, notation, axiom, sorry.
-/
import Derived.Test.YtcccboodapgejaaChecked
import GoSem.Claim
import GoSem.ClaimJoined
import GoSem.ClaimMapViews
import Derived.JoinedTies
import Derived.KernelRfl
namespace Go.Proofs.Ytcccboodapgejaa
/- THE CELL 'sum', in the pinned program and in every row, IS THE sha256 OF THE DUMP (.gsa) THAT YtcccboodapgejaaProg.lean LOADS. Nothing in Lean hashes anything: it is a label: what it is worth is what the hold of that sum in a sandbox is worth. -/
noncomputable def Try.pinned : Pinned := { name := "ytcccboodapgejaa", sum := "edf2fd347847a4f5b91d5969733bd7690cb94142dc32f91b19b49af207167831", checked := Try.checked }
namespace Rows
def none {H : Type} : Left H := { results := [], args := [] }

/-- 'captionerlaw23.TapeSizes': WHATEVER THE INPUT: true; the input reads as it did. -/
def tapeSizesSpec : ChangeSpec := { name := "tapeSizes", fn := fun _ => fun
  | [d1, d2] => { results := [.lit (.bool true)], args := [d1, d2] }
  | _ => none }
def tapeSizesRow : OpenClaim := { program := "ytcccboodapgejaa", sum := "edf2fd347847a4f5b91d5969733bd7690cb94142dc32f91b19b49af207167831", func := "captioner/captionerlaw23.TapeSizes", spec := "tapeSizes", inPlace := ["internal/bytealg.IndexByte", "internal/bytealg.MakeNoZero"], apart := false }
def TapeSizesSaid : Prop := tapeSizesRow.holds Try.pinned (OpenSpec.ofChange tapeSizesSpec)

/-- ITS FALSE NEIGHBOUR: 'it returns false'. Refute it at one input. -/
def tapeSizesWrong : ChangeSpec := { name := "tapeSizes", fn := fun _ => fun
  | [d1, d2] => { results := [.lit (.bool false)], args := [d1, d2] }
  | _ => none }
def TapeSizesWrongFalsely : Prop := tapeSizesRow.holds Try.pinned (OpenSpec.ofChange tapeSizesWrong)

/-- 'captionerlaw23.TapeSplits': WHATEVER THE INPUT: true; the input reads as it did. -/
def tapeSplitsSpec : ChangeSpec := { name := "tapeSplits", fn := fun _ => fun
  | [d1, d2] => { results := [.lit (.bool true)], args := [d1, d2] }
  | _ => none }
def tapeSplitsRow : OpenClaim := { program := "ytcccboodapgejaa", sum := "edf2fd347847a4f5b91d5969733bd7690cb94142dc32f91b19b49af207167831", func := "captioner/captionerlaw23.TapeSplits", spec := "tapeSplits", inPlace := ["internal/bytealg.IndexByte", "internal/bytealg.MakeNoZero"], unfollowed := true, recurses := true, apart := false }
def TapeSplitsSaid : Prop := tapeSplitsRow.holds Try.pinned (OpenSpec.ofChange tapeSplitsSpec)

/-- ITS FALSE NEIGHBOUR: 'it returns false'. Refute it at one input. -/
def tapeSplitsWrong : ChangeSpec := { name := "tapeSplits", fn := fun _ => fun
  | [d1, d2] => { results := [.lit (.bool false)], args := [d1, d2] }
  | _ => none }
def TapeSplitsWrongFalsely : Prop := tapeSplitsRow.holds Try.pinned (OpenSpec.ofChange tapeSplitsWrong)

/-- 'captionerlaw23.TapeJoins': WHATEVER THE INPUT: true; the input reads as it did. -/
def tapeJoinsSpec : ChangeSpec := { name := "tapeJoins", fn := fun _ => fun
  | [d] => { results := [.lit (.bool true)], args := [d] }
  | _ => none }
def tapeJoinsRow : OpenClaim := { program := "ytcccboodapgejaa", sum := "edf2fd347847a4f5b91d5969733bd7690cb94142dc32f91b19b49af207167831", func := "captioner/captionerlaw23.TapeJoins", spec := "tapeJoins", inPlace := ["internal/bytealg.IndexByte", "internal/bytealg.MakeNoZero"], unfollowed := true, recurses := true, apart := false }
def TapeJoinsSaid : Prop := tapeJoinsRow.holds Try.pinned (OpenSpec.ofChange tapeJoinsSpec)

/-- ITS FALSE NEIGHBOUR: 'it returns false'. Refute it at one input. -/
def tapeJoinsWrong : ChangeSpec := { name := "tapeJoins", fn := fun _ => fun
  | [d] => { results := [.lit (.bool false)], args := [d] }
  | _ => none }
def TapeJoinsWrongFalsely : Prop := tapeJoinsRow.holds Try.pinned (OpenSpec.ofChange tapeJoinsWrong)

/-- 'captionerlaw23.TapePuts': WHATEVER THE INPUT: true; the input reads as it did. -/
def tapePutsSpec : ChangeSpec := { name := "tapePuts", fn := fun _ => fun
  | [d] => { results := [.lit (.bool true)], args := [d] }
  | _ => none }
def tapePutsRow : OpenClaim := { program := "ytcccboodapgejaa", sum := "edf2fd347847a4f5b91d5969733bd7690cb94142dc32f91b19b49af207167831", func := "captioner/captionerlaw23.TapePuts", spec := "tapePuts", inPlace := ["internal/bytealg.IndexByte", "internal/bytealg.MakeNoZero", "internal/bytealg.Index"], named := ["internal/bytealg.MaxLen"], apart := false }
def TapePutsSaid : Prop := tapePutsRow.holds Try.pinned (OpenSpec.ofChange tapePutsSpec)

/-- ITS FALSE NEIGHBOUR: 'it returns false'. Refute it at one input. -/
def tapePutsWrong : ChangeSpec := { name := "tapePuts", fn := fun _ => fun
  | [d] => { results := [.lit (.bool false)], args := [d] }
  | _ => none }
def TapePutsWrongFalsely : Prop := tapePutsRow.holds Try.pinned (OpenSpec.ofChange tapePutsWrong)

/-- 'captionerlaw23.TapeGets': WHATEVER THE INPUT: true; the input reads as it did. -/
def tapeGetsSpec : ChangeSpec := { name := "tapeGets", fn := fun _ => fun
  | [d] => { results := [.lit (.bool true)], args := [d] }
  | _ => none }
def tapeGetsRow : OpenClaim := { program := "ytcccboodapgejaa", sum := "edf2fd347847a4f5b91d5969733bd7690cb94142dc32f91b19b49af207167831", func := "captioner/captionerlaw23.TapeGets", spec := "tapeGets", inPlace := ["internal/bytealg.IndexByte", "internal/bytealg.MakeNoZero", "internal/bytealg.Index"], named := ["internal/bytealg.MaxLen"], apart := false }
def TapeGetsSaid : Prop := tapeGetsRow.holds Try.pinned (OpenSpec.ofChange tapeGetsSpec)

/-- ITS FALSE NEIGHBOUR: 'it returns false'. Refute it at one input. -/
def tapeGetsWrong : ChangeSpec := { name := "tapeGets", fn := fun _ => fun
  | [d] => { results := [.lit (.bool false)], args := [d] }
  | _ => none }
def TapeGetsWrongFalsely : Prop := tapeGetsRow.holds Try.pinned (OpenSpec.ofChange tapeGetsWrong)

/- THE SECOND FORM. 'bulk': how many values and letters a reading holds, each counted each time it is reached (what is shared counts as often as it is met; a slice's spare places count too). A statement '..UptoSaid' is the law's where the arguments, and the package variables that the reading takes, are together of bulk at most 1048576: NARROWER than '..Said'. Prove '..Said' where nothing that the law and all that it calls make is longer than what came in: it says more and counts as full. Else prove '..UptoSaid'. A law counts once. -/
mutual
def uptoBulk {H : Type} : DataW H → Nat
  | .lit (.string bytes) => bytes.length + 1
  | .lit _ => 1
  | .nil => 1
  | .ptr d => uptoBulk d + 1
  | .slice elems spare => uptoBulkAll elems + uptoBulkAll spare + 1
  | .agg parts => uptoBulkAll parts + 1
  | .iface _ d => uptoBulk d + 1
  | .map entries => uptoBulkEntries entries + 1
  | .held _ => 1
def uptoBulkAll {H : Type} : List (DataW H) → Nat
  | [] => 0
  | d :: r => uptoBulk d + uptoBulkAll r
def uptoBulkEntries {H : Type} : List (Lit × DataW H) → Nat
  | [] => 0
  | x :: r => uptoBulkEntry x + uptoBulkEntries r
def uptoBulkEntry {H : Type} : Lit × DataW H → Nat
  | (.string bytes, d) => bytes.length + uptoBulk d + 1
  | (_, d) => uptoBulk d + 1
 end
def uptoSmall : (H : Type) → List (DataW H) → Bool := fun _ ds => decide (uptoBulkAll ds ≤ 1048576)
def OpenSpec.upto (s : _root_.Go.ChangeSpec) : _root_.Go.OpenSpec := { _root_.Go.OpenSpec.ofChange s with cond := some uptoSmall }

/-- 'captionerlaw23.TapeSizes', WHERE WHAT IT READS IS OF BULK AT MOST 1048576: true; the input reads as it did. -/
def tapeSizesUptoRow : OpenClaim := { program := "ytcccboodapgejaa", sum := "edf2fd347847a4f5b91d5969733bd7690cb94142dc32f91b19b49af207167831", func := "captioner/captionerlaw23.TapeSizes", spec := "tapeSizes", inPlace := ["internal/bytealg.IndexByte", "internal/bytealg.MakeNoZero"], apart := false, narrowed := true }
def TapeSizesUptoSaid : Prop := tapeSizesUptoRow.holds Try.pinned (OpenSpec.upto tapeSizesSpec)

/-- 'captionerlaw23.TapeSplits', WHERE WHAT IT READS IS OF BULK AT MOST 1048576: true; the input reads as it did. -/
def tapeSplitsUptoRow : OpenClaim := { program := "ytcccboodapgejaa", sum := "edf2fd347847a4f5b91d5969733bd7690cb94142dc32f91b19b49af207167831", func := "captioner/captionerlaw23.TapeSplits", spec := "tapeSplits", inPlace := ["internal/bytealg.IndexByte", "internal/bytealg.MakeNoZero"], unfollowed := true, recurses := true, apart := false, narrowed := true }
def TapeSplitsUptoSaid : Prop := tapeSplitsUptoRow.holds Try.pinned (OpenSpec.upto tapeSplitsSpec)

/-- 'captionerlaw23.TapeJoins', WHERE WHAT IT READS IS OF BULK AT MOST 1048576: true; the input reads as it did. -/
def tapeJoinsUptoRow : OpenClaim := { program := "ytcccboodapgejaa", sum := "edf2fd347847a4f5b91d5969733bd7690cb94142dc32f91b19b49af207167831", func := "captioner/captionerlaw23.TapeJoins", spec := "tapeJoins", inPlace := ["internal/bytealg.IndexByte", "internal/bytealg.MakeNoZero"], unfollowed := true, recurses := true, apart := false, narrowed := true }
def TapeJoinsUptoSaid : Prop := tapeJoinsUptoRow.holds Try.pinned (OpenSpec.upto tapeJoinsSpec)

/-- 'captionerlaw23.TapePuts', WHERE WHAT IT READS IS OF BULK AT MOST 1048576: true; the input reads as it did. -/
def tapePutsUptoRow : OpenClaim := { program := "ytcccboodapgejaa", sum := "edf2fd347847a4f5b91d5969733bd7690cb94142dc32f91b19b49af207167831", func := "captioner/captionerlaw23.TapePuts", spec := "tapePuts", inPlace := ["internal/bytealg.IndexByte", "internal/bytealg.MakeNoZero", "internal/bytealg.Index"], named := ["internal/bytealg.MaxLen"], apart := false, narrowed := true }
def TapePutsUptoSaid : Prop := tapePutsUptoRow.holds Try.pinned (OpenSpec.upto tapePutsSpec)

/-- 'captionerlaw23.TapeGets', WHERE WHAT IT READS IS OF BULK AT MOST 1048576: true; the input reads as it did. -/
def tapeGetsUptoRow : OpenClaim := { program := "ytcccboodapgejaa", sum := "edf2fd347847a4f5b91d5969733bd7690cb94142dc32f91b19b49af207167831", func := "captioner/captionerlaw23.TapeGets", spec := "tapeGets", inPlace := ["internal/bytealg.IndexByte", "internal/bytealg.MakeNoZero", "internal/bytealg.Index"], named := ["internal/bytealg.MaxLen"], apart := false, narrowed := true }
def TapeGetsUptoSaid : Prop := tapeGetsUptoRow.holds Try.pinned (OpenSpec.upto tapeGetsSpec)

end Rows
end Go.Proofs.Ytcccboodapgejaa
