/-
  The card of the law.
-/
import Derived.Test.YtpblmlldkpkomaaGreatDoorZdQ
set_option linter.all false
namespace Go.Proofs.YtpblmlldkpkomaaGreatDoor
open Go.W Go.Mo Go.ChangeShapes Go.WideShapes Go.ChangeAt Go.RowKit
set_option maxRecDepth 100000

theorem ttmlDecodes_plain (f : FuncId) (fn : Func) (hf : Tryz.pinned.checked.prog.funcNamed "captioner/captionerlaw21.TtmlDecodes" = some f) (hfn : Tryz.pinned.checked.prog.funcs[f]? = some fn) :
    true = Tryz.pinned.checked.prog.looks [] ∧ ∀ (j : Nat) t, fn.params[j]? = some t → Tryz.pinned.checked.prog.wantsStandIn t = false := by
  obtain rfl : f = 6 := Option.some.inj ((show Tryz.prog.funcNamed "captioner/captionerlaw21.TtmlDecodes" = some 6 by kernel_rfl).symm.trans hf) |>.symm
  obtain rfl : fn = Tryz.f6 := (Option.some.inj (Tryz.func6.symm.trans hfn)).symm
  refine ⟨by kernel_rfl, fun j t ht => ?_⟩
  rw [Tryz.params6] at ht
  have hm : t ∈ [9] := by simpa using Array.mem_of_getElem? ht
  have hall : ([9].all fun u => !Tryz.prog.wantsStandIn u) = true := by kernel_rfl
  exact (show Tryz.prog.wantsStandIn t = false by simpa using List.all_eq_true.1 hall t hm)
theorem ttmlDecodes_a1 : Rows.ttmlDecodesRow.wfByText (OpenSpec.ofChange Rows.ttmlDecodesSpec) = true := by kernel_rfl
theorem ttmlDecodes_a2 : Tryz.pinned.checked.prog.mainIs = some ((true, "14eae3156791a1efb01e585bd7752db1c5458bff3ec73d279494688316bc45ef").1, (true, "14eae3156791a1efb01e585bd7752db1c5458bff3ec73d279494688316bc45ef").2.toList) := by kernel_rfl
theorem ttmlDecodes_a3 : false = Rows.ttmlDecodesRow.goesBy Tryz.pinned.checked.prog := by kernel_rfl
theorem ttmlDecodes_holds : Rows.TtmlDecodesCardSaid :=
  Claim7.holds_tied_plain_at .later [] _ _ _ _ ttmlDecodes_row (fun _ h => by cases h) ttmlDecodes_a1 (fun _ h => by cases h) ttmlDecodes_row_tie rfl ⟨rfl, rfl⟩ ttmlDecodes_a2 rfl ttmlDecodes_plain ttmlDecodes_a3
end Go.Proofs.YtpblmlldkpkomaaGreatDoor
