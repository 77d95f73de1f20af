/-
  TapeGets holds: for every input it returns true, and the input reads as before; no condition.
-/
import Derived.Test.YtcccboodapgejaaVWb
import Derived.Test.YtcccboodapgejaaPTape
import Derived.Test.YtcccboodapgejaaVOpen
import Derived.Test.YtcccboodapgejaaRows
namespace Go.Proofs.Ytcccboodapgejaa
open Go.Sym Go.Cap Go.ChangeShapes Go.WideShapes Go.ChangeAt Go.RowKit

theorem Try.own : ownKnob Try.prog.godebug = Option.none := by kernel_rfl
theorem Try.laidOut : laidOutB Try.prog = true := by kernel_rfl

set_option maxRecDepth 100000 in
theorem tapeGets_lifted (os : Os) (started : os.Started) (H : Type) (enc : TypeId × Value → H) :
    ReturnsInHanded {} Try.checked os 7 .any (Rows.tapeGetsSpec.pre6 enc Try.prog Try.f7 Rows.tapeGetsRow.domain false) (Rows.tapeGetsSpec.post enc Try.prog Try.f7 false true false false) := by
  refine returnsInHanded_of_change (C := Try.checked) Try.own started (by kernel_rfl) Try.func7
    (ChangeSpec.witness6 (enc := enc) (C := Try.checked) false ⟨#[], #[.slice Option.none 0 0], []⟩ 8 (by kernel_rfl) (by kernel_rfl) (by kernel_rfl) (by kernel_rfl)) ?_
  intro W base args ds gs before hval0 hW hcnd _
  have hval : ∀ (j : Nat) t v, Try.f7.params[j]? = some t → args[j]? = some v → Value.okWide Try.prog W .any base t v := hval0
  have hW' := hW
  obtain ⟨p, q, hA0, hV, rfl, hfz, hnd⟩ := hW
  have hA : DataW.TrodAll enc Try.prog W 0 (fun _ => true) true Try.f7.params.toList args.toList ds p := hA0
  rw [Try.params7] at hA hval
  obtain ⟨v0, d0, rfl, rfl, h0⟩ := trodAll_one hA
  obtain ⟨rfl, rfl⟩ := trodVars_none hV
  obtain ⟨x0, g0, rfl, q0⟩ := arg_slice Try.underlying25 (opens_slice () Try.underlying25 (by kernel_rfl) (opens_u8 Try.underlying5)) (hval 0 25 v0 rfl rfl) h0
  refine (callTrue (c_l23_TapeGets 1000 x0 g0 true ((fun x _ => gets_true0 x) x0 q0)) (W := W) (need_of (by
      intro r hr
      simp only [List.mem_cons, List.not_mem_nil, or_false] at hr
      subst hr
      exact rd_vw q0.1))).mono fun e W' ⟨he, hb⟩ => ?_
  subst he
  exact ⟨_, rfl, law_post hW' rfl rfl rfl Try.underlying4 Try.laidOut (by rw [Try.params7]; intro t ht; simp at ht; rcases ht with rfl <;> exact ⟨by kernel_rfl, by decide +kernel⟩) hb⟩
theorem tapeGets_holds : Rows.TapeGetsSaid :=
  OpenClaim.holds_of_wide 7 Try.f7 rfl rfl rfl rfl rfl rfl rfl ⟨rfl, rfl, rfl, rfl, rfl⟩ rfl rfl rfl rfl rfl (by kernel_rfl) Try.func7 (by kernel_rfl)
    (of_decide_eq_true (by kernel_rfl)) (by unfold Func.isWrapper; first | (rw [if_pos (by decide +kernel)]; kernel_rfl) | (rw [if_neg (by decide +kernel)]; exact ⟨rfl, rfl⟩))
    (fun os started H enc _ => tapeGets_lifted os started H enc)

end Go.Proofs.Ytcccboodapgejaa
