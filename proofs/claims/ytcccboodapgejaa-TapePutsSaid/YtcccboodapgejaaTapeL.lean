/-
  TapePuts holds: for every block it returns true, and the block reads as before; no condition.
-/
import Derived.Test.YtcccboodapgejaaTapeK
import Derived.Test.YtcccboodapgejaaTapeG
namespace Go.Proofs.Ytcccboodapgejaa
open Go.Sym Go.ChangeShapes Go.WideShapes Go.ChangeAt Go.RowKit

set_option maxRecDepth 100000 in
theorem tapePuts_lifted (os : Os) (started : os.Started) (H : Type) (enc : TypeId × Value → H) :
    ReturnsInHanded {} Try.checked os 6 .any (Rows.tapePutsSpec.pre6 enc Try.prog Try.f6 Rows.tapePutsRow.domain false) (Rows.tapePutsSpec.post enc Try.prog Try.f6 false true false false) := by
  refine returnsInHanded_of_change (C := Try.checked) Try.own started (by kernel_rfl) Try.func6
    (ChangeSpec.witness6 (enc := enc) (C := Try.checked) false ⟨#[], #[.agg #[.int .i64 0, .int .i64 0, .int .u8 0, .int .u8 0, .int .i64 0, .int .i64 0, .int .i64 0, .int .i64 0, .bool false, .int .i64 0, .int .i64 0, .int .i64 0, .int .i64 0, .bool false, .int .i64 0, .int .u8 0, .bool false, .slice Option.none 0 0]], []⟩ 8 (by kernel_rfl) (by kernel_rfl) (by kernel_rfl) (by kernel_rfl)) ?_
  intro W base args ds gs before hval0 hW hcnd _
  have hval : ∀ (j : Nat) t v, Try.f6.params[j]? = some t → args[j]? = some v → Value.okWide Try.prog W .any base t v := hval0
  have hW' := hW
  obtain ⟨p, q, hA0, hV, rfl, hfz, hnd⟩ := hW
  have hA : DataW.TrodAll enc Try.prog W 0 (fun _ => true) true Try.f6.params.toList args.toList ds p := hA0
  rw [Try.params6] at hA hval
  obtain ⟨v0, d0, rfl, rfl, h0⟩ := trodAll_one hA
  obtain ⟨rfl, rfl⟩ := trodVars_none hV
  obtain ⟨b, T, tn, tc, tb, rfl, hok, htb, htv⟩ := open_blkV (hval 0 27 v0 rfl rfl) h0
  refine (callTrue (puts_c b ⟨hok.2.2.1, hok.2.2.2.1, hok.2.2.2.2.2.2.2⟩ T tn tc tb htb) (W := W) (fun r hr => ?_)).mono fun e W' ⟨he, hb⟩ => ?_
  · simp only [List.mem_singleton] at hr
    subst hr
    exact ⟨htv, view_lt (by decide) htv⟩
  · subst he
    exact ⟨_, rfl, law_post hW' rfl rfl rfl Try.underlying4 Try.laidOut (by rw [Try.params6]; intro t ht; simp at ht; rcases ht with rfl <;> exact ⟨by kernel_rfl, by decide +kernel⟩) hb⟩
theorem tapePuts_holds : Rows.TapePutsSaid :=
  OpenClaim.holds_of_wide 6 Try.f6 rfl rfl rfl rfl rfl rfl rfl ⟨rfl, rfl, rfl, rfl, rfl⟩ rfl rfl rfl rfl rfl (by kernel_rfl) Try.func6 (by kernel_rfl)
    (of_decide_eq_true (by kernel_rfl)) (by unfold Func.isWrapper; first | (rw [if_pos (by decide +kernel)]; kernel_rfl) | (rw [if_neg (by decide +kernel)]; exact ⟨rfl, rfl⟩))
    (fun os started H enc _ => tapePuts_lifted os started H enc)

end Go.Proofs.Ytcccboodapgejaa
