/-
  TapeReads holds: for every input it returns true, and the input reads as before; the listed variables are tied to the text of the program.
-/
import Derived.Test.YtcccboodapgejaaGreatDoorZE
import Derived.Test.YtcccboodapgejaaGreatDoorRows
import Derived.Test.YtcccboodapgejaaGreatDoorCards
import Derived.Test.YtcccboodapgejaaGreatDoorTie
import Derived.Lay
import Derived.SevenTiedAt
set_option linter.all false
namespace Go.Proofs.YtcccboodapgejaaGreatDoor
open Go.W Go.Mo Go.ChangeShapes Go.WideShapes Go.ChangeAt Go.RowKit
set_option maxRecDepth 100000

theorem Tryz.own : ownKnob Tryz.prog.godebug = Option.none := by kernel_rfl
theorem Tryz.laidOut : laidOutB Tryz.prog = true := by kernel_rfl

theorem globs {W : World} (h : laidMetH Tryz.prog Rows.tapeReadsRow.laid W) : GlobOk Mo.E (kOf W) := by
  rw [MakeChecks.laidMetH_plain _ _ _ (by kernel_rfl)] at h
  obtain ⟨ps, ⟨g0, t0, cs0, f0, p0, q0, hg0, ht0, hv0, hd0, ⟨g1, t1, cs1, f1, p1, q1, hg1, ht1, hv1, hd1, _, _⟩, _⟩, _, _⟩ := h
  obtain rfl := Option.some.inj ((show Tryz.prog.globalNamed "unicode/utf8.acceptRanges" = some 2 by kernel_rfl).symm.trans hg0)
  obtain rfl := Option.some.inj ((show Tryz.prog.globalNamed "unicode/utf8.first" = some 1 by kernel_rfl).symm.trans hg1)
  obtain rfl := Option.some.inj ((show (Tryz.prog.globals[2]?).map (·.type) = some 132 by kernel_rfl).symm.trans ht0)
  obtain rfl := Option.some.inj ((show (Tryz.prog.globals[1]?).map (·.type) = some 129 by kernel_rfl).symm.trans ht1)
  intro g T x hg
  have hl : lkG [(1, (⟨.arr 256 (.u8), gl1⟩ : Sigma Ty.den)), (2, ⟨.arr 16 (.st (.pair (.u8) (.u8))), gl2⟩)] g = some ⟨T, x⟩ := hg
  simp only [lkG, bsel] at hl
  split at hl
  · rename_i hb
    have := Nat.eq_of_beq_eq_true hb
    subst this
    injection hl with hl
    injection hl with e1 e2
    subst e1
    have e2 := eq_of_heq e2
    subst e2
    exact glob_of (E := Mo.E) envOk hg1 (show Mo.E.t 129 = some _ by kernel_rfl) rfl rfl hv1 hd1 (by kernel_rfl)
  · split at hl
    · rename_i hb
      have := Nat.eq_of_beq_eq_true hb
      subst this
      injection hl with hl
      injection hl with e1 e2
      subst e1
      have e2 := eq_of_heq e2
      subst e2
      exact glob_of (E := Mo.E) envOk hg0 (show Mo.E.t 132 = some _ by kernel_rfl) rfl rfl hv0 hd0 (by kernel_rfl)
    · cases hl

def lawTs : List Ty := [.slice (.u8)]

theorem tapeReads_lifted (os : Os) (started : os.Started) (H : Type) (enc : TypeId × Value → H) :
    ReturnsInHanded {} Tryz.checked os 5 .any (fun w args => (Rows.tapeReadsSpec.pre enc Tryz.prog Tryz.f5 Rows.tapeReadsRow.domain false w args ∧ laidMetH Tryz.prog Rows.tapeReadsRow.laid w) ∧ sizedMet enc Tryz.prog Tryz.f5 (OpenSpec.ofChange Rows.tapeReadsSpec) false w args)
      (Rows.tapeReadsSpec.post enc Tryz.prog Tryz.f5 false true false false) := by
  refine returnsInHanded_of_change_and (C := Tryz.checked) (X := fun w _ => laidMetH Tryz.prog Rows.tapeReadsRow.laid w) (fun _ _ _ hh h => h.of_heap hh) Tryz.own started (by kernel_rfl) Tryz.func5
    (ChangeSpec.witness_shaped (enc := enc) (C := Tryz.checked) (os := os) (X := fun w _ => laidMetH Tryz.prog Rows.tapeReadsRow.laid w) false (World.laidAll Tryz.prog os Rows.tapeReadsRow.laid) #[.slice Option.none 0 0] 8 (World.laidAll_os _ _ _)
      (World.shaped_of_ZipB (by kernel_rfl) (by kernel_rfl)) (by kernel_rfl) (by kernel_rfl) (by kernel_rfl)
      (by rw [MakeChecks.laidMetH_plain _ _ _ (by kernel_rfl)]; exact laidMet_laidAll _ (by kernel_rfl) (by kernel_rfl))) ?_
  intro W base args ds gs before hval0 hW _ _ hL _
  have hval : ∀ (j : Nat) t v, Tryz.f5.params[j]? = some t → args[j]? = some v → Value.okWide Tryz.prog W .any base t v := hval0
  have hW' := hW
  obtain ⟨p, q, hA0, hV, rfl, hfz, hnd⟩ := hW
  have hA : DataW.TrodAll enc Tryz.prog W 0 (fun _ => true) true Tryz.f5.params.toList args.toList ds p := hA0
  obtain ⟨rfl, rfl⟩ := trodVars_none hV
  obtain ⟨d0, rfl⟩ : ∃ d0, ds = [d0] := by
    have hl := trodAll_len hA
    rw [Tryz.params5] at hl
    match ds, hl with
    | [d0], _ => exact ⟨d0, rfl⟩
  obtain ⟨x, x1, x2, x3, x4⟩ := args_open (E := Mo.E) envOk (r := .any) (b0 := base) lawTs Tryz.f5.params.toList args.toList [d0] p (by
      intro T hT
      simp only [lawTs, List.mem_cons, List.not_mem_nil, or_false] at hT
      rcases hT with rfl <;> exact ⟨rfl, rfl⟩) (by kernel_rfl) (fun j t v h1 h2 => hval j t v (by simpa using h1) (by simpa using h2)) hA
  have hx := Mo.reads_true0 x
  refine (law_call (E := Mo.E) envOk (Ts := lawTs) (fn := Mo.l23_TapeReads (Mo.fuelH)) (Mo.k_l23_TapeReads (Mo.fuelH)) hx x2 x3 x4 (globs hL) (by
    unfold callFunc
    simp only [program, Sem.run_bind, Sem.run, Result.andThen_ok, show Mo.E.P.funcs[5]? = some Tryz.f5 from Tryz.func5]
    rfl)).mono fun e W' he => ?_
  obtain ⟨V, rfl, hb, γ, K, hV⟩ := he
  have hV : RepC K .bool true [V] := hV
  have hV : V = .bool true := by simpa [RepC] using hV
  subst hV
  exact ⟨_, rfl, law_post hW' rfl rfl rfl Tryz.underlying4 Tryz.laidOut (by rw [Tryz.params5]; intro t ht; simp at ht; rcases ht with rfl <;> exact ⟨by kernel_rfl, by decide +kernel⟩) hb⟩

theorem tapeReads_row : Rows.TapeReadsSaid :=
  OpenClaim.holds_of_wide 5 Tryz.f5 rfl rfl rfl rfl rfl rfl rfl ⟨rfl, rfl, rfl, rfl, rfl⟩ rfl rfl rfl rfl rfl (by kernel_rfl) Tryz.func5 (by kernel_rfl)
    (of_decide_eq_true (by kernel_rfl)) (by unfold Func.isWrapper; first | (rw [if_pos (by decide +kernel)]; kernel_rfl) | (rw [if_neg (by decide +kernel)]; exact ⟨rfl, rfl⟩))
    (fun os started H enc _ => tapeReads_lifted os started H enc)
theorem tapeReads_holds : Rows.TapeReadsCardSaid :=
  Claim7.holds_tied_plain_at .later [] [.data, .pinned] true (true, "ba33a76604357a6fc7617283f2cde8d6d254d16a64d41e4134e239f6427d14dd") false tapeReads_row (fun _ h => by cases h) (by kernel_rfl) (fun _ h => by cases h) tapeReads_row_tie rfl ⟨rfl, rfl⟩ (by kernel_rfl) rfl
    (fun f fn hf hfn => by
      obtain rfl : f = 5 := Option.some.inj ((show Tryz.prog.funcNamed "captioner/captionerlaw23.TapeReads" = some 5 by kernel_rfl).symm.trans hf) |>.symm
      obtain rfl : fn = Tryz.f5 := (Option.some.inj (Tryz.func5.symm.trans hfn)).symm
      exact ⟨by kernel_rfl, fun j t ht => by
        rw [Tryz.params5] at ht
        have hm : t ∈ [22] := by simpa using Array.mem_of_getElem? ht
        have hall : ([22].all fun u => !Tryz.prog.wantsStandIn u) = true := by kernel_rfl
        exact (show Tryz.prog.wantsStandIn t = false by simpa using List.all_eq_true.1 hall t hm)⟩)
    (by kernel_rfl)
end Go.Proofs.YtcccboodapgejaaGreatDoor
