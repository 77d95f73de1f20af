/-
  TapeHeaders holds: for every input it returns true, and the input reads as before; the two listed tables of unicode/utf8 are tied to the program's text.
-/
import Derived.Test.YtcccboodapgejaaDoorZD
import Derived.Test.YtcccboodapgejaaDoorRows
import Derived.Test.YtcccboodapgejaaDoorCards
import Derived.Test.YtcccboodapgejaaDoorTie
import Derived.Lay
import Derived.SevenTiedAt
set_option linter.all false
namespace Go.Proofs.YtcccboodapgejaaDoor
open Go.W Go.Mo Go.ChangeShapes Go.WideShapes Go.ChangeAt Go.RowKit
set_option maxRecDepth 100000

theorem Tryd.own : ownKnob Tryd.prog.godebug = Option.none := by kernel_rfl
theorem Tryd.laidOut : laidOutB Tryd.prog = true := by kernel_rfl

theorem globs {W : World} (h : laidMetH Tryd.prog Rows.tapeHeadersRow.laid W) : GlobOk Mo.E (kOf W) := by
  rw [MakeChecks.laidMetH_plain _ _ _ (by kernel_rfl)] at h
  obtain ⟨ps, ⟨g0, t0, cs0, f0, p0, q0, hg0, ht0, hv0, hd0, ⟨g1, t1, cs1, f1, p1, q1, hg1, ht1, hv1, hd1, _, _⟩, _⟩, _, _⟩ := h
  obtain rfl := Option.some.inj ((show Tryd.prog.globalNamed "unicode/utf8.acceptRanges" = some 2 by kernel_rfl).symm.trans hg0)
  obtain rfl := Option.some.inj ((show Tryd.prog.globalNamed "unicode/utf8.first" = some 1 by kernel_rfl).symm.trans hg1)
  obtain rfl := Option.some.inj ((show (Tryd.prog.globals[2]?).map (·.type) = some 110 by kernel_rfl).symm.trans ht0)
  obtain rfl := Option.some.inj ((show (Tryd.prog.globals[1]?).map (·.type) = some 107 by kernel_rfl).symm.trans ht1)
  intro g T x hg
  have hl : lkG [(1, (⟨.arr 256 (.u8), gl1⟩ : Sigma Ty.den)), (2, ⟨.arr 16 (.st (.pair (.u8) (.u8))), gl2⟩)] g = some ⟨T, x⟩ := hg
  simp only [lkG, bsel] at hl
  split at hl
  · rename_i hb
    have := Nat.eq_of_beq_eq_true hb
    subst this
    injection hl with hl
    injection hl with e1 e2
    subst e1
    have e2 := eq_of_heq e2
    subst e2
    exact glob_of (E := Mo.E) envOk hg1 (show Mo.E.t 107 = some _ by kernel_rfl) rfl rfl hv1 hd1 (by kernel_rfl)
  · split at hl
    · rename_i hb
      have := Nat.eq_of_beq_eq_true hb
      subst this
      injection hl with hl
      injection hl with e1 e2
      subst e1
      have e2 := eq_of_heq e2
      subst e2
      exact glob_of (E := Mo.E) envOk hg0 (show Mo.E.t 110 = some _ by kernel_rfl) rfl rfl hv0 hd0 (by kernel_rfl)
    · cases hl

def lawTs : List Ty := [.st (.pair (.u8) (.pair (.str) (.pair (.str) (.pair (.int .i64) (.pair (.int .i64) (.pair (.st (.pair (.int .i64) (.pair (.int .i64) (.pair (.int .i64) (.pair (.int .i64) (.bool)))))) (.pair (.st (.pair (.int .i64) (.pair (.int .i64) (.pair (.int .i64) (.pair (.int .i64) (.bool)))))) (.pair (.int .i64) (.int .i64)))))))))]

theorem tapeHeaders_lifted (os : Os) (started : os.Started) (H : Type) (enc : TypeId × Value → H) :
    ReturnsInHanded {} Tryd.checked os 3 .any (fun w args => (Rows.tapeHeadersSpec.pre enc Tryd.prog Tryd.f3 Rows.tapeHeadersRow.domain false w args ∧ laidMetH Tryd.prog Rows.tapeHeadersRow.laid w) ∧ sizedMet enc Tryd.prog Tryd.f3 (OpenSpec.ofChange Rows.tapeHeadersSpec) false w args)
      (Rows.tapeHeadersSpec.post enc Tryd.prog Tryd.f3 false true false false) := by
  refine returnsInHanded_of_change_and (C := Tryd.checked) (X := fun w _ => laidMetH Tryd.prog Rows.tapeHeadersRow.laid w) (fun _ _ _ hh h => h.of_heap hh) Tryd.own started (by kernel_rfl) Tryd.func3
    (ChangeSpec.witness_shaped (enc := enc) (C := Tryd.checked) (os := os) (X := fun w _ => laidMetH Tryd.prog Rows.tapeHeadersRow.laid w) false (World.laidAll Tryd.prog os Rows.tapeHeadersRow.laid) #[.agg #[.int .u8 0, .string .empty, .string .empty, .int .i64 0, .int .i64 0, .int .i64 0, .int .i64 0, .int .i64 0, .int .i64 0, .bool false, .int .i64 0, .int .i64 0, .int .i64 0, .int .i64 0, .bool false, .int .i64 0, .int .i64 0]] 8 (World.laidAll_os _ _ _)
      (World.shaped_of_ZipB (by kernel_rfl) (by kernel_rfl)) (by kernel_rfl) (by kernel_rfl) (by kernel_rfl)
      (by rw [MakeChecks.laidMetH_plain _ _ _ (by kernel_rfl)]; exact laidMet_laidAll _ (by kernel_rfl) (by kernel_rfl))) ?_
  intro W base args ds gs before hval0 hW _ _ hL _
  have hval : ∀ (j : Nat) t v, Tryd.f3.params[j]? = some t → args[j]? = some v → Value.okWide Tryd.prog W .any base t v := hval0
  have hW' := hW
  obtain ⟨p, q, hA0, hV, rfl, hfz, hnd⟩ := hW
  have hA : DataW.TrodAll enc Tryd.prog W 0 (fun _ => true) true Tryd.f3.params.toList args.toList ds p := hA0
  obtain ⟨rfl, rfl⟩ := trodVars_none hV
  obtain ⟨d0, rfl⟩ : ∃ d0, ds = [d0] := by
    have hl := trodAll_len hA
    rw [Tryd.params3] at hl
    match ds, hl with
    | [d], _ => exact ⟨d, rfl⟩
  obtain ⟨x, _, x2, x3, x4⟩ := args_open (E := Mo.E) envOk (r := .any) (b0 := base) lawTs Tryd.f3.params.toList args.toList [d0] p (by
      intro T hT
      simp only [lawTs, List.mem_cons, List.not_mem_nil, or_false] at hT
      subst hT
      exact ⟨rfl, rfl⟩) (by kernel_rfl) (fun j t v h1 h2 => hval j t v (by simpa using h1) (by simpa using h2)) hA
  have hx := Mo.headers_true0 x
  refine (law_call (E := Mo.E) envOk (Ts := lawTs) (fn := Mo.l23_TapeHeaders Mo.fuelH) (Mo.k_l23_TapeHeaders Mo.fuelH) hx x2 x3 x4 (globs hL) (by
    unfold callFunc
    simp only [program, Sem.run_bind, Sem.run, Result.andThen_ok, show Mo.E.P.funcs[3]? = some Tryd.f3 from Tryd.func3]
    rfl)).mono fun e W' he => ?_
  obtain ⟨V, rfl, hb, γ, K, hV⟩ := he
  have hV : RepC K .bool true [V] := hV
  have hV : V = .bool true := by simpa [RepC] using hV
  subst hV
  exact ⟨_, rfl, law_post hW' rfl rfl rfl Tryd.underlying4 Tryd.laidOut (by rw [Tryd.params3]; intro t ht; simp at ht; rcases ht with rfl <;> exact ⟨by kernel_rfl, by decide +kernel⟩) hb⟩

theorem tapeHeaders_row : Rows.TapeHeadersSaid :=
  OpenClaim.holds_of_wide 3 Tryd.f3 rfl rfl rfl rfl rfl rfl rfl ⟨rfl, rfl, rfl, rfl, rfl⟩ rfl rfl rfl rfl rfl (by kernel_rfl) Tryd.func3 (by kernel_rfl)
    (of_decide_eq_true (by kernel_rfl)) (by unfold Func.isWrapper; first | (rw [if_pos (by decide +kernel)]; kernel_rfl) | (rw [if_neg (by decide +kernel)]; exact ⟨rfl, rfl⟩))
    (fun os started H enc _ => tapeHeaders_lifted os started H enc)
theorem tapeHeaders_holds : Rows.TapeHeadersCardSaid :=
  Claim7.holds_tied_plain_at .later [] [.data, .pinned] true (true, "8ae2bb07ac383bd89a8d628c27d559a31c75e741e45a81cae82caf14c630e11f") false tapeHeaders_row (fun _ h => by cases h) (by kernel_rfl) (fun _ h => by cases h) tapeHeaders_row_tie rfl ⟨rfl, rfl⟩ (by kernel_rfl) rfl
    (fun f fn hf hfn => by
      obtain rfl : f = 3 := Option.some.inj ((show Tryd.prog.funcNamed "captioner/captionerlaw23.TapeHeaders" = some 3 by kernel_rfl).symm.trans hf) |>.symm
      obtain rfl : fn = Tryd.f3 := (Option.some.inj (Tryd.func3.symm.trans hfn)).symm
      exact ⟨by kernel_rfl, fun j t ht => by
        rw [Tryd.params3] at ht
        have hm : t ∈ [26] := by simpa using Array.mem_of_getElem? ht
        have hall : ([26].all fun u => !Tryd.prog.wantsStandIn u) = true := by kernel_rfl
        exact (show Tryd.prog.wantsStandIn t = false by simpa using List.all_eq_true.1 hall t hm)⟩)
    (by kernel_rfl)
end Go.Proofs.YtcccboodapgejaaDoor
