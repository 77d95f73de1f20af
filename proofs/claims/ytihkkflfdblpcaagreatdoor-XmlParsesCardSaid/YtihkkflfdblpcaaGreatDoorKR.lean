/-
  XmlParses holds for every input: it returns true, and the input reads as before; the listed variables are tied to the text of the program.
-/
import Derived.Test.YtihkkflfdblpcaaGreatDoorKB
import Derived.Test.YtihkkflfdblpcaaGreatDoorRows
import Derived.Test.YtihkkflfdblpcaaGreatDoorCards
import Derived.Test.YtihkkflfdblpcaaGreatDoorTie
import Derived.Lay
import Derived.SevenTiedAt
import Derived.Deep.DeepHandedRow
import Derived.Shelf.Vars
set_option linter.all false
namespace Go.Proofs.YtihkkflfdblpcaaGreatDoor
open Go.W Go.Mo Go.ChangeShapes Go.WideShapes Go.ChangeAt Go.RowKit
set_option maxRecDepth 100000

theorem Tryz.own : ownKnob Tryz.prog.godebug = Option.none := by kernel_rfl
theorem Tryz.laidOut : laidOutB Tryz.prog = true := by kernel_rfl

theorem globs {W : World} (h : laidMetH Tryz.prog Rows.xmlParsesRow.laid W) (hsh : W.ShapedOpen Tryz.prog) : GlobOk Mo.E (kOf W) := by
  rw [MakeChecks.laidMetH_plain _ _ _ (by kernel_rfl)] at h
  obtain ⟨ps, ⟨g0, t0, cs0, f0, p0, q0, hg0, ht0, hv0, hd0, ⟨g1, t1, cs1, f1, p1, q1, hg1, ht1, hv1, hd1, ⟨g2, t2, cs2, f2, p2, q2, hg2, ht2, hv2, hd2, _, _⟩, _⟩, _⟩, _, _⟩ := h
  obtain rfl := Option.some.inj ((show Tryz.prog.globalNamed "captioner/xml.entities" = some 0 by kernel_rfl).symm.trans hg1)
  obtain rfl := Option.some.inj ((show Tryz.prog.globalNamed "unicode/utf8.first" = some 1 by kernel_rfl).symm.trans hg2)
  obtain rfl := Option.some.inj ((show Tryz.prog.globalNamed "unicode/utf8.acceptRanges" = some 2 by kernel_rfl).symm.trans hg0)
  obtain rfl := Option.some.inj ((show (Tryz.prog.globals[0]?).map (·.type) = some 65 by kernel_rfl).symm.trans ht1)
  obtain rfl := Option.some.inj ((show (Tryz.prog.globals[1]?).map (·.type) = some 112 by kernel_rfl).symm.trans ht2)
  obtain rfl := Option.some.inj ((show (Tryz.prog.globals[2]?).map (·.type) = some 115 by kernel_rfl).symm.trans ht0)
  refine ⟨fun g T x hg => ?_, fun g hg => by
    have hg : memN g [3] = true := hg
    have : g = 3 := by
      simp only [memN, Bool.or_false] at hg
      exact Nat.eq_of_beq_eq_true hg
    subst this
    obtain ⟨m, hm⟩ := cell_of_shapedOpen_int (g := 3) (t := 3) (zero := #[.int .i64 0]) (k := .i64) hsh (of_decide_eq_true (by kernel_rfl)) (by kernel_rfl) rfl (by kernel_rfl) (by kernel_rfl) (by kernel_rfl)
    exact ⟨m, (kOf_cell hm rfl).2⟩⟩
  have hl : lkG [(0, (⟨.arr 5 (.arr 2 (.str)), gl0⟩ : Sigma Ty.den)), (1, (⟨.arr 256 (.u8), gl1⟩ : Sigma Ty.den)), (2, (⟨.arr 16 (.st (.pair (.u8) (.u8))), gl2⟩ : Sigma Ty.den))] g = some ⟨T, x⟩ := hg
  simp only [lkG, bsel] at hl
  split at hl
  · rename_i hb
    have := Nat.eq_of_beq_eq_true hb
    subst this
    injection hl with hl
    injection hl with e1 e2
    subst e1
    have e2 := eq_of_heq e2
    subst e2
    exact glob_of (E := Mo.E) envOk hg1 (show Mo.E.t 65 = some _ by kernel_rfl) rfl rfl hv1 hd1 (by kernel_rfl)
  · split at hl
    · rename_i hb
      have := Nat.eq_of_beq_eq_true hb
      subst this
      injection hl with hl
      injection hl with e1 e2
      subst e1
      have e2 := eq_of_heq e2
      subst e2
      exact glob_of (E := Mo.E) envOk hg2 (show Mo.E.t 112 = some _ by kernel_rfl) rfl rfl hv2 hd2 (by kernel_rfl)
    · split at hl
      · rename_i hb
        have := Nat.eq_of_beq_eq_true hb
        subst this
        injection hl with hl
        injection hl with e1 e2
        subst e1
        have e2 := eq_of_heq e2
        subst e2
        exact glob_of (E := Mo.E) envOk hg0 (show Mo.E.t 115 = some _ by kernel_rfl) rfl rfl hv0 hd0 (by kernel_rfl)
      · cases hl

def lawTs : List Ty := [.str]

/-- the measure of the Rows text -/
theorem bulk_one {H : Type} (d : DataW H) : 1 ≤ Rows.uptoBulk d := by
  cases d with
  | lit l => cases l <;> simp [Rows.uptoBulk]
  | nil => simp [Rows.uptoBulk]
  | ptr d => simp [Rows.uptoBulk]
  | slice elems spare => simp [Rows.uptoBulk]
  | agg parts => simp [Rows.uptoBulk]
  | iface t d => simp [Rows.uptoBulk]
  | map entries => simp [Rows.uptoBulk]
  | held h => simp [Rows.uptoBulk]
def upBk (H : Type) : Bk H where
  b := Rows.uptoBulk
  all := Rows.uptoBulkAll
  str := fun s => by simp [Rows.uptoBulk]
  one := bulk_one
  sl := fun l r => by simp only [Rows.uptoBulk]; omega
  ag := fun l => by simp only [Rows.uptoBulk]; omega
  nil := by simp [Rows.uptoBulkAll]
  cons := fun d r => by simp [Rows.uptoBulkAll]

/-- there is an input that fits -/
theorem witness_sh {H : Type} {enc : TypeId × Value → H} {C : Checked} {os : Os} {f : FuncId} {fn : Func} {s : OpenSpec} {conds : List PathCond} {apart : Bool} {laid : List (String × DataW Unit)} (modest : Bool) (w0 : World) (args : Array Value) (hos : w0.os = os)
    (hsh : (w0.forCall (fun _ _ => 0) ⟨#[], args, []⟩).Shaped C.prog)
    (hok : Input.okWideB C.prog (w0.forCall (fun _ _ => 0) ⟨#[], args, []⟩) f ⟨#[], args, []⟩ = true)
    (hrow : s.preRow enc C.prog fn conds apart laid (w0.forCall (fun _ _ => 0) ⟨#[], args, []⟩).memory args) :
    ∃ (w : World) (tape : Tape) (i : Input), w.os = os ∧ (w.forCall tape i).Shaped C.prog ∧ i.vars = [] ∧ Input.okWide C.prog (w.forCall tape i) .any w.heap.size f i ∧
      s.preRow enc C.prog fn conds apart laid (w.forCall tape i).memory i.args ∧ ({ modest := modest } : Assume).holds C.prog (lone (Frame.enter C.prog f i.args .normal) [] (w.forCall tape i)) :=
  ⟨w0, fun _ _ => 0, ⟨#[], args, []⟩, hos, hsh, (Input.okWide_of_okWideB (base := 0) hok).1, (Input.okWide_of_okWideB hok).2, hrow, by
    simp only [Assume.holds]
    exact ⟨by simp, by simp, fun _ => Modest.zero, by simp, by simp⟩⟩

theorem xmlParses_lifted (os : Os) (started : os.Started) (H : Type) (enc : TypeId × Value → H) (F : Stop.Interp) :
    ReturnsInHanded {} Tryz.checked os 6 .any ((OpenSpec.ofChange Rows.xmlParsesSpec).preRow enc Tryz.prog Tryz.f6 Rows.xmlParsesRow.domain false Rows.xmlParsesRow.laid) (((OpenSpec.ofChange Rows.xmlParsesSpec).at F).post enc Tryz.prog Tryz.f6 false true false false) := by
  refine returnsInHanded_of_row (C := Tryz.checked) (s := OpenSpec.ofChange Rows.xmlParsesSpec) Tryz.own started (by kernel_rfl) Tryz.func6
    (witness_sh (enc := enc) (C := Tryz.checked) false (World.laidAll Tryz.prog os Rows.xmlParsesRow.laid) #[.string .empty] (World.laidAll_os _ _ _) (World.shaped_of_ZipB (by kernel_rfl) (by kernel_rfl)) (by kernel_rfl)
      (OpenSpec.preRow_of_cond 8 (x := ([.lit (.string [])], [], [])) (by kernel_rfl) (by kernel_rfl) (fun k hk => by cases hk) (by kernel_rfl)
        (by rw [MakeChecks.laidMetH_plain _ _ _ (by kernel_rfl)]; exact laidMet_laidAll _ (by kernel_rfl) (by kernel_rfl)))) ?_
  intro W base args ds gs before hval0 hW _ hcond _ hL hsh _
  have hval : ∀ (j : Nat) t v, Tryz.f6.params[j]? = some t → args[j]? = some v → Value.okWide Tryz.prog W .any base t v := hval0
  have hW' : DataW.Whole enc Tryz.prog Tryz.f6.params.toList Rows.xmlParsesSpec.vars false W args.toList ds gs before := hW
  have hW := hW'
  obtain ⟨p, q, hA0, hV, rfl, hfz, hnd⟩ := hW
  have hA : DataW.TrodAll enc Tryz.prog W 0 (fun _ => true) true Tryz.f6.params.toList args.toList ds p := hA0
  obtain ⟨rfl, rfl⟩ := trodVars_none hV
  obtain ⟨d0, rfl⟩ : ∃ d0, ds = [d0] := by
    have hl := trodAll_len hA
    rw [Tryz.params6] at hl
    match ds, hl with
    | [d0], _ => exact ⟨d0, rfl⟩
  obtain ⟨x, x1, x0, x2, x3, x4⟩ := args_open (upBk H) (E := Mo.E) envOk (r := .any) (b0 := base) lawTs Tryz.f6.params.toList args.toList [d0] p (by
      intro T hT
      simp only [lawTs, List.mem_cons, List.not_mem_nil, or_false] at hT
      rcases hT with rfl <;> exact ⟨rfl, rfl⟩) (by kernel_rfl) (fun j t v h1 h2 => hval j t v (by simpa using h1) (by simpa using h2)) hA
  have hx := parses_true x
  refine (law_call (E := Mo.E) envOk (Ts := lawTs) (fn := Mo.l20_XmlParses (Mo.fuelH)) (Mo.k_l20_XmlParses (Mo.fuelH)) hx x2 x3 x4 (globs hL hsh) (by
    unfold callFunc
    simp only [program, Sem.run_bind, Sem.run, Result.andThen_ok, show Mo.E.P.funcs[6]? = some Tryz.f6 from Tryz.func6]
    rfl)).mono fun e W' he => ?_
  obtain ⟨V, rfl, hb, γ, K, hV⟩ := he
  have hV : RepC K .bool true [V] := hV
  have hV : V = .bool true := by simpa [RepC] using hV
  subst hV
  exact ⟨_, rfl, law_post hW' rfl rfl rfl Tryz.underlying4 Tryz.laidOut (by rw [Tryz.params6]; intro t ht; simp at ht; rcases ht with rfl <;> exact ⟨by kernel_rfl, by decide +kernel⟩) hb⟩

theorem xmlParses_closed : joinedFacts Tryz.pinned.checked.prog 6 Tryz.f6 (OpenSpec.ofChange Rows.xmlParsesSpec).bare Rows.xmlParsesRow = true := by kernel_rfl
theorem xmlParses_row : Rows.XmlParsesSaid :=
  OpenClaim.holds_of_cond 6 Tryz.f6 rfl rfl rfl rfl rfl rfl rfl ⟨rfl, rfl, rfl, rfl, rfl⟩ rfl rfl rfl rfl rfl (by kernel_rfl) Tryz.func6 xmlParses_closed
    (of_decide_eq_true (by kernel_rfl)) (by unfold Func.isWrapper; first | (rw [if_pos (by decide +kernel)]; kernel_rfl) | (rw [if_neg (by decide +kernel)]; exact ⟨rfl, rfl⟩))
    (fun os started H enc _ F => by rw [OpenClaim.pre_eq_preRow]; exact xmlParses_lifted os started H enc F)
theorem xmlParses_plain (f : FuncId) (fn : Func) (hf : Tryz.pinned.checked.prog.funcNamed "captioner/captionerlaw20.XmlParses" = some f) (hfn : Tryz.pinned.checked.prog.funcs[f]? = some fn) :
    true = Tryz.pinned.checked.prog.looks [] ∧ ∀ (j : Nat) t, fn.params[j]? = some t → Tryz.pinned.checked.prog.wantsStandIn t = false := by
  obtain rfl : f = 6 := Option.some.inj ((show Tryz.prog.funcNamed "captioner/captionerlaw20.XmlParses" = some 6 by kernel_rfl).symm.trans hf) |>.symm
  obtain rfl : fn = Tryz.f6 := (Option.some.inj (Tryz.func6.symm.trans hfn)).symm
  refine ⟨by kernel_rfl, fun j t ht => ?_⟩
  rw [Tryz.params6] at ht
  have hm : t ∈ [9] := by simpa using Array.mem_of_getElem? ht
  have hall : ([9].all fun u => !Tryz.prog.wantsStandIn u) = true := by kernel_rfl
  exact (show Tryz.prog.wantsStandIn t = false by simpa using List.all_eq_true.1 hall t hm)
theorem xmlParses_holds : Rows.XmlParsesCardSaid :=
  Claim7.holds_tied_plain_at .later [] _ _ _ _ xmlParses_row (fun _ h => by cases h) (by kernel_rfl) (fun _ h => by cases h) xmlParses_row_tie rfl ⟨rfl, rfl⟩ (by kernel_rfl) rfl xmlParses_plain (by kernel_rfl)
end Go.Proofs.YtihkkflfdblpcaaGreatDoor
