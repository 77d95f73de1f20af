/-
  TtmlDecodes holds for every input: it returns true, and the input reads as before; the listed variables are tied to the text of the program.
-/
import Derived.Test.YtpblmlldkpkomaaGreatDoorZdC
import Derived.Test.YtpblmlldkpkomaaGreatDoorRows
import Derived.Test.YtpblmlldkpkomaaGreatDoorCards
import Derived.Test.YtpblmlldkpkomaaGreatDoorTie
import Derived.Lay
import Derived.SevenTiedAt
import Derived.Deep.DeepHandedRow
import Derived.Shelf.Vars
set_option linter.all false
namespace Go.Proofs.YtpblmlldkpkomaaGreatDoor
open Go.W Go.Mo Go.ChangeShapes Go.WideShapes Go.ChangeAt Go.RowKit
set_option maxRecDepth 100000

theorem Tryz.own : ownKnob Tryz.prog.godebug = Option.none := by kernel_rfl
theorem Tryz.laidOut : laidOutB Tryz.prog = true := by kernel_rfl

theorem globs {W : World} (h : laidMetH Tryz.prog Rows.ttmlDecodesRow.laid W) (hsh : W.ShapedOpen Tryz.prog) : eV Mo.E (kOf W) := by
  rw [MakeChecks.laidMetH_plain _ _ _ (by kernel_rfl)] at h
  obtain ⟨ps, ⟨g0, t0, cs0, f0, p0, q0, hg0, ht0, hv0, hd0, ⟨g1, t1, cs1, f1, p1, q1, hg1, ht1, hv1, hd1, ⟨g2, t2, cs2, f2, p2, q2, hg2, ht2, hv2, hd2, ⟨g3, t3, cs3, f3, p3, q3, hg3, ht3, hv3, hd3, ⟨g4, t4, cs4, f4, p4, q4, hg4, ht4, hv4, hd4, ⟨g5, t5, cs5, f5, p5, q5, hg5, ht5, hv5, hd5, ⟨g6, t6, cs6, f6, p6, q6, hg6, ht6, hv6, hd6, ⟨g7, t7, cs7, f7, p7, q7, hg7, ht7, hv7, hd7, ⟨g8, t8, cs8, f8, p8, q8, hg8, ht8, hv8, hd8, ⟨g9, t9, cs9, f9, p9, q9, hg9, ht9, hv9, hd9, _, _⟩, _⟩, _⟩, _⟩, _⟩, _⟩, _⟩, _⟩, _⟩, _⟩, _, _⟩ := h
  obtain rfl := Option.some.inj ((show Tryz.prog.globalNamed "captioner/ttml.aligns" = some 0 by kernel_rfl).symm.trans hg8)
  obtain rfl := Option.some.inj ((show Tryz.prog.globalNamed "captioner/ttml.colors" = some 1 by kernel_rfl).symm.trans hg7)
  obtain rfl := Option.some.inj ((show Tryz.prog.globalNamed "captioner/xml.entities" = some 2 by kernel_rfl).symm.trans hg6)
  obtain rfl := Option.some.inj ((show Tryz.prog.globalNamed "unicode/utf8.first" = some 3 by kernel_rfl).symm.trans hg9)
  obtain rfl := Option.some.inj ((show Tryz.prog.globalNamed "unicode/utf8.acceptRanges" = some 4 by kernel_rfl).symm.trans hg3)
  obtain rfl := Option.some.inj ((show Tryz.prog.globalNamed "internal/strconv.uint64pow10" = some 5 by kernel_rfl).symm.trans hg2)
  obtain rfl := Option.some.inj ((show (Tryz.prog.globals[0]?).map (·.type) = some 85 by kernel_rfl).symm.trans ht8)
  obtain rfl := Option.some.inj ((show (Tryz.prog.globals[1]?).map (·.type) = some 88 by kernel_rfl).symm.trans ht7)
  obtain rfl := Option.some.inj ((show (Tryz.prog.globals[2]?).map (·.type) = some 202 by kernel_rfl).symm.trans ht6)
  obtain rfl := Option.some.inj ((show (Tryz.prog.globals[3]?).map (·.type) = some 261 by kernel_rfl).symm.trans ht9)
  obtain rfl := Option.some.inj ((show (Tryz.prog.globals[4]?).map (·.type) = some 264 by kernel_rfl).symm.trans ht3)
  obtain rfl := Option.some.inj ((show (Tryz.prog.globals[5]?).map (·.type) = some 273 by kernel_rfl).symm.trans ht2)
  obtain rfl := Option.some.inj ((show Tryz.prog.globalNamed "strconv.ErrSyntax" = some 9 by kernel_rfl).symm.trans hg5)
  obtain rfl := Option.some.inj ((show (Tryz.prog.globals[9]?).map (·.type) = some 133 by kernel_rfl).symm.trans ht5)
  obtain rfl := Option.some.inj ((show Tryz.prog.globalNamed "strconv.ErrRange" = some 10 by kernel_rfl).symm.trans hg4)
  obtain rfl := Option.some.inj ((show (Tryz.prog.globals[10]?).map (·.type) = some 133 by kernel_rfl).symm.trans ht4)
  refine ⟨fun g T x hg => ?_, fun g hg => by
    have hg : mW g [6] = true := hg
    have : g = 6 := by
      simp only [mW, Bool.or_false] at hg
      exact Nat.eq_of_beq_eq_true hg
    subst this
    obtain ⟨m, hm⟩ := cell_of_shapedOpen_int (g := 6) (t := 3) (zero := #[.int .i64 0]) (k := .i64) hsh (of_decide_eq_true (by kernel_rfl)) (by kernel_rfl) rfl (by kernel_rfl) (by kernel_rfl) (by kernel_rfl)
    exact ⟨m, (sD hm rfl).2⟩, fun g hg => by
    have hg : mW g [9, 10] = true := hg
    have : g = 9 ∨ g = 10 := by
      simp only [mW, Bool.or_false, Bool.or_eq_true] at hg
      exact hg.imp Nat.eq_of_beq_eq_true Nat.eq_of_beq_eq_true
    rcases this with rfl | rfl
    · exact aR9 (E := Mo.E) hg5 (show Mo.E.P.underlying 133 = _ from Tryz.underlying133) hv5 hd5
    · exact aR9 (E := Mo.E) hg4 (show Mo.E.P.underlying 133 = _ from Tryz.underlying133) hv4 hd4⟩
  have hl : lkG [(0, (⟨.arr 3 (.str), gl0⟩ : Sigma Ty.den)), (1, (⟨.arr 7 (.str), gl1⟩ : Sigma Ty.den)), (2, (⟨.arr 5 (.arr 2 (.str)), gl2⟩ : Sigma Ty.den)), (3, (⟨.arr 256 (.u8), gl3⟩ : Sigma Ty.den)), (4, (⟨.arr 16 (.st (.pair (.u8) (.u8))), gl4⟩ : Sigma Ty.den)), (5, (⟨.arr 20 (.int .u64), gl5⟩ : Sigma Ty.den))] g = some ⟨T, x⟩ := hg
  simp only [lkG, aV] at hl
  split at hl
  · rename_i hb
    have := Nat.eq_of_beq_eq_true hb
    subst this
    injection hl with hl
    injection hl with e1 e2
    subst e1
    have e2 := eq_of_heq e2
    subst e2
    exact uG (E := Mo.E) aJ hg8 (show Mo.E.t 85 = some _ by kernel_rfl) rfl rfl hv8 hd8 (by kernel_rfl)
  · split at hl
    · rename_i hb
      have := Nat.eq_of_beq_eq_true hb
      subst this
      injection hl with hl
      injection hl with e1 e2
      subst e1
      have e2 := eq_of_heq e2
      subst e2
      exact uG (E := Mo.E) aJ hg7 (show Mo.E.t 88 = some _ by kernel_rfl) rfl rfl hv7 hd7 (by kernel_rfl)
    · split at hl
      · rename_i hb
        have := Nat.eq_of_beq_eq_true hb
        subst this
        injection hl with hl
        injection hl with e1 e2
        subst e1
        have e2 := eq_of_heq e2
        subst e2
        exact uG (E := Mo.E) aJ hg6 (show Mo.E.t 202 = some _ by kernel_rfl) rfl rfl hv6 hd6 (by kernel_rfl)
      · split at hl
        · rename_i hb
          have := Nat.eq_of_beq_eq_true hb
          subst this
          injection hl with hl
          injection hl with e1 e2
          subst e1
          have e2 := eq_of_heq e2
          subst e2
          exact uG (E := Mo.E) aJ hg9 (show Mo.E.t 261 = some _ by kernel_rfl) rfl rfl hv9 hd9 (by kernel_rfl)
        · split at hl
          · rename_i hb
            have := Nat.eq_of_beq_eq_true hb
            subst this
            injection hl with hl
            injection hl with e1 e2
            subst e1
            have e2 := eq_of_heq e2
            subst e2
            exact uG (E := Mo.E) aJ hg3 (show Mo.E.t 264 = some _ by kernel_rfl) rfl rfl hv3 hd3 (by kernel_rfl)
          · split at hl
            · rename_i hb
              have := Nat.eq_of_beq_eq_true hb
              subst this
              injection hl with hl
              injection hl with e1 e2
              subst e1
              have e2 := eq_of_heq e2
              subst e2
              exact uG (E := Mo.E) aJ hg2 (show Mo.E.t 273 = some _ by kernel_rfl) rfl rfl hv2 hd2 (by kernel_rfl)
            · cases hl

def lawTs : List Ty := [.str]

/-- the measure of the Rows text -/
theorem bulk_one {H : Type} (d : DataW H) : 1 ≤ Rows.uptoBulk d := by
  cases d with
  | lit l => cases l <;> simp [Rows.uptoBulk]
  | nil => simp [Rows.uptoBulk]
  | ptr d => simp [Rows.uptoBulk]
  | slice elems spare => simp [Rows.uptoBulk]
  | agg parts => simp [Rows.uptoBulk]
  | iface t d => simp [Rows.uptoBulk]
  | map entries => simp [Rows.uptoBulk]
  | held h => simp [Rows.uptoBulk]
def upBk (H : Type) : Bk H where
  b := Rows.uptoBulk
  all := Rows.uptoBulkAll
  str := fun s => by simp [Rows.uptoBulk]
  one := bulk_one
  sl := fun l r => by simp only [Rows.uptoBulk]; omega
  ag := fun l => by simp only [Rows.uptoBulk]; omega
  nil := by simp [Rows.uptoBulkAll]
  cons := fun d r => by simp [Rows.uptoBulkAll]

/-- there is an input that fits -/
theorem witness_sh {H : Type} {enc : TypeId × Value → H} {C : Checked} {os : Os} {f : FuncId} {fn : Func} {s : OpenSpec} {conds : List PathCond} {apart : Bool} {laid : List (String × DataW Unit)} (modest : Bool) (w0 : World) (args : Array Value) (hos : w0.os = os)
    (hsh : (w0.forCall (fun _ _ => 0) ⟨#[], args, []⟩).Shaped C.prog)
    (hok : Input.okWideB C.prog (w0.forCall (fun _ _ => 0) ⟨#[], args, []⟩) f ⟨#[], args, []⟩ = true)
    (hrow : s.preRow enc C.prog fn conds apart laid (w0.forCall (fun _ _ => 0) ⟨#[], args, []⟩).memory args) :
    ∃ (w : World) (tape : Tape) (i : Input), w.os = os ∧ (w.forCall tape i).Shaped C.prog ∧ i.vars = [] ∧ Input.okWide C.prog (w.forCall tape i) .any w.heap.size f i ∧
      s.preRow enc C.prog fn conds apart laid (w.forCall tape i).memory i.args ∧ ({ modest := modest } : Assume).holds C.prog (lone (Frame.enter C.prog f i.args .normal) [] (w.forCall tape i)) :=
  ⟨w0, fun _ _ => 0, ⟨#[], args, []⟩, hos, hsh, (Input.okWide_of_okWideB (base := 0) hok).1, (Input.okWide_of_okWideB hok).2, hrow, by
    simp only [Assume.holds]
    exact ⟨by simp, by simp, fun _ => Modest.zero, by simp, by simp⟩⟩

theorem ttmlDecodes_lifted (os : Os) (started : os.Started) (H : Type) (enc : TypeId × Value → H) (F : Stop.Interp) :
    ReturnsInHanded {} Tryz.checked os 6 .any ((OpenSpec.ofChange Rows.ttmlDecodesSpec).preRow enc Tryz.prog Tryz.f6 Rows.ttmlDecodesRow.domain false Rows.ttmlDecodesRow.laid) (((OpenSpec.ofChange Rows.ttmlDecodesSpec).at F).post enc Tryz.prog Tryz.f6 false true false false) := by
  refine returnsInHanded_of_row (C := Tryz.checked) (s := OpenSpec.ofChange Rows.ttmlDecodesSpec) Tryz.own started (by kernel_rfl) Tryz.func6
    (witness_sh (enc := enc) (C := Tryz.checked) false (World.laidAll Tryz.prog os Rows.ttmlDecodesRow.laid) #[.string .empty] (World.laidAll_os _ _ _) (World.shaped_of_ZipB (by kernel_rfl) (by kernel_rfl)) (by kernel_rfl)
      (OpenSpec.preRow_of_cond 8 (x := ([.lit (.string [])], [], [])) (by kernel_rfl) (by kernel_rfl) (fun k hk => by cases hk) (by kernel_rfl)
        (by rw [MakeChecks.laidMetH_plain _ _ _ (by kernel_rfl)]; exact laidMet_laidAll _ (by kernel_rfl) (by kernel_rfl)))) ?_
  intro W base args ds gs before hval0 hW _ hcond _ hL hsh _
  have hval : ∀ (j : Nat) t v, Tryz.f6.params[j]? = some t → args[j]? = some v → Value.okWide Tryz.prog W .any base t v := hval0
  have hW' : DataW.Whole enc Tryz.prog Tryz.f6.params.toList Rows.ttmlDecodesSpec.vars false W args.toList ds gs before := hW
  have hW := hW'
  obtain ⟨p, q, hA0, hV, rfl, hfz, hnd⟩ := hW
  have hA : DataW.TrodAll enc Tryz.prog W 0 (fun _ => true) true Tryz.f6.params.toList args.toList ds p := hA0
  obtain ⟨rfl, rfl⟩ := trodVars_none hV
  obtain ⟨d0, rfl⟩ : ∃ d0, ds = [d0] := by
    have hl := CP hA
    rw [Tryz.params6] at hl
    match ds, hl with
    | [d0], _ => exact ⟨d0, rfl⟩
  obtain ⟨x, x1, x0, x2, x3, x4⟩ := LY (upBk H) (E := Mo.E) aJ (r := .any) (b0 := base) lawTs Tryz.f6.params.toList args.toList [d0] p (by
      intro T hT
      simp only [lawTs, List.mem_cons, List.not_mem_nil, or_false] at hT
      rcases hT with rfl <;> exact ⟨rfl, rfl⟩) (by kernel_rfl) (fun j t v h1 h2 => hval j t v (by simpa using h1) (by simpa using h2)) hA
  have hx := KG x
  refine (aLM (E := Mo.E) aJ (Ts := lawTs) (fn := Mo.fI (Mo.fuelH)) (Mo.yZ (Mo.fuelH)) hx x2 x3 x4 (globs hL hsh) (by
    unfold callFunc
    simp only [program, Sem.run_bind, Sem.run, Result.andThen_ok, show Mo.E.P.funcs[6]? = some Tryz.f6 from Tryz.func6]
    rfl)).mono fun e W' he => ?_
  obtain ⟨V, rfl, hb, γ, K, hV⟩ := he
  have hV : bB K .bool true [V] := hV
  have hV : V = .bool true := by simpa [bB] using hV
  subst hV
  exact ⟨_, rfl, aLN hW' rfl rfl rfl Tryz.underlying4 Tryz.laidOut (by rw [Tryz.params6]; intro t ht; simp at ht; rcases ht with rfl <;> exact ⟨by kernel_rfl, by decide +kernel⟩) hb⟩

theorem ca {a b : Bool} (h : a = true) (k : b = true) : (a && b) = true := by rw [h, k]; rfl
theorem c_0 : (Rows.ttmlDecodesRow.wf (OpenSpec.ofChange (OpenSpec.ofChange Rows.ttmlDecodesSpec).bare)) = true := by kernel_rfl
theorem c_1 : (laidOutB Tryz.pinned.checked.prog) = true := by kernel_rfl
theorem c_2 : (mapsRowed Tryz.pinned.checked.prog) = true := by kernel_rfl
theorem c_3 : (Tryz.f6.params.all (Tryz.pinned.checked.prog.readableRec ·)) = true := by kernel_rfl
theorem c_4 : (namedTie Tryz.pinned.checked.prog Rows.ttmlDecodesRow.named (OpenSpec.ofChange Rows.ttmlDecodesSpec).bare.vars) = true := by kernel_rfl
theorem c_5 : ((Rows.ttmlDecodesRow.stops == [])) = true := by kernel_rfl
theorem c_6 : ((Tryz.pinned.checked.prog.stops == [])) = true := by kernel_rfl
theorem c_7 : ((Rows.ttmlDecodesRow.knobs == [])) = true := by kernel_rfl
theorem c_8 : ((Tryz.pinned.checked.prog.stopKnobs == [])) = true := by kernel_rfl
theorem c_9 : ((Rows.ttmlDecodesRow.inPlace == Tryz.pinned.checked.prog.inPlace 6)) = true := by kernel_rfl
theorem c_10 : ((Rows.ttmlDecodesRow.unfollowed == Tryz.pinned.checked.prog.unfollowed 6)) = true := by kernel_rfl
theorem c_11 : ((Rows.ttmlDecodesRow.recurses == Tryz.pinned.checked.prog.recurses 6)) = true := by kernel_rfl
theorem c_12 : ((Rows.ttmlDecodesRow.named == Tryz.pinned.checked.prog.varsNamed 6)) = true := by kernel_rfl
theorem c_13 : ((Rows.ttmlDecodesRow.maps == (Tryz.f6.params.toList ++ (OpenSpec.ofChange Rows.ttmlDecodesSpec).bare.plain.varTypes Tryz.pinned.checked.prog).any (Tryz.pinned.checked.prog.mapsRec ·))) = true := by kernel_rfl
theorem c_14 : ((Rows.ttmlDecodesRow.ifaces == (Tryz.f6.params.toList ++ (OpenSpec.ofChange Rows.ttmlDecodesSpec).bare.plain.varTypes Tryz.pinned.checked.prog).any (Tryz.pinned.checked.prog.ifacesRec ·))) = true := by kernel_rfl
theorem c_15 : ((Rows.ttmlDecodesRow.mapsOut == Tryz.pinned.checked.prog.mapsAmong Tryz.f6.resultTypes.toList)) = true := by kernel_rfl
theorem c_16 : ((Rows.ttmlDecodesRow.loops == (Tryz.f6.params.toList ++ (OpenSpec.ofChange Rows.ttmlDecodesSpec).bare.plain.varTypes Tryz.pinned.checked.prog).any (Tryz.pinned.checked.prog.loopsFrom ·))) = true := by kernel_rfl
theorem c_17 : ((Rows.ttmlDecodesRow.wideKeys == (Tryz.f6.params.toList ++ (OpenSpec.ofChange Rows.ttmlDecodesSpec).bare.plain.varTypes Tryz.pinned.checked.prog ++ Tryz.f6.resultTypes.toList).any (Tryz.pinned.checked.prog.wideKeysFrom ·))) = true := by kernel_rfl
theorem c_18 : ((OpenSpec.ofChange Rows.ttmlDecodesSpec).bare.vars.all (Tryz.pinned.checked.prog.varReadable ·)) = true := by kernel_rfl
theorem c_19 : (Tryz.f6.resultTypes.all (fun t => Tryz.pinned.checked.prog.readableRec t && decide (t < Tryz.pinned.checked.prog.types.size))) = true := by kernel_rfl
theorem c_20 : ((Rows.ttmlDecodesRow.ifacesOut == Tryz.f6.resultTypes.toList.any (Tryz.pinned.checked.prog.ifacesRec ·))) = true := by kernel_rfl
theorem c_21 : ((Rows.ttmlDecodesRow.loopsOut == Tryz.f6.resultTypes.toList.any (Tryz.pinned.checked.prog.loopsFrom ·))) = true := by kernel_rfl
theorem c_22 : ((Rows.ttmlDecodesRow.plainKeys == Tryz.pinned.checked.prog.plainKeys)) = true := by kernel_rfl
theorem c_23 : (Rows.ttmlDecodesRow.shortTexts.isNone) = true := by kernel_rfl
theorem c_24 : (Tryz.pinned.checked.prog.stopsHeard) = true := by kernel_rfl
theorem c_25 : (Tryz.pinned.checked.prog.mayEnter) = true := by kernel_rfl
theorem c_26 : ((Rows.ttmlDecodesRow.lifted == Tryz.pinned.checked.prog.liftsFinal)) = true := by kernel_rfl
theorem c_27 : ((Tryz.pinned.checked.prog.make == some Rows.ttmlDecodesRow.make)) = true := by kernel_rfl
theorem c_28 : ((Rows.ttmlDecodesRow.kinds == (if Rows.ttmlDecodesRow.domain.isEmpty then [] else Tryz.f6.params.toList.map fun t => match Tryz.pinned.checked.prog.underlying t with | some (.int k) => some k | _ => none))) = true := by kernel_rfl
theorem c_29 : ((Rows.ttmlDecodesRow.pinned == Rows.ttmlDecodesRow.pinnedBy)) = true := by kernel_rfl
theorem c_30 : ((Rows.ttmlDecodesRow.veiled == (Tryz.f6.params.toList ++ (OpenSpec.ofChange Rows.ttmlDecodesSpec).bare.plain.varTypes Tryz.pinned.checked.prog ++ Tryz.f6.resultTypes.toList).any (Tryz.pinned.checked.prog.veiledRec ·))) = true := by kernel_rfl
theorem c_31 : (Rows.ttmlDecodesRow.veiledFits Tryz.pinned.checked.prog Tryz.f6.params.toList (Tryz.f6.params.toList ++ (OpenSpec.ofChange Rows.ttmlDecodesSpec).bare.plain.varTypes Tryz.pinned.checked.prog ++ Tryz.f6.resultTypes.toList)) = true := by kernel_rfl
theorem ttmlDecodes_closed : joinedFacts Tryz.pinned.checked.prog 6 Tryz.f6 (OpenSpec.ofChange Rows.ttmlDecodesSpec).bare Rows.ttmlDecodesRow = true := ca (ca (ca (ca (ca (ca (ca (ca (ca (ca (ca (ca (ca (ca (ca (ca (ca (ca (ca (ca (ca (ca (ca (ca (ca (ca (ca (ca (ca (ca (ca (c_0) c_1) c_2) c_3) c_4) c_5) c_6) c_7) c_8) c_9) c_10) c_11) c_12) c_13) c_14) c_15) c_16) c_17) c_18) c_19) c_20) c_21) c_22) c_23) c_24) c_25) c_26) c_27) c_28) c_29) c_30) c_31
theorem ttmlDecodes_row : Rows.TtmlDecodesSaid :=
  OpenClaim.holds_of_cond 6 Tryz.f6 rfl rfl rfl rfl rfl rfl rfl ⟨rfl, rfl, rfl, rfl, rfl⟩ rfl rfl rfl rfl rfl (by kernel_rfl) Tryz.func6 ttmlDecodes_closed
    (of_decide_eq_true (by kernel_rfl)) (by unfold Func.isWrapper; first | (rw [if_pos (by decide +kernel)]; kernel_rfl) | (rw [if_neg (by decide +kernel)]; exact ⟨rfl, rfl⟩))
    (fun os started H enc _ F => by rw [OpenClaim.pre_eq_preRow]; exact ttmlDecodes_lifted os started H enc F)
end Go.Proofs.YtpblmlldkpkomaaGreatDoor

