/-
  TtmlBuilds holds for every input of bulk at most 1048576: it returns true, and the input reads as before; the listed variables are tied to the text of the program.
-/
import Derived.Test.YtpblmlldkpkomaaGreatDoorZbC
import Derived.Test.YtpblmlldkpkomaaGreatDoorRows
import Derived.Test.YtpblmlldkpkomaaGreatDoorCards
import Derived.Test.YtpblmlldkpkomaaGreatDoorTie
import Derived.Lay
import Derived.SevenTiedAt
import Derived.Deep.DeepHandedRow
import Derived.Shelf.Vars
set_option linter.all false
namespace Go.Proofs.YtpblmlldkpkomaaGreatDoor
open Go.W Go.Mo Go.ChangeShapes Go.WideShapes Go.ChangeAt Go.RowKit
set_option maxRecDepth 100000

theorem Tryz.own : ownKnob Tryz.prog.godebug = Option.none := by kernel_rfl
theorem Tryz.laidOut : laidOutB Tryz.prog = true := by kernel_rfl

theorem globs {W : World} (h : laidMetH Tryz.prog Rows.ttmlBuildsUptoRow.laid W) (hsh : W.ShapedOpen Tryz.prog) : GlobOk Mo.E (kOf W) := by
  rw [MakeChecks.laidMetH_plain _ _ _ (by kernel_rfl)] at h
  obtain ⟨ps, ⟨g0, t0, cs0, f0, p0, q0, hg0, ht0, hv0, hd0, ⟨g1, t1, cs1, f1, p1, q1, hg1, ht1, hv1, hd1, ⟨g2, t2, cs2, f2, p2, q2, hg2, ht2, hv2, hd2, ⟨g3, t3, cs3, f3, p3, q3, hg3, ht3, hv3, hd3, ⟨g4, t4, cs4, f4, p4, q4, hg4, ht4, hv4, hd4, ⟨g5, t5, cs5, f5, p5, q5, hg5, ht5, hv5, hd5, ⟨g6, t6, cs6, f6, p6, q6, hg6, ht6, hv6, hd6, ⟨g7, t7, cs7, f7, p7, q7, hg7, ht7, hv7, hd7, ⟨g8, t8, cs8, f8, p8, q8, hg8, ht8, hv8, hd8, ⟨g9, t9, cs9, f9, p9, q9, hg9, ht9, hv9, hd9, _, _⟩, _⟩, _⟩, _⟩, _⟩, _⟩, _⟩, _⟩, _⟩, _⟩, _, _⟩ := h
  obtain rfl := Option.some.inj ((show Tryz.prog.globalNamed "captioner/ttml.aligns" = some 0 by kernel_rfl).symm.trans hg8)
  obtain rfl := Option.some.inj ((show Tryz.prog.globalNamed "captioner/ttml.colors" = some 1 by kernel_rfl).symm.trans hg7)
  obtain rfl := Option.some.inj ((show Tryz.prog.globalNamed "captioner/xml.entities" = some 2 by kernel_rfl).symm.trans hg6)
  obtain rfl := Option.some.inj ((show Tryz.prog.globalNamed "unicode/utf8.first" = some 3 by kernel_rfl).symm.trans hg9)
  obtain rfl := Option.some.inj ((show Tryz.prog.globalNamed "unicode/utf8.acceptRanges" = some 4 by kernel_rfl).symm.trans hg3)
  obtain rfl := Option.some.inj ((show Tryz.prog.globalNamed "internal/strconv.uint64pow10" = some 5 by kernel_rfl).symm.trans hg2)
  obtain rfl := Option.some.inj ((show (Tryz.prog.globals[0]?).map (·.type) = some 85 by kernel_rfl).symm.trans ht8)
  obtain rfl := Option.some.inj ((show (Tryz.prog.globals[1]?).map (·.type) = some 88 by kernel_rfl).symm.trans ht7)
  obtain rfl := Option.some.inj ((show (Tryz.prog.globals[2]?).map (·.type) = some 202 by kernel_rfl).symm.trans ht6)
  obtain rfl := Option.some.inj ((show (Tryz.prog.globals[3]?).map (·.type) = some 261 by kernel_rfl).symm.trans ht9)
  obtain rfl := Option.some.inj ((show (Tryz.prog.globals[4]?).map (·.type) = some 264 by kernel_rfl).symm.trans ht3)
  obtain rfl := Option.some.inj ((show (Tryz.prog.globals[5]?).map (·.type) = some 273 by kernel_rfl).symm.trans ht2)
  obtain rfl := Option.some.inj ((show Tryz.prog.globalNamed "strconv.ErrSyntax" = some 9 by kernel_rfl).symm.trans hg5)
  obtain rfl := Option.some.inj ((show (Tryz.prog.globals[9]?).map (·.type) = some 133 by kernel_rfl).symm.trans ht5)
  obtain rfl := Option.some.inj ((show Tryz.prog.globalNamed "strconv.ErrRange" = some 10 by kernel_rfl).symm.trans hg4)
  obtain rfl := Option.some.inj ((show (Tryz.prog.globals[10]?).map (·.type) = some 133 by kernel_rfl).symm.trans ht4)
  refine ⟨fun g T x hg => ?_, fun g hg => by
    have hg : memN g [6] = true := hg
    have : g = 6 := by
      simp only [memN, Bool.or_false] at hg
      exact Nat.eq_of_beq_eq_true hg
    subst this
    obtain ⟨m, hm⟩ := cell_of_shapedOpen_int (g := 6) (t := 3) (zero := #[.int .i64 0]) (k := .i64) hsh (of_decide_eq_true (by kernel_rfl)) (by kernel_rfl) rfl (by kernel_rfl) (by kernel_rfl) (by kernel_rfl)
    exact ⟨m, (kOf_cell hm rfl).2⟩, fun g hg => by
    have hg : memN g [9, 10] = true := hg
    have : g = 9 ∨ g = 10 := by
      simp only [memN, Bool.or_false, Bool.or_eq_true] at hg
      exact hg.imp Nat.eq_of_beq_eq_true Nat.eq_of_beq_eq_true
    rcases this with rfl | rfl
    · exact ie_of (E := Mo.E) hg5 (show Mo.E.P.underlying 133 = _ from Tryz.underlying133) hv5 hd5
    · exact ie_of (E := Mo.E) hg4 (show Mo.E.P.underlying 133 = _ from Tryz.underlying133) hv4 hd4⟩
  have hl : lkG [(0, (⟨.arr 3 (.str), gl0⟩ : Sigma Ty.den)), (1, (⟨.arr 7 (.str), gl1⟩ : Sigma Ty.den)), (2, (⟨.arr 5 (.arr 2 (.str)), gl2⟩ : Sigma Ty.den)), (3, (⟨.arr 256 (.u8), gl3⟩ : Sigma Ty.den)), (4, (⟨.arr 16 (.st (.pair (.u8) (.u8))), gl4⟩ : Sigma Ty.den)), (5, (⟨.arr 20 (.int .u64), gl5⟩ : Sigma Ty.den))] g = some ⟨T, x⟩ := hg
  simp only [lkG, bsel] at hl
  split at hl
  · rename_i hb
    have := Nat.eq_of_beq_eq_true hb
    subst this
    injection hl with hl
    injection hl with e1 e2
    subst e1
    have e2 := eq_of_heq e2
    subst e2
    exact glob_of (E := Mo.E) envOk hg8 (show Mo.E.t 85 = some _ by kernel_rfl) rfl rfl hv8 hd8 (by kernel_rfl)
  · split at hl
    · rename_i hb
      have := Nat.eq_of_beq_eq_true hb
      subst this
      injection hl with hl
      injection hl with e1 e2
      subst e1
      have e2 := eq_of_heq e2
      subst e2
      exact glob_of (E := Mo.E) envOk hg7 (show Mo.E.t 88 = some _ by kernel_rfl) rfl rfl hv7 hd7 (by kernel_rfl)
    · split at hl
      · rename_i hb
        have := Nat.eq_of_beq_eq_true hb
        subst this
        injection hl with hl
        injection hl with e1 e2
        subst e1
        have e2 := eq_of_heq e2
        subst e2
        exact glob_of (E := Mo.E) envOk hg6 (show Mo.E.t 202 = some _ by kernel_rfl) rfl rfl hv6 hd6 (by kernel_rfl)
      · split at hl
        · rename_i hb
          have := Nat.eq_of_beq_eq_true hb
          subst this
          injection hl with hl
          injection hl with e1 e2
          subst e1
          have e2 := eq_of_heq e2
          subst e2
          exact glob_of (E := Mo.E) envOk hg9 (show Mo.E.t 261 = some _ by kernel_rfl) rfl rfl hv9 hd9 (by kernel_rfl)
        · split at hl
          · rename_i hb
            have := Nat.eq_of_beq_eq_true hb
            subst this
            injection hl with hl
            injection hl with e1 e2
            subst e1
            have e2 := eq_of_heq e2
            subst e2
            exact glob_of (E := Mo.E) envOk hg3 (show Mo.E.t 264 = some _ by kernel_rfl) rfl rfl hv3 hd3 (by kernel_rfl)
          · split at hl
            · rename_i hb
              have := Nat.eq_of_beq_eq_true hb
              subst this
              injection hl with hl
              injection hl with e1 e2
              subst e1
              have e2 := eq_of_heq e2
              subst e2
              exact glob_of (E := Mo.E) envOk hg2 (show Mo.E.t 273 = some _ by kernel_rfl) rfl rfl hv2 hd2 (by kernel_rfl)
            · cases hl

def lawTs : List Ty := [.slice (.st (.pair (.str) (.pair (.str) (.pair (.slice (.st (.pair (.str) (.str)))) (.int .i64)))))]

/-- the measure of the Rows text -/
theorem bulk_one {H : Type} (d : DataW H) : 1 ≤ Rows.uptoBulk d := by
  cases d with
  | lit l => cases l <;> simp [Rows.uptoBulk]
  | nil => simp [Rows.uptoBulk]
  | ptr d => simp [Rows.uptoBulk]
  | slice elems spare => simp [Rows.uptoBulk]
  | agg parts => simp [Rows.uptoBulk]
  | iface t d => simp [Rows.uptoBulk]
  | map entries => simp [Rows.uptoBulk]
  | held h => simp [Rows.uptoBulk]
def upBk (H : Type) : Bk H where
  b := Rows.uptoBulk
  all := Rows.uptoBulkAll
  str := fun s => by simp [Rows.uptoBulk]
  one := bulk_one
  sl := fun l r => by simp only [Rows.uptoBulk]; omega
  ag := fun l => by simp only [Rows.uptoBulk]; omega
  nil := by simp [Rows.uptoBulkAll]
  cons := fun d r => by simp [Rows.uptoBulkAll]

/-- there is an input that fits -/
theorem witness_sh {H : Type} {enc : TypeId × Value → H} {C : Checked} {os : Os} {f : FuncId} {fn : Func} {s : OpenSpec} {conds : List PathCond} {apart : Bool} {laid : List (String × DataW Unit)} (modest : Bool) (w0 : World) (args : Array Value) (hos : w0.os = os)
    (hsh : (w0.forCall (fun _ _ => 0) ⟨#[], args, []⟩).Shaped C.prog)
    (hok : Input.okWideB C.prog (w0.forCall (fun _ _ => 0) ⟨#[], args, []⟩) f ⟨#[], args, []⟩ = true)
    (hrow : s.preRow enc C.prog fn conds apart laid (w0.forCall (fun _ _ => 0) ⟨#[], args, []⟩).memory args) :
    ∃ (w : World) (tape : Tape) (i : Input), w.os = os ∧ (w.forCall tape i).Shaped C.prog ∧ i.vars = [] ∧ Input.okWide C.prog (w.forCall tape i) .any w.heap.size f i ∧
      s.preRow enc C.prog fn conds apart laid (w.forCall tape i).memory i.args ∧ ({ modest := modest } : Assume).holds C.prog (lone (Frame.enter C.prog f i.args .normal) [] (w.forCall tape i)) :=
  ⟨w0, fun _ _ => 0, ⟨#[], args, []⟩, hos, hsh, (Input.okWide_of_okWideB (base := 0) hok).1, (Input.okWide_of_okWideB hok).2, hrow, by
    simp only [Assume.holds]
    exact ⟨by simp, by simp, fun _ => Modest.zero, by simp, by simp⟩⟩

theorem ttmlBuildsUpto_lifted (os : Os) (started : os.Started) (H : Type) (enc : TypeId × Value → H) (F : Stop.Interp) :
    ReturnsInHanded {} Tryz.checked os 4 .any ((Rows.OpenSpec.upto Rows.ttmlBuildsSpec).preRow enc Tryz.prog Tryz.f4 Rows.ttmlBuildsUptoRow.domain false Rows.ttmlBuildsUptoRow.laid) (((Rows.OpenSpec.upto Rows.ttmlBuildsSpec).at F).post enc Tryz.prog Tryz.f4 false true false false) := by
  refine returnsInHanded_of_row (C := Tryz.checked) (s := Rows.OpenSpec.upto Rows.ttmlBuildsSpec) Tryz.own started (by kernel_rfl) Tryz.func4
    (witness_sh (enc := enc) (C := Tryz.checked) false (World.laidAll Tryz.prog os Rows.ttmlBuildsUptoRow.laid) #[.slice Option.none 0 0] (World.laidAll_os _ _ _) (World.shaped_of_ZipB (by kernel_rfl) (by kernel_rfl)) (by kernel_rfl)
      (OpenSpec.preRow_of_cond 8 (x := ([.nil], [], [])) (by kernel_rfl) (by kernel_rfl) (fun k hk => by cases hk; kernel_rfl) (by kernel_rfl)
        (by rw [MakeChecks.laidMetH_plain _ _ _ (by kernel_rfl)]; exact laidMet_laidAll _ (by kernel_rfl) (by kernel_rfl)))) ?_
  intro W base args ds gs before hval0 hW _ hcond _ hL hsh _
  have hval : ∀ (j : Nat) t v, Tryz.f4.params[j]? = some t → args[j]? = some v → Value.okWide Tryz.prog W .any base t v := hval0
  have hW' : DataW.Whole enc Tryz.prog Tryz.f4.params.toList Rows.ttmlBuildsSpec.vars false W args.toList ds gs before := hW
  have hW := hW'
  obtain ⟨p, q, hA0, hV, rfl, hfz, hnd⟩ := hW
  have hA : DataW.TrodAll enc Tryz.prog W 0 (fun _ => true) true Tryz.f4.params.toList args.toList ds p := hA0
  obtain ⟨rfl, rfl⟩ := trodVars_none hV
  obtain ⟨d0, rfl⟩ : ∃ d0, ds = [d0] := by
    have hl := trodAll_len hA
    rw [Tryz.params4] at hl
    match ds, hl with
    | [d0], _ => exact ⟨d0, rfl⟩
  obtain ⟨x, x1, x0, x2, x3, x4⟩ := args_open (upBk H) (E := Mo.E) envOk (r := .any) (b0 := base) lawTs Tryz.f4.params.toList args.toList [d0] p (by
      intro T hT
      simp only [lawTs, List.mem_cons, List.not_mem_nil, or_false] at hT
      rcases hT with rfl <;> exact ⟨rfl, rfl⟩) (by kernel_rfl) (fun j t v h1 h2 => hval j t v (by simpa using h1) (by simpa using h2)) hA
  have hsm : Rows.uptoSmall H ([d0] ++ []) = true := hcond _ rfl
  have hb : bkVec lawTs x ≤ 1048576 := Nat.le_trans x0 (by
    have := of_decide_eq_true hsm
    rwa [List.append_nil] at this)
  have hx := builds_true (x := x) hb
  refine (law_call (E := Mo.E) envOk (Ts := lawTs) (fn := Mo.l21_TtmlBuilds (Mo.fuelH)) (Mo.k_l21_TtmlBuilds (Mo.fuelH)) hx x2 x3 x4 (globs hL hsh) (by
    unfold callFunc
    simp only [program, Sem.run_bind, Sem.run, Result.andThen_ok, show Mo.E.P.funcs[4]? = some Tryz.f4 from Tryz.func4]
    rfl)).mono fun e W' he => ?_
  obtain ⟨V, rfl, hb, γ, K, hV⟩ := he
  have hV : RepC K .bool true [V] := hV
  have hV : V = .bool true := by simpa [RepC] using hV
  subst hV
  exact ⟨_, rfl, law_post hW' rfl rfl rfl Tryz.underlying4 Tryz.laidOut (by rw [Tryz.params4]; intro t ht; simp at ht; rcases ht with rfl <;> exact ⟨by kernel_rfl, by decide +kernel⟩) hb⟩

theorem closed_and {a b : Bool} (h : a = true) (k : b = true) : (a && b) = true := by rw [h, k]; rfl
theorem ttmlBuildsUpto_c0 : (Rows.ttmlBuildsUptoRow.wf (OpenSpec.ofChange (Rows.OpenSpec.upto Rows.ttmlBuildsSpec).bare)) = true := by kernel_rfl
theorem ttmlBuildsUpto_c1 : (laidOutB Tryz.pinned.checked.prog) = true := by kernel_rfl
theorem ttmlBuildsUpto_c2 : (mapsRowed Tryz.pinned.checked.prog) = true := by kernel_rfl
theorem ttmlBuildsUpto_c3 : (Tryz.f4.params.all (Tryz.pinned.checked.prog.readableRec ·)) = true := by kernel_rfl
theorem ttmlBuildsUpto_c4 : (namedTie Tryz.pinned.checked.prog Rows.ttmlBuildsUptoRow.named (Rows.OpenSpec.upto Rows.ttmlBuildsSpec).bare.vars) = true := by kernel_rfl
theorem ttmlBuildsUpto_c5 : ((Rows.ttmlBuildsUptoRow.stops == [])) = true := by kernel_rfl
theorem ttmlBuildsUpto_c6 : ((Tryz.pinned.checked.prog.stops == [])) = true := by kernel_rfl
theorem ttmlBuildsUpto_c7 : ((Rows.ttmlBuildsUptoRow.knobs == [])) = true := by kernel_rfl
theorem ttmlBuildsUpto_c8 : ((Tryz.pinned.checked.prog.stopKnobs == [])) = true := by kernel_rfl
theorem ttmlBuildsUpto_c9 : ((Rows.ttmlBuildsUptoRow.inPlace == Tryz.pinned.checked.prog.inPlace 4)) = true := by kernel_rfl
theorem ttmlBuildsUpto_c10 : ((Rows.ttmlBuildsUptoRow.unfollowed == Tryz.pinned.checked.prog.unfollowed 4)) = true := by kernel_rfl
theorem ttmlBuildsUpto_c11 : ((Rows.ttmlBuildsUptoRow.recurses == Tryz.pinned.checked.prog.recurses 4)) = true := by kernel_rfl
theorem ttmlBuildsUpto_c12 : ((Rows.ttmlBuildsUptoRow.named == Tryz.pinned.checked.prog.varsNamed 4)) = true := by kernel_rfl
theorem ttmlBuildsUpto_c13 : ((Rows.ttmlBuildsUptoRow.maps == (Tryz.f4.params.toList ++ (Rows.OpenSpec.upto Rows.ttmlBuildsSpec).bare.plain.varTypes Tryz.pinned.checked.prog).any (Tryz.pinned.checked.prog.mapsRec ·))) = true := by kernel_rfl
theorem ttmlBuildsUpto_c14 : ((Rows.ttmlBuildsUptoRow.ifaces == (Tryz.f4.params.toList ++ (Rows.OpenSpec.upto Rows.ttmlBuildsSpec).bare.plain.varTypes Tryz.pinned.checked.prog).any (Tryz.pinned.checked.prog.ifacesRec ·))) = true := by kernel_rfl
theorem ttmlBuildsUpto_c15 : ((Rows.ttmlBuildsUptoRow.mapsOut == Tryz.pinned.checked.prog.mapsAmong Tryz.f4.resultTypes.toList)) = true := by kernel_rfl
theorem ttmlBuildsUpto_c16 : ((Rows.ttmlBuildsUptoRow.loops == (Tryz.f4.params.toList ++ (Rows.OpenSpec.upto Rows.ttmlBuildsSpec).bare.plain.varTypes Tryz.pinned.checked.prog).any (Tryz.pinned.checked.prog.loopsFrom ·))) = true := by kernel_rfl
theorem ttmlBuildsUpto_c17 : ((Rows.ttmlBuildsUptoRow.wideKeys == (Tryz.f4.params.toList ++ (Rows.OpenSpec.upto Rows.ttmlBuildsSpec).bare.plain.varTypes Tryz.pinned.checked.prog ++ Tryz.f4.resultTypes.toList).any (Tryz.pinned.checked.prog.wideKeysFrom ·))) = true := by kernel_rfl
theorem ttmlBuildsUpto_c18 : ((Rows.OpenSpec.upto Rows.ttmlBuildsSpec).bare.vars.all (Tryz.pinned.checked.prog.varReadable ·)) = true := by kernel_rfl
theorem ttmlBuildsUpto_c19 : (Tryz.f4.resultTypes.all (fun t => Tryz.pinned.checked.prog.readableRec t && decide (t < Tryz.pinned.checked.prog.types.size))) = true := by kernel_rfl
theorem ttmlBuildsUpto_c20 : ((Rows.ttmlBuildsUptoRow.ifacesOut == Tryz.f4.resultTypes.toList.any (Tryz.pinned.checked.prog.ifacesRec ·))) = true := by kernel_rfl
theorem ttmlBuildsUpto_c21 : ((Rows.ttmlBuildsUptoRow.loopsOut == Tryz.f4.resultTypes.toList.any (Tryz.pinned.checked.prog.loopsFrom ·))) = true := by kernel_rfl
theorem ttmlBuildsUpto_c22 : ((Rows.ttmlBuildsUptoRow.plainKeys == Tryz.pinned.checked.prog.plainKeys)) = true := by kernel_rfl
theorem ttmlBuildsUpto_c23 : (Rows.ttmlBuildsUptoRow.shortTexts.isNone) = true := by kernel_rfl
theorem ttmlBuildsUpto_c24 : (Tryz.pinned.checked.prog.stopsHeard) = true := by kernel_rfl
theorem ttmlBuildsUpto_c25 : (Tryz.pinned.checked.prog.mayEnter) = true := by kernel_rfl
theorem ttmlBuildsUpto_c26 : ((Rows.ttmlBuildsUptoRow.lifted == Tryz.pinned.checked.prog.liftsFinal)) = true := by kernel_rfl
theorem ttmlBuildsUpto_c27 : ((Tryz.pinned.checked.prog.make == some Rows.ttmlBuildsUptoRow.make)) = true := by kernel_rfl
theorem ttmlBuildsUpto_c28 : ((Rows.ttmlBuildsUptoRow.kinds == (if Rows.ttmlBuildsUptoRow.domain.isEmpty then [] else Tryz.f4.params.toList.map fun t => match Tryz.pinned.checked.prog.underlying t with | some (.int k) => some k | _ => none))) = true := by kernel_rfl
theorem ttmlBuildsUpto_c29 : ((Rows.ttmlBuildsUptoRow.pinned == Rows.ttmlBuildsUptoRow.pinnedBy)) = true := by kernel_rfl
theorem ttmlBuildsUpto_c30 : ((Rows.ttmlBuildsUptoRow.veiled == (Tryz.f4.params.toList ++ (Rows.OpenSpec.upto Rows.ttmlBuildsSpec).bare.plain.varTypes Tryz.pinned.checked.prog ++ Tryz.f4.resultTypes.toList).any (Tryz.pinned.checked.prog.veiledRec ·))) = true := by kernel_rfl
theorem ttmlBuildsUpto_c31 : (Rows.ttmlBuildsUptoRow.veiledFits Tryz.pinned.checked.prog Tryz.f4.params.toList (Tryz.f4.params.toList ++ (Rows.OpenSpec.upto Rows.ttmlBuildsSpec).bare.plain.varTypes Tryz.pinned.checked.prog ++ Tryz.f4.resultTypes.toList)) = true := by kernel_rfl
theorem ttmlBuildsUpto_closed : joinedFacts Tryz.pinned.checked.prog 4 Tryz.f4 (Rows.OpenSpec.upto Rows.ttmlBuildsSpec).bare Rows.ttmlBuildsUptoRow = true := closed_and (closed_and (closed_and (closed_and (closed_and (closed_and (closed_and (closed_and (closed_and (closed_and (closed_and (closed_and (closed_and (closed_and (closed_and (closed_and (closed_and (closed_and (closed_and (closed_and (closed_and (closed_and (closed_and (closed_and (closed_and (closed_and (closed_and (closed_and (closed_and (closed_and (closed_and (ttmlBuildsUpto_c0) ttmlBuildsUpto_c1) ttmlBuildsUpto_c2) ttmlBuildsUpto_c3) ttmlBuildsUpto_c4) ttmlBuildsUpto_c5) ttmlBuildsUpto_c6) ttmlBuildsUpto_c7) ttmlBuildsUpto_c8) ttmlBuildsUpto_c9) ttmlBuildsUpto_c10) ttmlBuildsUpto_c11) ttmlBuildsUpto_c12) ttmlBuildsUpto_c13) ttmlBuildsUpto_c14) ttmlBuildsUpto_c15) ttmlBuildsUpto_c16) ttmlBuildsUpto_c17) ttmlBuildsUpto_c18) ttmlBuildsUpto_c19) ttmlBuildsUpto_c20) ttmlBuildsUpto_c21) ttmlBuildsUpto_c22) ttmlBuildsUpto_c23) ttmlBuildsUpto_c24) ttmlBuildsUpto_c25) ttmlBuildsUpto_c26) ttmlBuildsUpto_c27) ttmlBuildsUpto_c28) ttmlBuildsUpto_c29) ttmlBuildsUpto_c30) ttmlBuildsUpto_c31
theorem ttmlBuildsUpto_row : Rows.TtmlBuildsUptoSaid :=
  OpenClaim.holds_of_cond 4 Tryz.f4 rfl rfl rfl rfl rfl rfl rfl ⟨rfl, rfl, rfl, rfl, rfl⟩ rfl rfl rfl rfl rfl (by kernel_rfl) Tryz.func4 ttmlBuildsUpto_closed
    (of_decide_eq_true (by kernel_rfl)) (by unfold Func.isWrapper; first | (rw [if_pos (by decide +kernel)]; kernel_rfl) | (rw [if_neg (by decide +kernel)]; exact ⟨rfl, rfl⟩))
    (fun os started H enc _ F => by rw [OpenClaim.pre_eq_preRow]; exact ttmlBuildsUpto_lifted os started H enc F)
theorem ttmlBuildsUpto_plain (f : FuncId) (fn : Func) (hf : Tryz.pinned.checked.prog.funcNamed "captioner/captionerlaw21.TtmlBuilds" = some f) (hfn : Tryz.pinned.checked.prog.funcs[f]? = some fn) :
    true = Tryz.pinned.checked.prog.looks [] ∧ ∀ (j : Nat) t, fn.params[j]? = some t → Tryz.pinned.checked.prog.wantsStandIn t = false := by
  obtain rfl : f = 4 := Option.some.inj ((show Tryz.prog.funcNamed "captioner/captionerlaw21.TtmlBuilds" = some 4 by kernel_rfl).symm.trans hf) |>.symm
  obtain rfl : fn = Tryz.f4 := (Option.some.inj (Tryz.func4.symm.trans hfn)).symm
  refine ⟨by kernel_rfl, fun j t ht => ?_⟩
  rw [Tryz.params4] at ht
  have hm : t ∈ [30] := by simpa using Array.mem_of_getElem? ht
  have hall : ([30].all fun u => !Tryz.prog.wantsStandIn u) = true := by kernel_rfl
  exact (show Tryz.prog.wantsStandIn t = false by simpa using List.all_eq_true.1 hall t hm)
theorem ttmlBuildsUpto_holds : Rows.TtmlBuildsUptoCardSaid :=
  Claim7.holds_tied_plain_at .later [] _ _ _ _ ttmlBuildsUpto_row (fun _ h => by cases h) (by kernel_rfl) (fun _ h => by cases h) ttmlBuildsUpto_row_tie rfl ⟨rfl, rfl⟩ (by kernel_rfl) rfl ttmlBuildsUpto_plain (by kernel_rfl)
end Go.Proofs.YtpblmlldkpkomaaGreatDoor
