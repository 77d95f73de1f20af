/-
  TapeJoins holds: for every input it returns true, and the input reads as before; no condition.
-/
import Derived.Test.YtcccboodapgejaaVWb
import Derived.Test.YtcccboodapgejaaPTapeD
import Derived.Test.YtcccboodapgejaaVOpen
import Derived.Test.YtcccboodapgejaaRows
namespace Go.Proofs.Ytcccboodapgejaa
open Go.Sym Go.Cap Go.ChangeShapes Go.WideShapes Go.ChangeAt Go.RowKit

theorem Try.own : ownKnob Try.prog.godebug = Option.none := by kernel_rfl
theorem Try.laidOut : laidOutB Try.prog = true := by kernel_rfl
def QTLabel (w : World) (x : TLabel) : Prop := (-9223372036854775808 ≤ x.H ∧ x.H ≤ 9223372036854775807) ∧ (-9223372036854775808 ≤ x.M ∧ x.M ≤ 9223372036854775807) ∧ (-9223372036854775808 ≤ x.S ∧ x.S ≤ 9223372036854775807) ∧ (-9223372036854775808 ≤ x.F ∧ x.F ≤ 9223372036854775807) ∧ True
theorem opens_TLabel {H : Type} {enc : TypeId × Value → H} {w : World} {base : Nat} {spare : Nat → Bool} {held : Bool} : Opens enc Try.prog w base spare held 23 eTLabel (fun x _ => QTLabel w x) := by
  intro fuel cs x h
  obtain ⟨xs, n, _, _, hlen, hxl, hf⟩ := DataW.trod_struct Try.underlying23 h
  have hlen : cs.length = 5 := hlen.trans (by kernel_rfl)
  have hxl : xs.length = 5 := hxl
  have e3 : Try.prog.cellsOf 3 = 1 := by kernel_rfl
  have e4 : Try.prog.cellsOf 4 = 1 := by kernel_rfl
  match cs, hlen with
  | [c0, c1, c2, c3, c4], _ =>
    have f0 : DataW.trod enc Try.prog w base spare held n 3 [c0] = xs[0]? := by
      have hj : DataW.trod enc Try.prog w base spare held n 3 ((([c0, c1, c2, c3, c4] : List Value).drop 0).take (Try.prog.cellsOf 3)) = xs[0]? := hf 0 _ rfl
      rw [e3] at hj
      exact hj
    rw [List.getElem?_eq_getElem (by omega)] at f0
    have f1 : DataW.trod enc Try.prog w base spare held n 3 [c1] = xs[1]? := by
      have hj : DataW.trod enc Try.prog w base spare held n 3 ((([c0, c1, c2, c3, c4] : List Value).drop 1).take (Try.prog.cellsOf 3)) = xs[1]? := hf 1 _ rfl
      rw [e3] at hj
      exact hj
    rw [List.getElem?_eq_getElem (by omega)] at f1
    have f2 : DataW.trod enc Try.prog w base spare held n 3 [c2] = xs[2]? := by
      have hj : DataW.trod enc Try.prog w base spare held n 3 ((([c0, c1, c2, c3, c4] : List Value).drop 2).take (Try.prog.cellsOf 3)) = xs[2]? := hf 2 _ rfl
      rw [e3] at hj
      exact hj
    rw [List.getElem?_eq_getElem (by omega)] at f2
    have f3 : DataW.trod enc Try.prog w base spare held n 3 [c3] = xs[3]? := by
      have hj : DataW.trod enc Try.prog w base spare held n 3 ((([c0, c1, c2, c3, c4] : List Value).drop 3).take (Try.prog.cellsOf 3)) = xs[3]? := hf 3 _ rfl
      rw [e3] at hj
      exact hj
    rw [List.getElem?_eq_getElem (by omega)] at f3
    have f4 : DataW.trod enc Try.prog w base spare held n 4 [c4] = xs[4]? := by
      have hj : DataW.trod enc Try.prog w base spare held n 4 ((([c0, c1, c2, c3, c4] : List Value).drop 4).take (Try.prog.cellsOf 4)) = xs[4]? := hf 4 _ rfl
      rw [e4] at hj
      exact hj
    rw [List.getElem?_eq_getElem (by omega)] at f4
    obtain ⟨a0, g0, h0, q0⟩ := (opens_i64 Try.underlying3) _ _ _ f0
    obtain rfl : c0 = _ := (List.cons.inj h0).1
    obtain ⟨a1, g1, h1, q1⟩ := (opens_i64 Try.underlying3) _ _ _ f1
    obtain rfl : c1 = _ := (List.cons.inj h1).1
    obtain ⟨a2, g2, h2, q2⟩ := (opens_i64 Try.underlying3) _ _ _ f2
    obtain rfl : c2 = _ := (List.cons.inj h2).1
    obtain ⟨a3, g3, h3, q3⟩ := (opens_i64 Try.underlying3) _ _ _ f3
    obtain rfl : c3 = _ := (List.cons.inj h3).1
    obtain ⟨a4, g4, h4, q4⟩ := (opens_bool Try.underlying4) _ _ _ f4
    obtain rfl : c4 = _ := (List.cons.inj h4).1
    exact ⟨⟨a0, a1, a2, a3, a4⟩, (), rfl, ⟨q0, q1, q2, q3, q4⟩⟩
def QTBlock (w : World) (x : TBlock) (g : Gs Unit) : Prop := (-9223372036854775808 ≤ x.Group ∧ x.Group ≤ 9223372036854775807) ∧ (-9223372036854775808 ≤ x.Number ∧ x.Number ≤ 9223372036854775807) ∧ True ∧ True ∧ (QTLabel w x.In) ∧ (QTLabel w x.Out) ∧ (-9223372036854775808 ≤ x.Row ∧ x.Row ≤ 9223372036854775807) ∧ True ∧ True ∧ ((vw elB x.Text.length x.Text g).ok w ∧ ∀ i, i < x.Text.length → True)
theorem opens_TBlock {H : Type} {enc : TypeId × Value → H} {w : World} {base : Nat} {spare : Nat → Bool} {held : Bool} : Opens enc Try.prog w base spare held 27 eTBlock (fun x g => QTBlock w x g) := by
  intro fuel cs x h
  obtain ⟨xs, n, _, _, hlen, hxl, hf⟩ := DataW.trod_struct Try.underlying27 h
  have hlen : cs.length = 18 := hlen.trans (by kernel_rfl)
  have hxl : xs.length = 10 := hxl
  have e3 : Try.prog.cellsOf 3 = 1 := by kernel_rfl
  have e4 : Try.prog.cellsOf 4 = 1 := by kernel_rfl
  have e5 : Try.prog.cellsOf 5 = 1 := by kernel_rfl
  have e23 : Try.prog.cellsOf 23 = 5 := by kernel_rfl
  have e24 : Try.prog.cellsOf 24 = 1 := by kernel_rfl
  have e25 : Try.prog.cellsOf 25 = 1 := by kernel_rfl
  match cs, hlen with
  | [c0, c1, c2, c3, c4, c5, c6, c7, c8, c9, c10, c11, c12, c13, c14, c15, c16, c17], _ =>
    have f0 : DataW.trod enc Try.prog w base spare held n 3 [c0] = xs[0]? := by
      have hj : DataW.trod enc Try.prog w base spare held n 3 ((([c0, c1, c2, c3, c4, c5, c6, c7, c8, c9, c10, c11, c12, c13, c14, c15, c16, c17] : List Value).drop 0).take (Try.prog.cellsOf 3)) = xs[0]? := hf 0 _ rfl
      rw [e3] at hj
      exact hj
    rw [List.getElem?_eq_getElem (by omega)] at f0
    have f1 : DataW.trod enc Try.prog w base spare held n 3 [c1] = xs[1]? := by
      have hj : DataW.trod enc Try.prog w base spare held n 3 ((([c0, c1, c2, c3, c4, c5, c6, c7, c8, c9, c10, c11, c12, c13, c14, c15, c16, c17] : List Value).drop 1).take (Try.prog.cellsOf 3)) = xs[1]? := hf 1 _ rfl
      rw [e3] at hj
      exact hj
    rw [List.getElem?_eq_getElem (by omega)] at f1
    have f2 : DataW.trod enc Try.prog w base spare held n 5 [c2] = xs[2]? := by
      have hj : DataW.trod enc Try.prog w base spare held n 5 ((([c0, c1, c2, c3, c4, c5, c6, c7, c8, c9, c10, c11, c12, c13, c14, c15, c16, c17] : List Value).drop 2).take (Try.prog.cellsOf 5)) = xs[2]? := hf 2 _ rfl
      rw [e5] at hj
      exact hj
    rw [List.getElem?_eq_getElem (by omega)] at f2
    have f3 : DataW.trod enc Try.prog w base spare held n 5 [c3] = xs[3]? := by
      have hj : DataW.trod enc Try.prog w base spare held n 5 ((([c0, c1, c2, c3, c4, c5, c6, c7, c8, c9, c10, c11, c12, c13, c14, c15, c16, c17] : List Value).drop 3).take (Try.prog.cellsOf 5)) = xs[3]? := hf 3 _ rfl
      rw [e5] at hj
      exact hj
    rw [List.getElem?_eq_getElem (by omega)] at f3
    have f4 : DataW.trod enc Try.prog w base spare held n 23 [c4, c5, c6, c7, c8] = xs[4]? := by
      have hj : DataW.trod enc Try.prog w base spare held n 23 ((([c0, c1, c2, c3, c4, c5, c6, c7, c8, c9, c10, c11, c12, c13, c14, c15, c16, c17] : List Value).drop 4).take (Try.prog.cellsOf 23)) = xs[4]? := hf 4 _ rfl
      rw [e23] at hj
      exact hj
    rw [List.getElem?_eq_getElem (by omega)] at f4
    have f5 : DataW.trod enc Try.prog w base spare held n 23 [c9, c10, c11, c12, c13] = xs[5]? := by
      have hj : DataW.trod enc Try.prog w base spare held n 23 ((([c0, c1, c2, c3, c4, c5, c6, c7, c8, c9, c10, c11, c12, c13, c14, c15, c16, c17] : List Value).drop 9).take (Try.prog.cellsOf 23)) = xs[5]? := hf 5 _ rfl
      rw [e23] at hj
      exact hj
    rw [List.getElem?_eq_getElem (by omega)] at f5
    have f6 : DataW.trod enc Try.prog w base spare held n 3 [c14] = xs[6]? := by
      have hj : DataW.trod enc Try.prog w base spare held n 3 ((([c0, c1, c2, c3, c4, c5, c6, c7, c8, c9, c10, c11, c12, c13, c14, c15, c16, c17] : List Value).drop 14).take (Try.prog.cellsOf 3)) = xs[6]? := hf 6 _ rfl
      rw [e3] at hj
      exact hj
    rw [List.getElem?_eq_getElem (by omega)] at f6
    have f7 : DataW.trod enc Try.prog w base spare held n 24 [c15] = xs[7]? := by
      have hj : DataW.trod enc Try.prog w base spare held n 24 ((([c0, c1, c2, c3, c4, c5, c6, c7, c8, c9, c10, c11, c12, c13, c14, c15, c16, c17] : List Value).drop 15).take (Try.prog.cellsOf 24)) = xs[7]? := hf 7 _ rfl
      rw [e24] at hj
      exact hj
    rw [List.getElem?_eq_getElem (by omega)] at f7
    have f8 : DataW.trod enc Try.prog w base spare held n 4 [c16] = xs[8]? := by
      have hj : DataW.trod enc Try.prog w base spare held n 4 ((([c0, c1, c2, c3, c4, c5, c6, c7, c8, c9, c10, c11, c12, c13, c14, c15, c16, c17] : List Value).drop 16).take (Try.prog.cellsOf 4)) = xs[8]? := hf 8 _ rfl
      rw [e4] at hj
      exact hj
    rw [List.getElem?_eq_getElem (by omega)] at f8
    have f9 : DataW.trod enc Try.prog w base spare held n 25 [c17] = xs[9]? := by
      have hj : DataW.trod enc Try.prog w base spare held n 25 ((([c0, c1, c2, c3, c4, c5, c6, c7, c8, c9, c10, c11, c12, c13, c14, c15, c16, c17] : List Value).drop 17).take (Try.prog.cellsOf 25)) = xs[9]? := hf 9 _ rfl
      rw [e25] at hj
      exact hj
    rw [List.getElem?_eq_getElem (by omega)] at f9
    obtain ⟨a0, g0, h0, q0⟩ := (opens_i64 Try.underlying3) _ _ _ f0
    obtain rfl : c0 = _ := (List.cons.inj h0).1
    obtain ⟨a1, g1, h1, q1⟩ := (opens_i64 Try.underlying3) _ _ _ f1
    obtain rfl : c1 = _ := (List.cons.inj h1).1
    obtain ⟨a2, g2, h2, q2⟩ := (opens_u8 Try.underlying5) _ _ _ f2
    obtain rfl : c2 = _ := (List.cons.inj h2).1
    obtain ⟨a3, g3, h3, q3⟩ := (opens_u8 Try.underlying5) _ _ _ f3
    obtain rfl : c3 = _ := (List.cons.inj h3).1
    obtain ⟨a4, g4, h4, q4⟩ := opens_TLabel _ _ _ f4
    simp only [eTLabel, cTLabel, List.cons_append, List.nil_append, List.cons.injEq] at h4
    obtain ⟨rfl, rfl, rfl, rfl, rfl, -⟩ := h4
    obtain ⟨a5, g5, h5, q5⟩ := opens_TLabel _ _ _ f5
    simp only [eTLabel, cTLabel, List.cons_append, List.nil_append, List.cons.injEq] at h5
    obtain ⟨rfl, rfl, rfl, rfl, rfl, -⟩ := h5
    obtain ⟨a6, g6, h6, q6⟩ := (opens_i64 Try.underlying3) _ _ _ f6
    obtain rfl : c14 = _ := (List.cons.inj h6).1
    obtain ⟨a7, g7, h7, q7⟩ := (opens_u8 Try.underlying24) _ _ _ f7
    obtain rfl : c15 = _ := (List.cons.inj h7).1
    obtain ⟨a8, g8, h8, q8⟩ := (opens_bool Try.underlying4) _ _ _ f8
    obtain rfl : c16 = _ := (List.cons.inj h8).1
    obtain ⟨a9, g9, h9, q9⟩ := (opens_slice () Try.underlying25 (by kernel_rfl) (opens_u8 Try.underlying5)) _ _ _ f9
    obtain rfl : c17 = _ := (List.cons.inj h9).1
    exact ⟨⟨a0, a1, a2, a3, a4, a5, a6, a7, a8, a9⟩, g9, rfl, ⟨q0, q1, q2, q3, q4, q5, q6, q7, q8, q9⟩⟩
set_option maxRecDepth 100000 in
theorem tapeJoins_lifted (os : Os) (started : os.Started) (H : Type) (enc : TypeId × Value → H) :
    ReturnsInHanded {} Try.checked os 5 .any (Rows.tapeJoinsSpec.pre6 enc Try.prog Try.f5 Rows.tapeJoinsRow.domain false) (Rows.tapeJoinsSpec.post enc Try.prog Try.f5 false true false false) := by
  refine returnsInHanded_of_change (C := Try.checked) Try.own started (by kernel_rfl) Try.func5
    (ChangeSpec.witness6 (enc := enc) (C := Try.checked) false ⟨#[], #[.slice Option.none 0 0], []⟩ 8 (by kernel_rfl) (by kernel_rfl) (by kernel_rfl) (by kernel_rfl)) ?_
  intro W base args ds gs before hval0 hW hcnd _
  have hval : ∀ (j : Nat) t v, Try.f5.params[j]? = some t → args[j]? = some v → Value.okWide Try.prog W .any base t v := hval0
  have hW' := hW
  obtain ⟨p, q, hA0, hV, rfl, hfz, hnd⟩ := hW
  have hA : DataW.TrodAll enc Try.prog W 0 (fun _ => true) true Try.f5.params.toList args.toList ds p := hA0
  rw [Try.params5] at hA hval
  obtain ⟨v0, d0, rfl, rfl, h0⟩ := trodAll_one hA
  obtain ⟨rfl, rfl⟩ := trodVars_none hV
  obtain ⟨x0, g0, rfl, q0⟩ := arg_slice Try.underlying30 (opens_slice (gu none 0) Try.underlying30 (by kernel_rfl) opens_TBlock) (hval 0 30 v0 rfl rfl) h0
  refine (callTrue (c_l23_TapeJoins 1000 x0 g0 true ((fun x _ => joins_true x) x0 q0)) (W := W) (need_of (by
      intro r hr
      simp only [List.mem_cons, List.not_mem_nil, or_false] at hr
      rcases hr with rfl | rfl
      · exact rd_vw q0.1
      · exact rd_fm (fun i hi => rd_vw (q0.2 i hi).2.2.2.2.2.2.2.2.2.1)))).mono fun e W' ⟨he, hb⟩ => ?_
  subst he
  exact ⟨_, rfl, law_post hW' rfl rfl rfl Try.underlying4 Try.laidOut (by rw [Try.params5]; intro t ht; simp at ht; rcases ht with rfl <;> exact ⟨by kernel_rfl, by decide +kernel⟩) hb⟩
theorem tapeJoins_holds : Rows.TapeJoinsSaid :=
  OpenClaim.holds_of_wide 5 Try.f5 rfl rfl rfl rfl rfl rfl rfl ⟨rfl, rfl, rfl, rfl, rfl⟩ rfl rfl rfl rfl rfl (by kernel_rfl) Try.func5 (by kernel_rfl)
    (of_decide_eq_true (by kernel_rfl)) (by unfold Func.isWrapper; first | (rw [if_pos (by decide +kernel)]; kernel_rfl) | (rw [if_neg (by decide +kernel)]; exact ⟨rfl, rfl⟩))
    (fun os started H enc _ => tapeJoins_lifted os started H enc)

end Go.Proofs.Ytcccboodapgejaa
