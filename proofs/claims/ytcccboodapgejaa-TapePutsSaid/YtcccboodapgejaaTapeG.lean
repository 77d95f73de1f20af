/-
  TapeSizes holds: for every block and every text it returns true, and both arguments read as before; no condition.
-/
import Derived.Test.YtcccboodapgejaaTapeF
import Derived.Test.YtcccboodapgejaaOpen
import Derived.Test.YtcccboodapgejaaRows
namespace Go.Proofs.Ytcccboodapgejaa
open Go.Sym Go.ChangeShapes Go.WideShapes Go.ChangeAt Go.RowKit

theorem Try.own : ownKnob Try.prog.godebug = Option.none := by kernel_rfl
theorem Try.laidOut : laidOutB Try.prog = true := by kernel_rfl
def i64ok (n : Int) : Prop := -9223372036854775808 ≤ n ∧ n ≤ 9223372036854775807
def u8ok (n : Int) : Prop := 0 ≤ n ∧ n ≤ 255
def Lbl.ok (l : Lbl) : Prop := i64ok l.h ∧ i64ok l.m ∧ i64ok l.s ∧ i64ok l.f
def Blk.ok (b : Blk) : Prop := i64ok b.g ∧ i64ok b.n ∧ u8ok b.e ∧ u8ok b.t ∧ b.i.ok ∧ b.o.ok ∧ i64ok b.r ∧ u8ok b.a

theorem open_lbl {H : Type} {enc : TypeId × Value → H} {w : World} {base : Nat} {sp : Nat → Bool} {held : Bool} {fuel : Nat} {cs : List Value} {x : DataW H × List MemPlace} (h : DataW.trod enc Try.prog w base sp held fuel 23 cs = some x) :
    ∃ (z : Lbl), cs = [.int .i64 z.h, .int .i64 z.m, .int .i64 z.s, .int .i64 z.f, .bool z.d] ∧ Lbl.ok z := by
  obtain ⟨xs, n, _, _, hlen, hxl, hf⟩ := DataW.trod_struct Try.underlying23 h
  have hlen : cs.length = 5 := hlen.trans (by kernel_rfl)
  have hxl : xs.length = 5 := hxl
  have e3 : Try.prog.cellsOf 3 = 1 := by kernel_rfl
  have e4 : Try.prog.cellsOf 4 = 1 := by kernel_rfl
  match cs, hlen with
  | [c0, c1, c2, c3, c4], _ =>
    have f0 : DataW.trod enc Try.prog w base sp held n 3 [c0] = xs[0]? := by
      have hj : DataW.trod enc Try.prog w base sp held n 3 ((([c0, c1, c2, c3, c4] : List Value).drop 0).take (Try.prog.cellsOf 3)) = xs[0]? := hf 0 _ rfl
      rw [e3] at hj
      exact hj
    rw [List.getElem?_eq_getElem (by omega)] at f0
    have f1 : DataW.trod enc Try.prog w base sp held n 3 [c1] = xs[1]? := by
      have hj : DataW.trod enc Try.prog w base sp held n 3 ((([c0, c1, c2, c3, c4] : List Value).drop 1).take (Try.prog.cellsOf 3)) = xs[1]? := hf 1 _ rfl
      rw [e3] at hj
      exact hj
    rw [List.getElem?_eq_getElem (by omega)] at f1
    have f2 : DataW.trod enc Try.prog w base sp held n 3 [c2] = xs[2]? := by
      have hj : DataW.trod enc Try.prog w base sp held n 3 ((([c0, c1, c2, c3, c4] : List Value).drop 2).take (Try.prog.cellsOf 3)) = xs[2]? := hf 2 _ rfl
      rw [e3] at hj
      exact hj
    rw [List.getElem?_eq_getElem (by omega)] at f2
    have f3 : DataW.trod enc Try.prog w base sp held n 3 [c3] = xs[3]? := by
      have hj : DataW.trod enc Try.prog w base sp held n 3 ((([c0, c1, c2, c3, c4] : List Value).drop 3).take (Try.prog.cellsOf 3)) = xs[3]? := hf 3 _ rfl
      rw [e3] at hj
      exact hj
    rw [List.getElem?_eq_getElem (by omega)] at f3
    have f4 : DataW.trod enc Try.prog w base sp held n 4 [c4] = xs[4]? := by
      have hj : DataW.trod enc Try.prog w base sp held n 4 ((([c0, c1, c2, c3, c4] : List Value).drop 4).take (Try.prog.cellsOf 4)) = xs[4]? := hf 4 _ rfl
      rw [e4] at hj
      exact hj
    rw [List.getElem?_eq_getElem (by omega)] at f4
    obtain ⟨n0, h0, _, w0⟩ := DataW.trod_int Try.underlying3 f0
    have w0 := lit_i64 w0
    simp only [List.cons.injEq, and_true] at h0
    subst h0
    obtain ⟨n1, h1, _, w1⟩ := DataW.trod_int Try.underlying3 f1
    have w1 := lit_i64 w1
    simp only [List.cons.injEq, and_true] at h1
    subst h1
    obtain ⟨n2, h2, _, w2⟩ := DataW.trod_int Try.underlying3 f2
    have w2 := lit_i64 w2
    simp only [List.cons.injEq, and_true] at h2
    subst h2
    obtain ⟨n3, h3, _, w3⟩ := DataW.trod_int Try.underlying3 f3
    have w3 := lit_i64 w3
    simp only [List.cons.injEq, and_true] at h3
    subst h3
    obtain ⟨n4, h4, _⟩ := DataW.trod_bool Try.underlying4 f4
    simp only [List.cons.injEq, and_true] at h4
    subst h4
    exact ⟨⟨n0, n1, n2, n3, n4⟩, rfl, ⟨w0, w1, w2, w3⟩⟩

theorem open_blk {H : Type} {enc : TypeId × Value → H} {w : World} {base : Nat} {sp : Nat → Bool} {held : Bool} {fuel : Nat} {cs : List Value} {x : DataW H × List MemPlace} (h : DataW.trod enc Try.prog w base sp held fuel 27 cs = some x) :
    ∃ (z : Blk) (T : Option Addr) (tn tc : Nat) (tb : List UInt8), cs = [.int .i64 z.g, .int .i64 z.n, .int .u8 z.e, .int .u8 z.t, .int .i64 z.i.h, .int .i64 z.i.m, .int .i64 z.i.s, .int .i64 z.i.f, .bool z.i.d, .int .i64 z.o.h, .int .i64 z.o.m, .int .i64 z.o.s, .int .i64 z.o.f, .bool z.o.d, .int .i64 z.r, .int .u8 z.a, .bool z.c, .slice T tn tc] ∧ Blk.ok z ∧ tb.length = tn ∧ (Res.view T tn tc 1 (byE tb)).ok w := by
  obtain ⟨xs, n, _, _, hlen, hxl, hf⟩ := DataW.trod_struct Try.underlying27 h
  have hlen : cs.length = 18 := hlen.trans (by kernel_rfl)
  have hxl : xs.length = 10 := hxl
  have e3 : Try.prog.cellsOf 3 = 1 := by kernel_rfl
  have e4 : Try.prog.cellsOf 4 = 1 := by kernel_rfl
  have e5 : Try.prog.cellsOf 5 = 1 := by kernel_rfl
  have e23 : Try.prog.cellsOf 23 = 5 := by kernel_rfl
  have e24 : Try.prog.cellsOf 24 = 1 := by kernel_rfl
  have e25 : Try.prog.cellsOf 25 = 1 := by kernel_rfl
  match cs, hlen with
  | [c0, c1, c2, c3, c4, c5, c6, c7, c8, c9, c10, c11, c12, c13, c14, c15, c16, c17], _ =>
    have f0 : DataW.trod enc Try.prog w base sp held n 3 [c0] = xs[0]? := by
      have hj : DataW.trod enc Try.prog w base sp held n 3 ((([c0, c1, c2, c3, c4, c5, c6, c7, c8, c9, c10, c11, c12, c13, c14, c15, c16, c17] : List Value).drop 0).take (Try.prog.cellsOf 3)) = xs[0]? := hf 0 _ rfl
      rw [e3] at hj
      exact hj
    rw [List.getElem?_eq_getElem (by omega)] at f0
    have f1 : DataW.trod enc Try.prog w base sp held n 3 [c1] = xs[1]? := by
      have hj : DataW.trod enc Try.prog w base sp held n 3 ((([c0, c1, c2, c3, c4, c5, c6, c7, c8, c9, c10, c11, c12, c13, c14, c15, c16, c17] : List Value).drop 1).take (Try.prog.cellsOf 3)) = xs[1]? := hf 1 _ rfl
      rw [e3] at hj
      exact hj
    rw [List.getElem?_eq_getElem (by omega)] at f1
    have f2 : DataW.trod enc Try.prog w base sp held n 5 [c2] = xs[2]? := by
      have hj : DataW.trod enc Try.prog w base sp held n 5 ((([c0, c1, c2, c3, c4, c5, c6, c7, c8, c9, c10, c11, c12, c13, c14, c15, c16, c17] : List Value).drop 2).take (Try.prog.cellsOf 5)) = xs[2]? := hf 2 _ rfl
      rw [e5] at hj
      exact hj
    rw [List.getElem?_eq_getElem (by omega)] at f2
    have f3 : DataW.trod enc Try.prog w base sp held n 5 [c3] = xs[3]? := by
      have hj : DataW.trod enc Try.prog w base sp held n 5 ((([c0, c1, c2, c3, c4, c5, c6, c7, c8, c9, c10, c11, c12, c13, c14, c15, c16, c17] : List Value).drop 3).take (Try.prog.cellsOf 5)) = xs[3]? := hf 3 _ rfl
      rw [e5] at hj
      exact hj
    rw [List.getElem?_eq_getElem (by omega)] at f3
    have f4 : DataW.trod enc Try.prog w base sp held n 23 [c4, c5, c6, c7, c8] = xs[4]? := by
      have hj : DataW.trod enc Try.prog w base sp held n 23 ((([c0, c1, c2, c3, c4, c5, c6, c7, c8, c9, c10, c11, c12, c13, c14, c15, c16, c17] : List Value).drop 4).take (Try.prog.cellsOf 23)) = xs[4]? := hf 4 _ rfl
      rw [e23] at hj
      exact hj
    rw [List.getElem?_eq_getElem (by omega)] at f4
    have f5 : DataW.trod enc Try.prog w base sp held n 23 [c9, c10, c11, c12, c13] = xs[5]? := by
      have hj : DataW.trod enc Try.prog w base sp held n 23 ((([c0, c1, c2, c3, c4, c5, c6, c7, c8, c9, c10, c11, c12, c13, c14, c15, c16, c17] : List Value).drop 9).take (Try.prog.cellsOf 23)) = xs[5]? := hf 5 _ rfl
      rw [e23] at hj
      exact hj
    rw [List.getElem?_eq_getElem (by omega)] at f5
    have f6 : DataW.trod enc Try.prog w base sp held n 3 [c14] = xs[6]? := by
      have hj : DataW.trod enc Try.prog w base sp held n 3 ((([c0, c1, c2, c3, c4, c5, c6, c7, c8, c9, c10, c11, c12, c13, c14, c15, c16, c17] : List Value).drop 14).take (Try.prog.cellsOf 3)) = xs[6]? := hf 6 _ rfl
      rw [e3] at hj
      exact hj
    rw [List.getElem?_eq_getElem (by omega)] at f6
    have f7 : DataW.trod enc Try.prog w base sp held n 24 [c15] = xs[7]? := by
      have hj : DataW.trod enc Try.prog w base sp held n 24 ((([c0, c1, c2, c3, c4, c5, c6, c7, c8, c9, c10, c11, c12, c13, c14, c15, c16, c17] : List Value).drop 15).take (Try.prog.cellsOf 24)) = xs[7]? := hf 7 _ rfl
      rw [e24] at hj
      exact hj
    rw [List.getElem?_eq_getElem (by omega)] at f7
    have f8 : DataW.trod enc Try.prog w base sp held n 4 [c16] = xs[8]? := by
      have hj : DataW.trod enc Try.prog w base sp held n 4 ((([c0, c1, c2, c3, c4, c5, c6, c7, c8, c9, c10, c11, c12, c13, c14, c15, c16, c17] : List Value).drop 16).take (Try.prog.cellsOf 4)) = xs[8]? := hf 8 _ rfl
      rw [e4] at hj
      exact hj
    rw [List.getElem?_eq_getElem (by omega)] at f8
    have f9 : DataW.trod enc Try.prog w base sp held n 25 [c17] = xs[9]? := by
      have hj : DataW.trod enc Try.prog w base sp held n 25 ((([c0, c1, c2, c3, c4, c5, c6, c7, c8, c9, c10, c11, c12, c13, c14, c15, c16, c17] : List Value).drop 17).take (Try.prog.cellsOf 25)) = xs[9]? := hf 9 _ rfl
      rw [e25] at hj
      exact hj
    rw [List.getElem?_eq_getElem (by omega)] at f9
    obtain ⟨n0, h0, _, w0⟩ := DataW.trod_int Try.underlying3 f0
    have w0 := lit_i64 w0
    simp only [List.cons.injEq, and_true] at h0
    subst h0
    obtain ⟨n1, h1, _, w1⟩ := DataW.trod_int Try.underlying3 f1
    have w1 := lit_i64 w1
    simp only [List.cons.injEq, and_true] at h1
    subst h1
    obtain ⟨n2, h2, _, w2⟩ := DataW.trod_int Try.underlying5 f2
    have w2 := lit_u8 w2
    simp only [List.cons.injEq, and_true] at h2
    subst h2
    obtain ⟨n3, h3, _, w3⟩ := DataW.trod_int Try.underlying5 f3
    have w3 := lit_u8 w3
    simp only [List.cons.injEq, and_true] at h3
    subst h3
    obtain ⟨n4, h4, w4⟩ := open_lbl f4
    simp only [List.cons.injEq, and_true] at h4
    obtain ⟨rfl, rfl, rfl, rfl, rfl⟩ := h4
    obtain ⟨n5, h5, w5⟩ := open_lbl f5
    simp only [List.cons.injEq, and_true] at h5
    obtain ⟨rfl, rfl, rfl, rfl, rfl⟩ := h5
    obtain ⟨n6, h6, _, w6⟩ := DataW.trod_int Try.underlying3 f6
    have w6 := lit_i64 w6
    simp only [List.cons.injEq, and_true] at h6
    subst h6
    obtain ⟨n7, h7, _, w7⟩ := DataW.trod_int Try.underlying24 f7
    have w7 := lit_u8 w7
    simp only [List.cons.injEq, and_true] at h7
    subst h7
    obtain ⟨n8, h8, _⟩ := DataW.trod_bool Try.underlying4 f8
    simp only [List.cons.injEq, and_true] at h8
    subst h8
    obtain ⟨A9, n9, c9x, bs9, h9, hl9, hv9⟩ := open_bytes Try.underlying25 Try.underlying5 (by kernel_rfl) f9
    simp only [List.cons.injEq, and_true] at h9
    subst h9
    exact ⟨⟨n0, n1, n2, n3, n4, n5, n6, n7, n8⟩, A9, n9, c9x, bs9, rfl, ⟨w0, w1, w2, w3, w4, w5, w6, w7⟩, hl9, hv9⟩

theorem open_blkV {H : Type} {enc : TypeId × Value → H} {w : World} {base : Nat} {sp : Nat → Bool} {held : Bool} {r : Reach} {b0 : Nat} {v : Value} {d : DataW H} {ps : List MemPlace} (hv : Value.okWide Try.prog w r b0 27 v) (h : DataW.Trod enc Try.prog w base sp held 27 v d ps) :
    ∃ (z : Blk) (T : Option Addr) (tn tc : Nat) (tb : List UInt8), v = .agg #[.int .i64 z.g, .int .i64 z.n, .int .u8 z.e, .int .u8 z.t, .int .i64 z.i.h, .int .i64 z.i.m, .int .i64 z.i.s, .int .i64 z.i.f, .bool z.i.d, .int .i64 z.o.h, .int .i64 z.o.m, .int .i64 z.o.s, .int .i64 z.o.f, .bool z.o.d, .int .i64 z.r, .int .u8 z.a, .bool z.c, .slice T tn tc] ∧ z.ok ∧ tb.length = tn ∧ (Res.view T tn tc 1 (byE tb)).ok w := by
  obtain ⟨cs, rfl, _⟩ := okWide_struct Try.underlying27 hv
  obtain ⟨fuel, hf⟩ := h
  obtain ⟨z, T, tn, tc, tb, hcs, h1, h2, h3⟩ := open_blk hf
  refine ⟨z, T, tn, tc, tb, ?_, h1, h2, h3⟩
  congr 1
  apply Array.toList_inj.1
  exact hcs

theorem open_bytesV {H : Type} {enc : TypeId × Value → H} {w : World} {base : Nat} {sp : Nat → Bool} {held : Bool} {r : Reach} {b0 : Nat} {v : Value} {d : DataW H} {ps : List MemPlace} (hv : Value.okWide Try.prog w r b0 25 v) (h : DataW.Trod enc Try.prog w base sp held 25 v d ps) :
    ∃ (A : Option Addr) (n c : Nat) (bs : List UInt8), v = .slice A n c ∧ bs.length = n ∧ (Res.view A n c 1 (byE bs)).ok w := by
  obtain ⟨a, len, cap, rfl⟩ := okWide_slice Try.underlying25 hv
  obtain ⟨fuel, hf⟩ := h
  obtain ⟨A, n, c, bs, hcs, h1, h2⟩ := open_bytes Try.underlying25 Try.underlying5 (by kernel_rfl) hf
  refine ⟨A, n, c, bs, ?_, h1, h2⟩
  have hcs : [Value.slice a len cap] = [.slice A n c] := hcs
  simpa using hcs

theorem callTrue {f : FuncId} {args : List Value} {need : List Res} (h : CallOk Try.prog f args need (U := Unit) (fun _ => .bool true) (fun _ => []) (fun _ => True)) {W : World} (hn : NeedOk W need) :
    Calls Try.prog f args.toArray W fun e W' => e = .returned (.bool true) ∧ Below W.heap.size W W' := by
  refine (h W hn).mono ?_
  rintro e W' ⟨_, rfl, hb, _, _⟩
  exact ⟨rfl, hb⟩

set_option maxRecDepth 100000 in
theorem tapeSizes_lifted (os : Os) (started : os.Started) (H : Type) (enc : TypeId × Value → H) :
    ReturnsInHanded {} Try.checked os 3 .any (Rows.tapeSizesSpec.pre6 enc Try.prog Try.f3 Rows.tapeSizesRow.domain false) (Rows.tapeSizesSpec.post enc Try.prog Try.f3 false true false false) := by
  refine returnsInHanded_of_change (C := Try.checked) Try.own started (by kernel_rfl) Try.func3
    (ChangeSpec.witness6 (enc := enc) (C := Try.checked) false ⟨#[], #[.agg #[.int .i64 0, .int .i64 0, .int .u8 0, .int .u8 0, .int .i64 0, .int .i64 0, .int .i64 0, .int .i64 0, .bool false, .int .i64 0, .int .i64 0, .int .i64 0, .int .i64 0, .bool false, .int .i64 0, .int .u8 0, .bool false, .slice Option.none 0 0], .slice Option.none 0 0], []⟩ 8 (by kernel_rfl) (by kernel_rfl) (by kernel_rfl) (by kernel_rfl)) ?_
  intro W base args ds gs before hval0 hW hcnd _
  have hval : ∀ (j : Nat) t v, Try.f3.params[j]? = some t → args[j]? = some v → Value.okWide Try.prog W .any base t v := hval0
  have hW' := hW
  obtain ⟨p, q, hA0, hV, rfl, hfz, hnd⟩ := hW
  have hA : DataW.TrodAll enc Try.prog W 0 (fun _ => true) true Try.f3.params.toList args.toList ds p := hA0
  rw [Try.params3] at hA hval
  obtain ⟨v0, v1, d0, d1, p0, p1, rfl, rfl, rfl, h0, h1⟩ := trodAll_two hA
  obtain ⟨rfl, rfl⟩ := trodVars_none hV
  obtain ⟨b, T, tn, tc, tb, rfl, hok, htb, htv⟩ := open_blkV (hval 0 27 v0 rfl rfl) h0
  obtain ⟨A, n, c, text, rfl, hl, hv⟩ := open_bytesV (hval 1 25 v1 rfl rfl) h1
  refine (callTrue (sizes_c b T tn tc htv.1 A n c text hl) (W := W) (fun r hr => ?_)).mono fun e W' ⟨he, hb⟩ => ?_
  · simp only [List.mem_singleton] at hr
    subst hr
    exact ⟨hv, view_lt (by decide) hv⟩
  · subst he
    exact ⟨_, rfl, law_post hW' rfl rfl rfl Try.underlying4 Try.laidOut (by rw [Try.params3]; intro t ht; simp at ht; rcases ht with rfl | rfl <;> exact ⟨by kernel_rfl, by decide +kernel⟩) hb⟩
theorem tapeSizes_holds : Rows.TapeSizesSaid :=
  OpenClaim.holds_of_wide 3 Try.f3 rfl rfl rfl rfl rfl rfl rfl ⟨rfl, rfl, rfl, rfl, rfl⟩ rfl rfl rfl rfl rfl (by kernel_rfl) Try.func3 (by kernel_rfl)
    (of_decide_eq_true (by kernel_rfl)) (by unfold Func.isWrapper; first | (rw [if_pos (by decide +kernel)]; kernel_rfl) | (rw [if_neg (by decide +kernel)]; exact ⟨rfl, rfl⟩))
    (fun os started H enc _ => tapeSizes_lifted os started H enc)

end Go.Proofs.Ytcccboodapgejaa
