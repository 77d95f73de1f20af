/-
  TapeSizes gives true, whatever the block and the text.
-/
import Derived.Test.YtcccboodapgejaaTapeE
import Derived.Test.YtcccboodapgejaaDatD
namespace Go.Proofs.Ytcccboodapgejaa
open Go.Sym

theorem sizes_c (b : Blk) (T : Option Addr) (tn tc : Nat) (htc : tn ≤ tc) (A : Option Addr) (n c : Nat) (text : List UInt8) (hl : text.length = n) : CallOk Try.prog 3 [.agg #[.int .i64 b.g, .int .i64 b.n, .int .u8 b.e, .int .u8 b.t, .int .i64 b.i.h, .int .i64 b.i.m, .int .i64 b.i.s, .int .i64 b.i.f, .bool b.i.d, .int .i64 b.o.h, .int .i64 b.o.m, .int .i64 b.o.s, .int .i64 b.o.f, .bool b.o.d, .int .i64 b.r, .int .u8 b.a, .bool b.c, .slice T tn tc], .slice A n c] [.view A n c 1 (byE text)] (U := Unit) (fun _ => .bool true) (fun _ => []) (fun _ => True) := by
  intro w0 hn
  have hnc : n ≤ c := (hn _ (List.mem_singleton.2 rfl)).1.1
  have hcm : c ≤ maxLen := (hn _ (List.mem_singleton.2 rfl)).1.2.1
  refine enterE (N := 70) Try.func3 (by kernel_rfl) (by kernel_rfl) (by kernel_rfl) ?_
  intro a hF
  have hH := Hp.start w0 hn
  refine wp_seqE (by kernel_rfl) ?_
  refine wp_regE (by kernel_rfl) ?_
  refine seg [.bx, .p] [1, 2] (fun K => ∀ g1, K [⟨1, none, .slice A n c⟩, ⟨2, none, .pointer (some ⟨g1, 0, none⟩)⟩] [.box g1 27 [.int .i64 b.g, .int .i64 b.n, .int .u8 b.e, .int .u8 b.t, .int .i64 b.i.h, .int .i64 b.i.m, .int .i64 b.i.s, .int .i64 b.i.f, .bool b.i.d, .int .i64 b.o.h, .int .i64 b.o.m, .int .i64 b.o.s, .int .i64 b.o.f, .bool b.o.d, .int .i64 b.r, .int .u8 b.a, .bool b.c, .slice T tn tc]]) (fun K => by kernel_rfl) hF hH ?_
  intro g1
  clear hF hH; intro a w hF hH
  refine wl_end (by kernel_rfl) ?_
  refine then_n ?_
  refine wp_seqE (by kernel_rfl) ?_
  refine wp_seqE (by kernel_rfl) ?_
  refine wp_regE (by kernel_rfl) ?_
  refine callE (d := 9) (awake_c) [] (by kernel_rfl) (by kernel_rfl) hF hH ?_
  clear hF hH; rintro ⟨⟩ - a w hF hH
  refine seg [.p] [1, 2, 10] (fun K => K [⟨1, none, .slice A n c⟩, ⟨2, none, .pointer (some ⟨g1, 0, none⟩)⟩, ⟨10, none, .bool false⟩] [.box g1 27 [.int .i64 b.g, .int .i64 b.n, .int .u8 b.e, .int .u8 b.t, .int .i64 b.i.h, .int .i64 b.i.m, .int .i64 b.i.s, .int .i64 b.i.f, .bool b.i.d, .int .i64 b.o.h, .int .i64 b.o.m, .int .i64 b.o.s, .int .i64 b.o.f, .bool b.o.d, .int .i64 b.r, .int .u8 b.a, .bool b.c, .slice T tn tc]]) (fun K => by kernel_rfl) hF hH ?_
  clear hF hH; intro a w hF hH
  refine wl_end (by kernel_rfl) ?_
  refine then_n ?_
  refine wp_condE (b := false) (by kernel_rfl) (by kernel_rfl) hF (fun h => by cases h) (fun _ => ?_)
  refine wp_skipE (by kernel_rfl) ?_
  refine then_n ?_
  refine wp_seqE (by kernel_rfl) ?_
  refine drawE (n := 9) (by kernel_rfl) (by kernel_rfl) (by kernel_rfl) (by kernel_rfl) [] [1, 2] (.take 2 (.p) (.take 3 (.p) (.take 4 (.p) (.take 5 (.pv (.int .i64 ((min n 700 : Nat) : Int))) (.take 6 (.sh (min n 700)) (.eff [(0, .ld (.r 0))] (fun _ => .eff [(1, .cl (U := Unit) [] (fun _ => .agg #[.int .i64 b.g, .int .i64 b.n, .int .u8 b.e, .int .u8 b.t, .int .i64 b.i.h, .int .i64 b.i.m, .int .i64 b.i.s, .int .i64 b.i.f, .bool b.i.d, .int .i64 b.o.h, .int .i64 b.o.m, .int .i64 b.o.s, .int .i64 b.o.f, .bool b.o.d, .int .i64 b.r, .int .u8 b.a, .bool b.c, .slice T (min tn 200) tc]) (fun _ => []) (fun _ => True))] (fun _ => .eff [(7, .st 0)] (fun _ => .take 8 (.p) ((.done [0]))))))))))) (fun l rs => ∃ (u1 : Unit), l = [⟨1, none, .slice A (min n 700) c⟩, ⟨2, none, .pointer (some ⟨g1, 0, none⟩)⟩] ∧ rs = [.box g1 27 [.int .i64 b.g, .int .i64 b.n, .int .u8 b.e, .int .u8 b.t, .int .i64 b.i.h, .int .i64 b.i.m, .int .i64 b.i.s, .int .i64 b.i.f, .bool b.i.d, .int .i64 b.o.h, .int .i64 b.o.m, .int .i64 b.o.s, .int .i64 b.o.f, .bool b.o.d, .int .i64 b.r, .int .u8 b.a, .bool b.c, .slice T (min tn 200) tc]]) (fun K => (Value.int .i64 (if ((700 : Nat) : Int) < ((n : Nat) : Int) then ((700 : Nat) : Int) else ((n : Nat) : Int)) = .int .i64 ((min n 700 : Nat) : Int)) ∧ ((((min n 700 : Nat) : Int) : Int) = ((min n 700 : Nat) : Int) ∧ min n 700 ≤ c) ∧ (((g1 : Nat) = g1 ∧ (none : Option Nat) = none) ∧ (([] : List Res) = []) ∧ (CallOk Try.prog 9 [.agg #[.int .i64 b.g, .int .i64 b.n, .int .u8 b.e, .int .u8 b.t, .int .i64 b.i.h, .int .i64 b.i.m, .int .i64 b.i.s, .int .i64 b.i.f, .bool b.i.d, .int .i64 b.o.h, .int .i64 b.o.m, .int .i64 b.o.s, .int .i64 b.o.f, .bool b.o.d, .int .i64 b.r, .int .u8 b.a, .bool b.c, .slice T tn tc]] [] (U := Unit) (fun _ => .agg #[.int .i64 b.g, .int .i64 b.n, .int .u8 b.e, .int .u8 b.t, .int .i64 b.i.h, .int .i64 b.i.m, .int .i64 b.i.s, .int .i64 b.i.f, .bool b.i.d, .int .i64 b.o.h, .int .i64 b.o.m, .int .i64 b.o.s, .int .i64 b.o.f, .bool b.o.d, .int .i64 b.r, .int .u8 b.a, .bool b.c, .slice T (min tn 200) tc]) (fun _ => []) (fun _ => True) ∧ ∀ u1 : Unit, (fun _ => True) u1 → (([] : List Res) = []) ∧ (((g1 : Nat) = g1 ∧ (none : Option Nat) = none) ∧ (([] : List Res) = []) ∧ K [⟨1, none, .slice A (min n 700) c⟩, ⟨2, none, .pointer (some ⟨g1, 0, none⟩)⟩] [.box g1 27 [.int .i64 b.g, .int .i64 b.n, .int .u8 b.e, .int .u8 b.t, .int .i64 b.i.h, .int .i64 b.i.m, .int .i64 b.i.s, .int .i64 b.i.f, .bool b.i.d, .int .i64 b.o.h, .int .i64 b.o.m, .int .i64 b.o.s, .int .i64 b.o.f, .bool b.o.d, .int .i64 b.r, .int .u8 b.a, .bool b.c, .slice T (min tn 200) tc]])))) (fun K => by kernel_rfl) hF hH (⟨natmin _ _, ⟨⟨by omega, by omega⟩, (⟨⟨rfl, rfl⟩, ⟨rfl, (⟨short_c b T tn tc (by omega), (by rintro u1 -; exact ⟨rfl, (⟨⟨rfl, rfl⟩, ⟨rfl, ⟨u1, rfl, rfl⟩⟩⟩)⟩)⟩)⟩⟩)⟩⟩) ?_
  clear hF hH; rintro l rs a w ⟨u1, rfl, rfl⟩ hF hH
  refine then_n ?_
  refine wp_seqE (by kernel_rfl) ?_
  refine wp_regE (by kernel_rfl) ?_
  have hH := hH.headBN (k := 0) rfl (min n 700) (by omega)
  have htx : (text.take (min n 700)).length = min n 700 := by rw [List.length_take, hl]; omega
  refine seg [.ld (.r 0), .p] [1, 19, 20] (fun K => ((g1 : Nat) = g1 ∧ (none : Option Nat) = none) ∧ K [⟨1, none, .slice A (min n 700) c⟩, ⟨19, none, .agg #[.int .i64 b.g, .int .i64 b.n, .int .u8 b.e, .int .u8 b.t, .int .i64 b.i.h, .int .i64 b.i.m, .int .i64 b.i.s, .int .i64 b.i.f, .bool b.i.d, .int .i64 b.o.h, .int .i64 b.o.m, .int .i64 b.o.s, .int .i64 b.o.f, .bool b.o.d, .int .i64 b.r, .int .u8 b.a, .bool b.c, .slice T (min tn 200) tc]⟩, ⟨20, none, .slice A (min n 700) c⟩] [.box g1 27 [.int .i64 b.g, .int .i64 b.n, .int .u8 b.e, .int .u8 b.t, .int .i64 b.i.h, .int .i64 b.i.m, .int .i64 b.i.s, .int .i64 b.i.f, .bool b.i.d, .int .i64 b.o.h, .int .i64 b.o.m, .int .i64 b.o.s, .int .i64 b.o.f, .bool b.o.d, .int .i64 b.r, .int .u8 b.a, .bool b.c, .slice T (min tn 200) tc]]) (fun K => by kernel_rfl) hF hH ?_
  refine ⟨⟨rfl, rfl⟩, ?_⟩
  clear hF hH; intro a w hF hH
  refine callE (d := 21) (split_c b T (min tn 200) tc A (min n 700) c (text.take (min n 700)) (by first | rfl | assumption | (simp; done) | (simp; omega)) (by omega)) [.n 1] (by kernel_rfl) (by kernel_rfl) hF hH ?_
  clear hF hH; rintro ⟨A1, c1, bl1⟩ hd1 a w hF hH
  replace hd1 : bl1.map BT.data = splitL b (text.take (min n 700)) := hd1
  have hH := hH.rowView (k := 1) rfl (blE bl1) (bl_row bl1 _ (by rw [← hd1]; simp))
  refine seg [.p, .p, .p, .p, .p] [1, 5, 6] (fun K => K [⟨1, none, .slice A (min n 700) c⟩, ⟨5, none, .slice A1 ((splitL b (text.take (min n 700))).length) c1⟩, ⟨6, none, .int .i64 (splitE b (text.take (min n 700)))⟩] [.box g1 27 [.int .i64 b.g, .int .i64 b.n, .int .u8 b.e, .int .u8 b.t, .int .i64 b.i.h, .int .i64 b.i.m, .int .i64 b.i.s, .int .i64 b.i.f, .bool b.i.d, .int .i64 b.o.h, .int .i64 b.o.m, .int .i64 b.o.s, .int .i64 b.o.f, .bool b.o.d, .int .i64 b.r, .int .u8 b.a, .bool b.c, .slice T (min tn 200) tc], .view A1 ((splitL b (text.take (min n 700))).length) c1 18 (blE bl1), .fam ((splitL b (text.take (min n 700))).length) (blksR bl1)]) (fun K => by kernel_rfl) hF hH ?_
  clear hF hH; intro a w hF hH
  refine wl_end (by kernel_rfl) ?_
  refine then_n ?_
  refine wp_seqE (by kernel_rfl) ?_
  refine wp_seqE (by kernel_rfl) ?_
  refine wp_regE (by kernel_rfl) ?_
  refine seg [.p, .p] [1, 5, 25] (fun K => K [⟨1, none, .slice A (min n 700) c⟩, ⟨5, none, .slice A1 ((splitL b (text.take (min n 700))).length) c1⟩, ⟨25, none, .bool ((splitE b (text.take (min n 700))) != 0)⟩] [.box g1 27 [.int .i64 b.g, .int .i64 b.n, .int .u8 b.e, .int .u8 b.t, .int .i64 b.i.h, .int .i64 b.i.m, .int .i64 b.i.s, .int .i64 b.i.f, .bool b.i.d, .int .i64 b.o.h, .int .i64 b.o.m, .int .i64 b.o.s, .int .i64 b.o.f, .bool b.o.d, .int .i64 b.r, .int .u8 b.a, .bool b.c, .slice T (min tn 200) tc], .view A1 ((splitL b (text.take (min n 700))).length) c1 18 (blE bl1), .fam ((splitL b (text.take (min n 700))).length) (blksR bl1)]) (fun K => by kernel_rfl) hF hH ?_
  clear hF hH; intro a w hF hH
  refine wl_end (by kernel_rfl) ?_
  refine then_n ?_
  refine wp_condE (b := (splitE b (text.take (min n 700))) != 0) (by kernel_rfl) (by kernel_rfl) hF (fun hb1 => ?_) (fun hb1 => ?_)
  · skip
    have hb1p := ne_of_bne hb1
    refine wp_seqE (by kernel_rfl) ?_
    refine wp_regE (by kernel_rfl) ?_
    refine seg [.p] [4] (fun K => K [⟨4, none, .bool true⟩] [.box g1 27 [.int .i64 b.g, .int .i64 b.n, .int .u8 b.e, .int .u8 b.t, .int .i64 b.i.h, .int .i64 b.i.m, .int .i64 b.i.s, .int .i64 b.i.f, .bool b.i.d, .int .i64 b.o.h, .int .i64 b.o.m, .int .i64 b.o.s, .int .i64 b.o.f, .bool b.o.d, .int .i64 b.r, .int .u8 b.a, .bool b.c, .slice T (min tn 200) tc], .view A1 ((splitL b (text.take (min n 700))).length) c1 18 (blE bl1), .fam ((splitL b (text.take (min n 700))).length) (blksR bl1)]) (fun K => by kernel_rfl) hF hH ?_
    clear hF hH; intro a w hF hH
    refine wl_end (by kernel_rfl) ?_
    refine then_n ?_
    refine wp_retE (by kernel_rfl) ?_
    refine then_ret ?_
    refine retE (vs := [.bool true]) (p := True) (v := .bool true) [] (by kernel_rfl) trivial (by kernel_rfl) hF hH ?_
    exact fin0 rfl hH
  · skip
    have hb1p := eq_of_bne_false hb1
    have hsl := splitL_len hb1p
    rw [htx] at hsl
    have hne : (splitL b (text.take (min n 700))).length ≠ 0 := by omega
    refine wp_skipE (by kernel_rfl) ?_
    refine then_n ?_
    refine wp_seqE (by kernel_rfl) ?_
    refine wp_seqE (by kernel_rfl) ?_
    refine wp_regE (by kernel_rfl) ?_
    refine seg [.p, .p, .p] [1, 5, 26, 27, 28] (fun K => K [⟨1, none, .slice A (min n 700) c⟩, ⟨5, none, .slice A1 ((splitL b (text.take (min n 700))).length) c1⟩, ⟨26, none, .slice A1 ((splitL b (text.take (min n 700))).length) c1⟩, ⟨27, none, .int .i64 (((splitL b (text.take (min n 700))).length : Nat) : Int)⟩, ⟨28, none, .int .i64 0⟩] [.box g1 27 [.int .i64 b.g, .int .i64 b.n, .int .u8 b.e, .int .u8 b.t, .int .i64 b.i.h, .int .i64 b.i.m, .int .i64 b.i.s, .int .i64 b.i.f, .bool b.i.d, .int .i64 b.o.h, .int .i64 b.o.m, .int .i64 b.o.s, .int .i64 b.o.f, .bool b.o.d, .int .i64 b.r, .int .u8 b.a, .bool b.c, .slice T (min tn 200) tc], .view A1 ((splitL b (text.take (min n 700))).length) c1 18 (blE bl1), .fam ((splitL b (text.take (min n 700))).length) (blksR bl1)]) (fun K => by kernel_rfl) hF hH ?_
    clear hF hH; intro a w hF hH
    refine wl_end (by kernel_rfl) ?_
    refine then_n ?_
    refine wp_blockE (id := 0) (by kernel_rfl) ?_
    refine wp_loopE (by kernel_rfl) (fun msr a w => ∃ (k : Nat), msr = (splitL b (text.take (min n 700))).length - k ∧ (k ≤ (splitL b (text.take (min n 700))).length) ∧ Fr 70 [⟨1, none, .slice A (min n 700) c⟩, ⟨5, none, .slice A1 ((splitL b (text.take (min n 700))).length) c1⟩, ⟨26, none, .slice A1 ((splitL b (text.take (min n 700))).length) c1⟩, ⟨27, none, .int .i64 (((splitL b (text.take (min n 700))).length : Nat) : Int)⟩, ⟨28, none, .int .i64 ((k : Nat) : Int)⟩] a ∧ Hp w0 [.view A n c 1 (byE text), .view A (min n 700) c 1 (byE (text.take (min n 700)))] [.box g1 27 [.int .i64 b.g, .int .i64 b.n, .int .u8 b.e, .int .u8 b.t, .int .i64 b.i.h, .int .i64 b.i.m, .int .i64 b.i.s, .int .i64 b.i.f, .bool b.i.d, .int .i64 b.o.h, .int .i64 b.o.m, .int .i64 b.o.s, .int .i64 b.o.f, .bool b.o.d, .int .i64 b.r, .int .u8 b.a, .bool b.c, .slice T (min tn 200) tc], .view A1 ((splitL b (text.take (min n 700))).length) c1 18 (blE bl1), .fam ((splitL b (text.take (min n 700))).length) (blksR bl1)] w) _ ⟨0, rfl, Nat.zero_le _, frK hF [1, 5, 26, 27, 28] (by kernel_rfl), hpKN hH [0, 1] [0, 1, 2] (by kernel_rfl) (by kernel_rfl) (by kernel_rfl)⟩ ?_
    clear hF hH; rintro msr a w ⟨k, rfl, hk, hF, hH⟩
    refine wp_seqE (by kernel_rfl) ?_
    refine wp_regE (by kernel_rfl) ?_
    refine seg [.p] [1, 5, 26, 27, 28, 29] (fun K => K [⟨1, none, .slice A (min n 700) c⟩, ⟨5, none, .slice A1 ((splitL b (text.take (min n 700))).length) c1⟩, ⟨26, none, .slice A1 ((splitL b (text.take (min n 700))).length) c1⟩, ⟨27, none, .int .i64 (((splitL b (text.take (min n 700))).length : Nat) : Int)⟩, ⟨28, none, .int .i64 ((k : Nat) : Int)⟩, ⟨29, none, .bool (decide (((k : Nat) : Int) < (((splitL b (text.take (min n 700))).length : Nat) : Int)))⟩] [.box g1 27 [.int .i64 b.g, .int .i64 b.n, .int .u8 b.e, .int .u8 b.t, .int .i64 b.i.h, .int .i64 b.i.m, .int .i64 b.i.s, .int .i64 b.i.f, .bool b.i.d, .int .i64 b.o.h, .int .i64 b.o.m, .int .i64 b.o.s, .int .i64 b.o.f, .bool b.o.d, .int .i64 b.r, .int .u8 b.a, .bool b.c, .slice T (min tn 200) tc], .view A1 ((splitL b (text.take (min n 700))).length) c1 18 (blE bl1), .fam ((splitL b (text.take (min n 700))).length) (blksR bl1)]) (fun K => by kernel_rfl) hF hH ?_
    clear hF hH; intro a w hF hH
    refine wl_end (by kernel_rfl) ?_
    refine then_n ?_
    refine wp_seqE (by kernel_rfl) ?_
    refine wp_condE (b := decide (((k : Nat) : Int) < (((splitL b (text.take (min n 700))).length : Nat) : Int))) (by kernel_rfl) (by kernel_rfl) hF (fun hb2 => ?_) (fun hb2 => ?_)
    · skip
      have hb2p := of_decide_eq_true hb2
      have heb := splitL_eb hb1p hd1 (k := k) (by omega)
      refine wp_skipE (by kernel_rfl) ?_
      refine then_n ?_
      refine wp_seqE (by kernel_rfl) ?_
      refine wp_blockE (id := 1) (by kernel_rfl) ?_
      refine wp_seqE (by kernel_rfl) ?_
      refine wp_regE (by kernel_rfl) ?_
      refine seg [.p, .ia (.r 1) k, .lv (.r 1) k 0, .al, .p, .st 3] [1, 5, 26, 27, 28, 8, 7] (fun K => (((A1) : Option Addr) = A1 ∧ ((splitL b (text.take (min n 700))).length : Nat) = (splitL b (text.take (min n 700))).length ∧ (18 : Nat) = 18 ∧ (((k : Nat) : Int) : Int) = ((k : Nat) : Int) ∧ k < (splitL b (text.take (min n 700))).length) ∧ ((A1.getD nilA).add (k * 18) = ((A1.getD nilA).add (k * 18)).add 0 ∧ k < (splitL b (text.take (min n 700))).length) ∧ ∀ g2, ((g2 : Nat) = g2 ∧ (none : Option Nat) = none) ∧ K [⟨1, none, .slice A (min n 700) c⟩, ⟨5, none, .slice A1 ((splitL b (text.take (min n 700))).length) c1⟩, ⟨26, none, .slice A1 ((splitL b (text.take (min n 700))).length) c1⟩, ⟨27, none, .int .i64 (((splitL b (text.take (min n 700))).length : Nat) : Int)⟩, ⟨28, none, .int .i64 ((k : Nat) : Int)⟩, ⟨8, none, .pointer (some ⟨g2, 0, none⟩)⟩, ⟨7, none, .int .i64 ((k : Nat) : Int)⟩] [.box g1 27 [.int .i64 b.g, .int .i64 b.n, .int .u8 b.e, .int .u8 b.t, .int .i64 b.i.h, .int .i64 b.i.m, .int .i64 b.i.s, .int .i64 b.i.f, .bool b.i.d, .int .i64 b.o.h, .int .i64 b.o.m, .int .i64 b.o.s, .int .i64 b.o.f, .bool b.o.d, .int .i64 b.r, .int .u8 b.a, .bool b.c, .slice T (min tn 200) tc], .view A1 ((splitL b (text.take (min n 700))).length) c1 18 (blE bl1), .fam ((splitL b (text.take (min n 700))).length) (blksR bl1), .box g2 27 [.int .i64 ((bl1.getD k default).b.g), .int .i64 ((bl1.getD k default).b.n), .int .u8 ((bl1.getD k default).b.e), .int .u8 ((bl1.getD k default).b.t), .int .i64 ((bl1.getD k default).b.i.h), .int .i64 ((bl1.getD k default).b.i.m), .int .i64 ((bl1.getD k default).b.i.s), .int .i64 ((bl1.getD k default).b.i.f), .bool ((bl1.getD k default).b.i.d), .int .i64 ((bl1.getD k default).b.o.h), .int .i64 ((bl1.getD k default).b.o.m), .int .i64 ((bl1.getD k default).b.o.s), .int .i64 ((bl1.getD k default).b.o.f), .bool ((bl1.getD k default).b.o.d), .int .i64 ((bl1.getD k default).b.r), .int .u8 ((bl1.getD k default).b.a), .bool ((bl1.getD k default).b.c), .slice ((bl1.getD k default).A) ((bl1.getD k default).t.length) ((bl1.getD k default).c)]]) (fun K => by kernel_rfl) hF hH ?_
      refine ⟨⟨rfl, rfl, rfl, by omega, by omega⟩, ?_⟩
      refine ⟨⟨rfl, by omega⟩, ?_⟩
      intro g2
      refine ⟨⟨rfl, rfl⟩, ?_⟩
      clear hF hH; intro a w hF hH
      refine wl_end (by kernel_rfl) ?_
      refine then_n ?_
      refine wp_seqE (by kernel_rfl) ?_
      refine wp_regE (by kernel_rfl) ?_
      refine seg [.p, .pv (.int .i64 ((k + 1 : Nat) : Int)), .p, .p, .p, .p, .p, .ld (.r 3), .p, .p, .p, .p, .ld (.r 3), .pv (.int .i64 ((bl1.getD k default).b.e)), .p, .p, .pk, .pk] [1, 5, 26, 27, 28, 50] (fun K => (Value.int .i64 (IntKind.wrap .i64 (((k : Nat) : Int) + ((1 : Nat) : Int))) = .int .i64 ((k + 1 : Nat) : Int)) ∧ ((g2 : Nat) = g2 ∧ (none : Option Nat) = none) ∧ ((g2 : Nat) = g2 ∧ (none : Option Nat) = none) ∧ ((decide (((k + 1 : Nat) : Int) < (((splitL b (text.take (min n 700))).length : Nat) : Int))) = true → (((((bl1.getD k default).t.length : Nat) : Int) != 112) = false → (Value.int .i64 (IntKind.wrap .i64 ((bl1.getD k default).b.e)) = .int .i64 ((bl1.getD k default).b.e)))) ∧ K [⟨1, none, .slice A (min n 700) c⟩, ⟨5, none, .slice A1 ((splitL b (text.take (min n 700))).length) c1⟩, ⟨26, none, .slice A1 ((splitL b (text.take (min n 700))).length) c1⟩, ⟨27, none, .int .i64 (((splitL b (text.take (min n 700))).length : Nat) : Int)⟩, ⟨28, none, .int .i64 ((k : Nat) : Int)⟩, ⟨50, none, .bool ((decide (((k + 1 : Nat) : Int) < (((splitL b (text.take (min n 700))).length : Nat) : Int))) && (((((bl1.getD k default).t.length : Nat) : Int) != 112) || (((bl1.getD k default).b.e) != ((k : Nat) : Int))))⟩] [.box g1 27 [.int .i64 b.g, .int .i64 b.n, .int .u8 b.e, .int .u8 b.t, .int .i64 b.i.h, .int .i64 b.i.m, .int .i64 b.i.s, .int .i64 b.i.f, .bool b.i.d, .int .i64 b.o.h, .int .i64 b.o.m, .int .i64 b.o.s, .int .i64 b.o.f, .bool b.o.d, .int .i64 b.r, .int .u8 b.a, .bool b.c, .slice T (min tn 200) tc], .view A1 ((splitL b (text.take (min n 700))).length) c1 18 (blE bl1), .fam ((splitL b (text.take (min n 700))).length) (blksR bl1), .box g2 27 [.int .i64 ((bl1.getD k default).b.g), .int .i64 ((bl1.getD k default).b.n), .int .u8 ((bl1.getD k default).b.e), .int .u8 ((bl1.getD k default).b.t), .int .i64 ((bl1.getD k default).b.i.h), .int .i64 ((bl1.getD k default).b.i.m), .int .i64 ((bl1.getD k default).b.i.s), .int .i64 ((bl1.getD k default).b.i.f), .bool ((bl1.getD k default).b.i.d), .int .i64 ((bl1.getD k default).b.o.h), .int .i64 ((bl1.getD k default).b.o.m), .int .i64 ((bl1.getD k default).b.o.s), .int .i64 ((bl1.getD k default).b.o.f), .bool ((bl1.getD k default).b.o.d), .int .i64 ((bl1.getD k default).b.r), .int .u8 ((bl1.getD k default).b.a), .bool ((bl1.getD k default).b.c), .slice ((bl1.getD k default).A) ((bl1.getD k default).t.length) ((bl1.getD k default).c)]]) (fun K => by kernel_rfl) hF hH ?_
      refine ⟨natadd (by omega), ?_⟩
      refine ⟨⟨rfl, rfl⟩, ?_⟩
      refine ⟨⟨rfl, rfl⟩, ?_⟩
      refine ⟨(fun _ => (fun _ => wr_i64 (by omega))), ?_⟩
      clear hF hH; intro a w hF hH
      refine wl_end (by kernel_rfl) ?_
      refine then_n ?_
      refine wp_condE (b := (decide (((k + 1 : Nat) : Int) < (((splitL b (text.take (min n 700))).length : Nat) : Int))) && (((((bl1.getD k default).t.length : Nat) : Int) != 112) || (((bl1.getD k default).b.e) != ((k : Nat) : Int)))) (by kernel_rfl) (by kernel_rfl) hF (fun hb3 => ?_) (fun hb3 => ?_)
      · skip
        exact absurd hb3 (by have := sizes_step hb1p hd1 (k := k); simp only [Bool.not_eq_true, Bool.and_eq_false_iff, Bool.or_eq_false_iff, decide_eq_false_iff_not, bne_eq_false_iff_eq]; rcases Nat.lt_or_ge (k + 1) (splitL b (text.take (min n 700))).length with h | h; · { exact .inr ⟨by rw [(this h).1]; rfl, (this h).2⟩ }; · { exact .inl (by omega) })
      · skip
        refine wp_skipE (by kernel_rfl) ?_
        refine block_n ?_
        refine then_n ?_
        refine wp_regE (by kernel_rfl) ?_
        refine seg [.pv (.int .i64 ((k + 1 : Nat) : Int)), .p] [1, 5, 26, 27, 28] (fun K => (Value.int .i64 (IntKind.wrap .i64 (((k : Nat) : Int) + ((1 : Nat) : Int))) = .int .i64 ((k + 1 : Nat) : Int)) ∧ K [⟨1, none, .slice A (min n 700) c⟩, ⟨5, none, .slice A1 ((splitL b (text.take (min n 700))).length) c1⟩, ⟨26, none, .slice A1 ((splitL b (text.take (min n 700))).length) c1⟩, ⟨27, none, .int .i64 (((splitL b (text.take (min n 700))).length : Nat) : Int)⟩, ⟨28, none, .int .i64 ((k + 1 : Nat) : Int)⟩] [.box g1 27 [.int .i64 b.g, .int .i64 b.n, .int .u8 b.e, .int .u8 b.t, .int .i64 b.i.h, .int .i64 b.i.m, .int .i64 b.i.s, .int .i64 b.i.f, .bool b.i.d, .int .i64 b.o.h, .int .i64 b.o.m, .int .i64 b.o.s, .int .i64 b.o.f, .bool b.o.d, .int .i64 b.r, .int .u8 b.a, .bool b.c, .slice T (min tn 200) tc], .view A1 ((splitL b (text.take (min n 700))).length) c1 18 (blE bl1), .fam ((splitL b (text.take (min n 700))).length) (blksR bl1), .box g2 27 [.int .i64 ((bl1.getD k default).b.g), .int .i64 ((bl1.getD k default).b.n), .int .u8 ((bl1.getD k default).b.e), .int .u8 ((bl1.getD k default).b.t), .int .i64 ((bl1.getD k default).b.i.h), .int .i64 ((bl1.getD k default).b.i.m), .int .i64 ((bl1.getD k default).b.i.s), .int .i64 ((bl1.getD k default).b.i.f), .bool ((bl1.getD k default).b.i.d), .int .i64 ((bl1.getD k default).b.o.h), .int .i64 ((bl1.getD k default).b.o.m), .int .i64 ((bl1.getD k default).b.o.s), .int .i64 ((bl1.getD k default).b.o.f), .bool ((bl1.getD k default).b.o.d), .int .i64 ((bl1.getD k default).b.r), .int .u8 ((bl1.getD k default).b.a), .bool ((bl1.getD k default).b.c), .slice ((bl1.getD k default).A) ((bl1.getD k default).t.length) ((bl1.getD k default).c)]]) (fun K => by kernel_rfl) hF hH ?_
        refine ⟨natadd (by omega), ?_⟩
        clear hF hH; intro a w hF hH
        refine wl_end (by kernel_rfl) ?_
        refine then_n ?_
        exact ⟨_, by omega, k + 1, rfl, by omega, frK hF [1, 5, 26, 27, 28] (by kernel_rfl), hpKN hH [0, 1] [0, 1, 2] (by kernel_rfl) (by kernel_rfl) (by kernel_rfl)⟩
    · skip
      have hb2p := of_decide_eq_false hb2
      refine wp_exitE (id := 0) (by kernel_rfl) ?_
      refine then_exit ?_
      refine then_exit ?_
      refine block_exit ?_
      refine then_n ?_
      refine wp_seqE (by kernel_rfl) ?_
      refine wp_regE (by kernel_rfl) ?_
      refine seg [.p, .p, .p, .p, .pv (.int .i64 (((min n 700) + 111 : Nat) : Int)), .pv (.int .i64 ((((min n 700) + 111) / 112 : Nat) : Int)), .pv (.int .i64 ((max (((min n 700) + 111) / 112) 1 : Nat) : Int)), .p, .p, .p, .p, .p, .pv (.int .i64 (((splitL b (text.take (min n 700))).length - 1 : Nat) : Int)), .ia (.r 1) ((splitL b (text.take (min n 700))).length - 1), .p, .lv (.r 1) ((splitL b (text.take (min n 700))).length - 1) 2, .p, .pk, .p] [4] (fun K => (Value.int .i64 (IntKind.wrap .i64 (((min n 700 : Nat) : Int) + ((111 : Nat) : Int))) = .int .i64 (((min n 700) + 111 : Nat) : Int)) ∧ (Value.int .i64 (IntKind.wrap .i64 (Int.tdiv (((min n 700) + 111 : Nat) : Int) ((112 : Nat) : Int))) = .int .i64 ((((min n 700) + 111) / 112 : Nat) : Int)) ∧ (Value.int .i64 (if ((1 : Nat) : Int) > ((((min n 700) + 111) / 112 : Nat) : Int) then ((1 : Nat) : Int) else ((((min n 700) + 111) / 112 : Nat) : Int)) = .int .i64 ((max (((min n 700) + 111) / 112) 1 : Nat) : Int)) ∧ (((((splitL b (text.take (min n 700))).length : Nat) : Int) == ((max (((min n 700) + 111) / 112) 1 : Nat) : Int)) = true → (Value.int .i64 (IntKind.wrap .i64 ((((splitL b (text.take (min n 700))).length : Nat) : Int) - ((1 : Nat) : Int))) = .int .i64 (((splitL b (text.take (min n 700))).length - 1 : Nat) : Int))) ∧ (((((splitL b (text.take (min n 700))).length : Nat) : Int) == ((max (((min n 700) + 111) / 112) 1 : Nat) : Int)) = true → (((A1) : Option Addr) = A1 ∧ ((splitL b (text.take (min n 700))).length : Nat) = (splitL b (text.take (min n 700))).length ∧ (18 : Nat) = 18 ∧ ((((splitL b (text.take (min n 700))).length - 1 : Nat) : Int) : Int) = (((splitL b (text.take (min n 700))).length - 1 : Nat) : Int) ∧ (splitL b (text.take (min n 700))).length - 1 < (splitL b (text.take (min n 700))).length)) ∧ (((((splitL b (text.take (min n 700))).length : Nat) : Int) == ((max (((min n 700) + 111) / 112) 1 : Nat) : Int)) = true → (((A1.getD nilA).add (((splitL b (text.take (min n 700))).length - 1) * 18)).add 2 = ((A1.getD nilA).add (((splitL b (text.take (min n 700))).length - 1) * 18)).add 2 ∧ (splitL b (text.take (min n 700))).length - 1 < (splitL b (text.take (min n 700))).length)) ∧ K [⟨4, none, .bool (((((splitL b (text.take (min n 700))).length : Nat) : Int) == ((max (((min n 700) + 111) / 112) 1 : Nat) : Int)) && (((bl1.getD ((splitL b (text.take (min n 700))).length - 1) default).b.e) == 255))⟩] [.box g1 27 [.int .i64 b.g, .int .i64 b.n, .int .u8 b.e, .int .u8 b.t, .int .i64 b.i.h, .int .i64 b.i.m, .int .i64 b.i.s, .int .i64 b.i.f, .bool b.i.d, .int .i64 b.o.h, .int .i64 b.o.m, .int .i64 b.o.s, .int .i64 b.o.f, .bool b.o.d, .int .i64 b.r, .int .u8 b.a, .bool b.c, .slice T (min tn 200) tc], .view A1 ((splitL b (text.take (min n 700))).length) c1 18 (blE bl1), .fam ((splitL b (text.take (min n 700))).length) (blksR bl1)]) (fun K => by kernel_rfl) hF hH ?_
      refine ⟨natadd (by omega), ?_⟩
      refine ⟨natquo (by omega), ?_⟩
      refine ⟨natmax _ _, ?_⟩
      refine ⟨(fun _ => (natsub (b := 1) (by omega) (by omega)).trans (by first | rfl | (congr 1; omega))), ?_⟩
      refine ⟨(fun _ => ⟨rfl, rfl, rfl, by omega, by omega⟩), ?_⟩
      refine ⟨(fun _ => ⟨rfl, by omega⟩), ?_⟩
      clear hF hH; intro a w hF hH
      refine wl_end (by kernel_rfl) ?_
      refine then_n ?_
      refine wp_retE (by kernel_rfl) ?_
      refine retE (vs := [.bool (((((splitL b (text.take (min n 700))).length : Nat) : Int) == ((max (((min n 700) + 111) / 112) 1 : Nat) : Int)) && (((bl1.getD ((splitL b (text.take (min n 700))).length - 1) default).b.e) == 255))]) (p := True) (v := .bool (((((splitL b (text.take (min n 700))).length : Nat) : Int) == ((max (((min n 700) + 111) / 112) 1 : Nat) : Int)) && (((bl1.getD ((splitL b (text.take (min n 700))).length - 1) default).b.e) == 255))) [] (by kernel_rfl) trivial (by kernel_rfl) hF hH ?_
      have h255 := sizes_last hb1p hd1
      refine fin0 ?_ hH
      congr 1
      rw [Bool.and_eq_true]
      exact ⟨by rw [beq_iff_eq]; omega, by rw [beq_iff_eq]; exact h255⟩

end Go.Proofs.Ytcccboodapgejaa
