/-
  TapePuts gives true, whatever the block.
-/
import Derived.Test.YtcccboodapgejaaDatG
import Derived.Test.YtcccboodapgejaaOpen
namespace Go.Proofs.Ytcccboodapgejaa
open Go.Sym

theorem puts_c (b : Blk) (hu8 : b.u8s) (T : Option Addr) (tn tc : Nat) (tb : List UInt8) (hl : tb.length = tn) : CallOk Try.prog 6 [.agg #[.int .i64 b.g, .int .i64 b.n, .int .u8 b.e, .int .u8 b.t, .int .i64 b.i.h, .int .i64 b.i.m, .int .i64 b.i.s, .int .i64 b.i.f, .bool b.i.d, .int .i64 b.o.h, .int .i64 b.o.m, .int .i64 b.o.s, .int .i64 b.o.f, .bool b.o.d, .int .i64 b.r, .int .u8 b.a, .bool b.c, .slice T tn tc]] [.view T tn tc 1 (byE tb)] (U := Unit) (fun _ => .bool true) (fun _ => []) (fun _ => True) := by
  intro w0 hn
  have hnc : tn ≤ tc := (hn _ (List.mem_singleton.2 rfl)).1.1
  have hcm : tc ≤ 9223372036854775807 := (hn _ (List.mem_singleton.2 rfl)).1.2.1
  refine enterE (N := 60) Try.func6 (by kernel_rfl) (by kernel_rfl) (by kernel_rfl) ?_
  intro a hF
  have hH := Hp.start w0 hn
  refine wp_seqE (by kernel_rfl) ?_
  refine wp_regE (by kernel_rfl) ?_
  refine seg [.bx, .p] [1] (fun K => ∀ g1, K [⟨1, none, .pointer (some ⟨g1, 0, none⟩)⟩] [.box g1 27 [.int .i64 b.g, .int .i64 b.n, .int .u8 b.e, .int .u8 b.t, .int .i64 b.i.h, .int .i64 b.i.m, .int .i64 b.i.s, .int .i64 b.i.f, .bool b.i.d, .int .i64 b.o.h, .int .i64 b.o.m, .int .i64 b.o.s, .int .i64 b.o.f, .bool b.o.d, .int .i64 b.r, .int .u8 b.a, .bool b.c, .slice T tn tc]]) (fun K => by kernel_rfl) hF hH ?_
  intro g1
  clear hF hH; intro a w hF hH
  refine wl_end (by kernel_rfl) ?_
  refine then_n ?_
  refine wp_seqE (by kernel_rfl) ?_
  refine wp_seqE (by kernel_rfl) ?_
  refine wp_regE (by kernel_rfl) ?_
  refine callE (d := 9) (awake_c) [] (by kernel_rfl) (by kernel_rfl) hF hH ?_
  clear hF hH; rintro ⟨⟩ - a w hF hH
  refine seg [.p] [1, 10] (fun K => K [⟨1, none, .pointer (some ⟨g1, 0, none⟩)⟩, ⟨10, none, .bool false⟩] [.box g1 27 [.int .i64 b.g, .int .i64 b.n, .int .u8 b.e, .int .u8 b.t, .int .i64 b.i.h, .int .i64 b.i.m, .int .i64 b.i.s, .int .i64 b.i.f, .bool b.i.d, .int .i64 b.o.h, .int .i64 b.o.m, .int .i64 b.o.s, .int .i64 b.o.f, .bool b.o.d, .int .i64 b.r, .int .u8 b.a, .bool b.c, .slice T tn tc]]) (fun K => by kernel_rfl) hF hH ?_
  clear hF hH; intro a w hF hH
  refine wl_end (by kernel_rfl) ?_
  refine then_n ?_
  refine wp_condE (b := false) (by kernel_rfl) (by kernel_rfl) hF (fun h => by cases h) (fun _ => ?_)
  refine wp_skipE (by kernel_rfl) ?_
  refine then_n ?_
  refine wp_seqE (by kernel_rfl) ?_
  refine wp_regE (by kernel_rfl) ?_
  refine seg [.ld (.r 0)] [1, 11] (fun K => ((g1 : Nat) = g1 ∧ (none : Option Nat) = none) ∧ K [⟨1, none, .pointer (some ⟨g1, 0, none⟩)⟩, ⟨11, none, .agg #[.int .i64 b.g, .int .i64 b.n, .int .u8 b.e, .int .u8 b.t, .int .i64 b.i.h, .int .i64 b.i.m, .int .i64 b.i.s, .int .i64 b.i.f, .bool b.i.d, .int .i64 b.o.h, .int .i64 b.o.m, .int .i64 b.o.s, .int .i64 b.o.f, .bool b.o.d, .int .i64 b.r, .int .u8 b.a, .bool b.c, .slice T tn tc]⟩] [.box g1 27 [.int .i64 b.g, .int .i64 b.n, .int .u8 b.e, .int .u8 b.t, .int .i64 b.i.h, .int .i64 b.i.m, .int .i64 b.i.s, .int .i64 b.i.f, .bool b.i.d, .int .i64 b.o.h, .int .i64 b.o.m, .int .i64 b.o.s, .int .i64 b.o.f, .bool b.o.d, .int .i64 b.r, .int .u8 b.a, .bool b.c, .slice T tn tc]]) (fun K => by kernel_rfl) hF hH ?_
  refine ⟨⟨rfl, rfl⟩, ?_⟩
  clear hF hH; intro a w hF hH
  refine callE (d := 12) (short_c b T tn tc (by omega)) [] (by kernel_rfl) (by kernel_rfl) hF hH ?_
  clear hF hH; rintro ⟨⟩ - a w hF hH
  refine seg [.st 0] [1] (fun K => ((g1 : Nat) = g1 ∧ (none : Option Nat) = none) ∧ K [⟨1, none, .pointer (some ⟨g1, 0, none⟩)⟩] [.box g1 27 [.int .i64 b.g, .int .i64 b.n, .int .u8 b.e, .int .u8 b.t, .int .i64 b.i.h, .int .i64 b.i.m, .int .i64 b.i.s, .int .i64 b.i.f, .bool b.i.d, .int .i64 b.o.h, .int .i64 b.o.m, .int .i64 b.o.s, .int .i64 b.o.f, .bool b.o.d, .int .i64 b.r, .int .u8 b.a, .bool b.c, .slice T (min tn 200) tc]]) (fun K => by kernel_rfl) hF hH ?_
  refine ⟨⟨rfl, rfl⟩, ?_⟩
  clear hF hH; intro a w hF hH
  refine wl_end (by kernel_rfl) ?_
  refine then_n ?_
  refine wp_seqE (by kernel_rfl) ?_
  refine wp_regE (by kernel_rfl) ?_
  have hH := hH.headBN (k := 0) rfl (min tn 200) (by omega)
  have htx : (tb.take (min tn 200)).length = min tn 200 := by rw [List.length_take, hl]; omega
  have hpb : (putB b (tb.take (min tn 200))).length ≤ 128 := by rw [putB_len]; unfold putN; split <;> omega
  refine seg [.ld (.r 0)] [1, 14] (fun K => ((g1 : Nat) = g1 ∧ (none : Option Nat) = none) ∧ K [⟨1, none, .pointer (some ⟨g1, 0, none⟩)⟩, ⟨14, none, .agg #[.int .i64 b.g, .int .i64 b.n, .int .u8 b.e, .int .u8 b.t, .int .i64 b.i.h, .int .i64 b.i.m, .int .i64 b.i.s, .int .i64 b.i.f, .bool b.i.d, .int .i64 b.o.h, .int .i64 b.o.m, .int .i64 b.o.s, .int .i64 b.o.f, .bool b.o.d, .int .i64 b.r, .int .u8 b.a, .bool b.c, .slice T (min tn 200) tc]⟩] [.box g1 27 [.int .i64 b.g, .int .i64 b.n, .int .u8 b.e, .int .u8 b.t, .int .i64 b.i.h, .int .i64 b.i.m, .int .i64 b.i.s, .int .i64 b.i.f, .bool b.i.d, .int .i64 b.o.h, .int .i64 b.o.m, .int .i64 b.o.s, .int .i64 b.o.f, .bool b.o.d, .int .i64 b.r, .int .u8 b.a, .bool b.c, .slice T (min tn 200) tc]]) (fun K => by kernel_rfl) hF hH ?_
  refine ⟨⟨rfl, rfl⟩, ?_⟩
  clear hF hH; intro a w hF hH
  refine callE (d := 15) (putV_c b (hu8) T (min tn 200) tc (tb.take (min tn 200)) (by first | rfl | assumption | (simp; done) | (simp; omega))) [.n 1] (by kernel_rfl) (by kernel_rfl) hF hH ?_
  clear hF hH; rintro ⟨A1, c1⟩ - a w hF hH
  refine seg [.p, .p, .p, .p, .p] [1, 3, 4] (fun K => K [⟨1, none, .pointer (some ⟨g1, 0, none⟩)⟩, ⟨3, none, .slice A1 ((putB b (tb.take (min tn 200))).length) c1⟩, ⟨4, none, .int .i64 (checkV b (tb.take (min tn 200)))⟩] [.box g1 27 [.int .i64 b.g, .int .i64 b.n, .int .u8 b.e, .int .u8 b.t, .int .i64 b.i.h, .int .i64 b.i.m, .int .i64 b.i.s, .int .i64 b.i.f, .bool b.i.d, .int .i64 b.o.h, .int .i64 b.o.m, .int .i64 b.o.s, .int .i64 b.o.f, .bool b.o.d, .int .i64 b.r, .int .u8 b.a, .bool b.c, .slice T (min tn 200) tc], .view A1 ((putB b (tb.take (min tn 200))).length) c1 1 (byE (putB b (tb.take (min tn 200))))]) (fun K => by kernel_rfl) hF hH ?_
  clear hF hH; intro a w hF hH
  refine wl_end (by kernel_rfl) ?_
  refine then_n ?_
  refine wp_seqE (by kernel_rfl) ?_
  refine wp_regE (by kernel_rfl) ?_
  refine seg [.ld (.r 0)] [1, 3, 4, 19] (fun K => ((g1 : Nat) = g1 ∧ (none : Option Nat) = none) ∧ K [⟨1, none, .pointer (some ⟨g1, 0, none⟩)⟩, ⟨3, none, .slice A1 ((putB b (tb.take (min tn 200))).length) c1⟩, ⟨4, none, .int .i64 (checkV b (tb.take (min tn 200)))⟩, ⟨19, none, .agg #[.int .i64 b.g, .int .i64 b.n, .int .u8 b.e, .int .u8 b.t, .int .i64 b.i.h, .int .i64 b.i.m, .int .i64 b.i.s, .int .i64 b.i.f, .bool b.i.d, .int .i64 b.o.h, .int .i64 b.o.m, .int .i64 b.o.s, .int .i64 b.o.f, .bool b.o.d, .int .i64 b.r, .int .u8 b.a, .bool b.c, .slice T (min tn 200) tc]⟩] [.box g1 27 [.int .i64 b.g, .int .i64 b.n, .int .u8 b.e, .int .u8 b.t, .int .i64 b.i.h, .int .i64 b.i.m, .int .i64 b.i.s, .int .i64 b.i.f, .bool b.i.d, .int .i64 b.o.h, .int .i64 b.o.m, .int .i64 b.o.s, .int .i64 b.o.f, .bool b.o.d, .int .i64 b.r, .int .u8 b.a, .bool b.c, .slice T (min tn 200) tc], .view A1 ((putB b (tb.take (min tn 200))).length) c1 1 (byE (putB b (tb.take (min tn 200))))]) (fun K => by kernel_rfl) hF hH ?_
  refine ⟨⟨rfl, rfl⟩, ?_⟩
  clear hF hH; intro a w hF hH
  refine callE (d := 20) (refPutV_c b (hu8) T (min tn 200) tc (tb.take (min tn 200)) (by first | rfl | assumption | (simp; done) | (simp; omega))) [.n 1] (by kernel_rfl) (by kernel_rfl) hF hH ?_
  clear hF hH; rintro ⟨A2, c2⟩ - a w hF hH
  refine seg [.p, .p, .p, .p, .p] [1, 3, 4, 5, 6] (fun K => K [⟨1, none, .pointer (some ⟨g1, 0, none⟩)⟩, ⟨3, none, .slice A1 ((putB b (tb.take (min tn 200))).length) c1⟩, ⟨4, none, .int .i64 (checkV b (tb.take (min tn 200)))⟩, ⟨5, none, .slice A2 ((putB b (tb.take (min tn 200))).length) c2⟩, ⟨6, none, .int .i64 (checkV b (tb.take (min tn 200)))⟩] [.box g1 27 [.int .i64 b.g, .int .i64 b.n, .int .u8 b.e, .int .u8 b.t, .int .i64 b.i.h, .int .i64 b.i.m, .int .i64 b.i.s, .int .i64 b.i.f, .bool b.i.d, .int .i64 b.o.h, .int .i64 b.o.m, .int .i64 b.o.s, .int .i64 b.o.f, .bool b.o.d, .int .i64 b.r, .int .u8 b.a, .bool b.c, .slice T (min tn 200) tc], .view A1 ((putB b (tb.take (min tn 200))).length) c1 1 (byE (putB b (tb.take (min tn 200)))), .view A2 ((putB b (tb.take (min tn 200))).length) c2 1 (byE (putB b (tb.take (min tn 200))))]) (fun K => by kernel_rfl) hF hH ?_
  clear hF hH; intro a w hF hH
  refine wl_end (by kernel_rfl) ?_
  refine then_n ?_
  refine wp_seqE (by kernel_rfl) ?_
  refine wp_seqE (by kernel_rfl) ?_
  refine wp_regE (by kernel_rfl) ?_
  refine seg [.p, .p] [1, 3, 4, 6, 23, 24] (fun K => K [⟨1, none, .pointer (some ⟨g1, 0, none⟩)⟩, ⟨3, none, .slice A1 ((putB b (tb.take (min tn 200))).length) c1⟩, ⟨4, none, .int .i64 (checkV b (tb.take (min tn 200)))⟩, ⟨6, none, .int .i64 (checkV b (tb.take (min tn 200)))⟩, ⟨23, none, .slice A1 ((putB b (tb.take (min tn 200))).length) c1⟩, ⟨24, none, .slice A2 ((putB b (tb.take (min tn 200))).length) c2⟩] [.box g1 27 [.int .i64 b.g, .int .i64 b.n, .int .u8 b.e, .int .u8 b.t, .int .i64 b.i.h, .int .i64 b.i.m, .int .i64 b.i.s, .int .i64 b.i.f, .bool b.i.d, .int .i64 b.o.h, .int .i64 b.o.m, .int .i64 b.o.s, .int .i64 b.o.f, .bool b.o.d, .int .i64 b.r, .int .u8 b.a, .bool b.c, .slice T (min tn 200) tc], .view A1 ((putB b (tb.take (min tn 200))).length) c1 1 (byE (putB b (tb.take (min tn 200)))), .view A2 ((putB b (tb.take (min tn 200))).length) c2 1 (byE (putB b (tb.take (min tn 200))))]) (fun K => by kernel_rfl) hF hH ?_
  clear hF hH; intro a w hF hH
  refine callE (d := 25) (equal_c A1 A2 ((putB b (tb.take (min tn 200))).length) ((putB b (tb.take (min tn 200))).length) c1 c2 (putB b (tb.take (min tn 200))) (putB b (tb.take (min tn 200))) (by first | rfl | assumption | (simp; done) | (simp; omega)) (by first | rfl | assumption | (simp; done) | (simp; omega)) (by omega)) [.r 1, .r 2] (by kernel_rfl) (by kernel_rfl) hF hH ?_
  clear hF hH; rintro ⟨⟩ - a w hF hH
  rw [show decide ((putB b (tb.take (min tn 200))) = (putB b (tb.take (min tn 200)))) = true from decide_eq_true rfl] at hF
  refine seg [.p, .p, .gt (.p), .gt (.p), .gt (.pv (.bool false)), .p, .p, .gt (.ld (.r 0))] [1, 3, 4, 32, 33] (fun K => (false = false) ∧ (false = false) ∧ (false = false) ∧ (Value.bool ((checkV b (tb.take (min tn 200))) != (checkV b (tb.take (min tn 200)))) = .bool false) ∧ (false = false) ∧ ((g1 : Nat) = g1 ∧ (none : Option Nat) = none) ∧ K [⟨1, none, .pointer (some ⟨g1, 0, none⟩)⟩, ⟨3, none, .slice A1 ((putB b (tb.take (min tn 200))).length) c1⟩, ⟨4, none, .int .i64 (checkV b (tb.take (min tn 200)))⟩, ⟨32, none, .bool false⟩, ⟨33, none, .agg #[.int .i64 b.g, .int .i64 b.n, .int .u8 b.e, .int .u8 b.t, .int .i64 b.i.h, .int .i64 b.i.m, .int .i64 b.i.s, .int .i64 b.i.f, .bool b.i.d, .int .i64 b.o.h, .int .i64 b.o.m, .int .i64 b.o.s, .int .i64 b.o.f, .bool b.o.d, .int .i64 b.r, .int .u8 b.a, .bool b.c, .slice T (min tn 200) tc]⟩] [.box g1 27 [.int .i64 b.g, .int .i64 b.n, .int .u8 b.e, .int .u8 b.t, .int .i64 b.i.h, .int .i64 b.i.m, .int .i64 b.i.s, .int .i64 b.i.f, .bool b.i.d, .int .i64 b.o.h, .int .i64 b.o.m, .int .i64 b.o.s, .int .i64 b.o.f, .bool b.o.d, .int .i64 b.r, .int .u8 b.a, .bool b.c, .slice T (min tn 200) tc], .view A1 ((putB b (tb.take (min tn 200))).length) c1 1 (byE (putB b (tb.take (min tn 200)))), .view A2 ((putB b (tb.take (min tn 200))).length) c2 1 (byE (putB b (tb.take (min tn 200))))]) (fun K => by kernel_rfl) hF hH ?_
  refine ⟨rfl, ?_⟩
  refine ⟨rfl, ?_⟩
  refine ⟨rfl, ?_⟩
  refine ⟨by simp, ?_⟩
  refine ⟨rfl, ?_⟩
  refine ⟨⟨rfl, rfl⟩, ?_⟩
  clear hF hH; intro a w hF hH
  refine callE (d := 34) (check_c b T (min tn 200) tc (tb.take (min tn 200)) (by first | rfl | assumption | (simp; done) | (simp; omega))) [.n 1] (by kernel_rfl) (by kernel_rfl) hF hH ?_
  clear hF hH; rintro ⟨⟩ - a w hF hH
  refine seg [.gt (.p), .gt (.pv (.bool false)), .p] [1, 3, 4, 37] (fun K => (false = false) ∧ (false = false) ∧ (Value.bool ((checkV b (tb.take (min tn 200))) != (checkV b (tb.take (min tn 200)))) = .bool false) ∧ K [⟨1, none, .pointer (some ⟨g1, 0, none⟩)⟩, ⟨3, none, .slice A1 ((putB b (tb.take (min tn 200))).length) c1⟩, ⟨4, none, .int .i64 (checkV b (tb.take (min tn 200)))⟩, ⟨37, none, .bool false⟩] [.box g1 27 [.int .i64 b.g, .int .i64 b.n, .int .u8 b.e, .int .u8 b.t, .int .i64 b.i.h, .int .i64 b.i.m, .int .i64 b.i.s, .int .i64 b.i.f, .bool b.i.d, .int .i64 b.o.h, .int .i64 b.o.m, .int .i64 b.o.s, .int .i64 b.o.f, .bool b.o.d, .int .i64 b.r, .int .u8 b.a, .bool b.c, .slice T (min tn 200) tc], .view A1 ((putB b (tb.take (min tn 200))).length) c1 1 (byE (putB b (tb.take (min tn 200)))), .view A2 ((putB b (tb.take (min tn 200))).length) c2 1 (byE (putB b (tb.take (min tn 200))))]) (fun K => by kernel_rfl) hF hH ?_
  refine ⟨rfl, ?_⟩
  refine ⟨rfl, ?_⟩
  refine ⟨by simp, ?_⟩
  clear hF hH; intro a w hF hH
  refine wl_end (by kernel_rfl) ?_
  refine then_n ?_
  refine wp_condE (b := false) (by kernel_rfl) (by kernel_rfl) hF (fun h => by cases h) (fun _ => ?_)
  refine wp_skipE (by kernel_rfl) ?_
  refine then_n ?_
  refine wp_seqE (by kernel_rfl) ?_
  refine wp_seqE (by kernel_rfl) ?_
  refine wp_regE (by kernel_rfl) ?_
  refine seg [.p, .p] [1, 3, 39] (fun K => K [⟨1, none, .pointer (some ⟨g1, 0, none⟩)⟩, ⟨3, none, .slice A1 ((putB b (tb.take (min tn 200))).length) c1⟩, ⟨39, none, .bool ((checkV b (tb.take (min tn 200))) != 0)⟩] [.box g1 27 [.int .i64 b.g, .int .i64 b.n, .int .u8 b.e, .int .u8 b.t, .int .i64 b.i.h, .int .i64 b.i.m, .int .i64 b.i.s, .int .i64 b.i.f, .bool b.i.d, .int .i64 b.o.h, .int .i64 b.o.m, .int .i64 b.o.s, .int .i64 b.o.f, .bool b.o.d, .int .i64 b.r, .int .u8 b.a, .bool b.c, .slice T (min tn 200) tc], .view A1 ((putB b (tb.take (min tn 200))).length) c1 1 (byE (putB b (tb.take (min tn 200)))), .view A2 ((putB b (tb.take (min tn 200))).length) c2 1 (byE (putB b (tb.take (min tn 200))))]) (fun K => by kernel_rfl) hF hH ?_
  clear hF hH; intro a w hF hH
  refine wl_end (by kernel_rfl) ?_
  refine then_n ?_
  refine wp_condE (b := (checkV b (tb.take (min tn 200))) != 0) (by kernel_rfl) (by kernel_rfl) hF (fun hb1 => ?_) (fun hb1 => ?_)
  · skip
    have hb1p := ne_of_bne hb1
    refine wp_seqE (by kernel_rfl) ?_
    refine wp_regE (by kernel_rfl) ?_
    refine seg [.p, .p, .p, .p] [2] (fun K => K [⟨2, none, .bool ((((putB b (tb.take (min tn 200))).length : Nat) : Int) == 0)⟩] [.box g1 27 [.int .i64 b.g, .int .i64 b.n, .int .u8 b.e, .int .u8 b.t, .int .i64 b.i.h, .int .i64 b.i.m, .int .i64 b.i.s, .int .i64 b.i.f, .bool b.i.d, .int .i64 b.o.h, .int .i64 b.o.m, .int .i64 b.o.s, .int .i64 b.o.f, .bool b.o.d, .int .i64 b.r, .int .u8 b.a, .bool b.c, .slice T (min tn 200) tc], .view A1 ((putB b (tb.take (min tn 200))).length) c1 1 (byE (putB b (tb.take (min tn 200)))), .view A2 ((putB b (tb.take (min tn 200))).length) c2 1 (byE (putB b (tb.take (min tn 200))))]) (fun K => by kernel_rfl) hF hH ?_
    clear hF hH; intro a w hF hH
    refine wl_end (by kernel_rfl) ?_
    refine then_n ?_
    refine wp_retE (by kernel_rfl) ?_
    refine then_ret ?_
    refine retE (vs := [.bool ((((putB b (tb.take (min tn 200))).length : Nat) : Int) == 0)]) (p := True) (v := .bool ((((putB b (tb.take (min tn 200))).length : Nat) : Int) == 0)) [] (by kernel_rfl) trivial (by kernel_rfl) hF hH ?_
    exact fin0 (by first | rw [putB_nil (by assumption)]; rfl | rw [hpl]; rfl) hH
  · skip
    have hb1p := eq_of_bne_false hb1
    obtain ⟨hgB, hgT, hgE⟩ := get_put_all hb1p hu8
    have hpl := putB_128 hb1p
    refine wp_skipE (by kernel_rfl) ?_
    refine then_n ?_
    refine wp_seqE (by kernel_rfl) ?_
    refine wp_regE (by kernel_rfl) ?_
    refine seg [.p] [1, 3, 44] (fun K => K [⟨1, none, .pointer (some ⟨g1, 0, none⟩)⟩, ⟨3, none, .slice A1 ((putB b (tb.take (min tn 200))).length) c1⟩, ⟨44, none, .slice A1 ((putB b (tb.take (min tn 200))).length) c1⟩] [.box g1 27 [.int .i64 b.g, .int .i64 b.n, .int .u8 b.e, .int .u8 b.t, .int .i64 b.i.h, .int .i64 b.i.m, .int .i64 b.i.s, .int .i64 b.i.f, .bool b.i.d, .int .i64 b.o.h, .int .i64 b.o.m, .int .i64 b.o.s, .int .i64 b.o.f, .bool b.o.d, .int .i64 b.r, .int .u8 b.a, .bool b.c, .slice T (min tn 200) tc], .view A1 ((putB b (tb.take (min tn 200))).length) c1 1 (byE (putB b (tb.take (min tn 200)))), .view A2 ((putB b (tb.take (min tn 200))).length) c2 1 (byE (putB b (tb.take (min tn 200))))]) (fun K => by kernel_rfl) hF hH ?_
    clear hF hH; intro a w hF hH
    refine callE (d := 45) (get_c A1 ((putB b (tb.take (min tn 200))).length) c1 (putB b (tb.take (min tn 200))) (by first | rfl | assumption | (simp; done) | (simp; omega))) [.r 1] (by kernel_rfl) (by kernel_rfl) hF hH ?_
    clear hF hH; rintro ⟨A3, c3⟩ - a w hF hH
    rw [hgE, hgB, hgT] at hF
    rw [hgT] at hH
    refine seg [.p, .p, .p, .al, .st 4, .p] [1, 3, 7, 8] (fun K => ∀ g2, ((g2 : Nat) = g2 ∧ (none : Option Nat) = none) ∧ K [⟨1, none, .pointer (some ⟨g1, 0, none⟩)⟩, ⟨3, none, .slice A1 ((putB b (tb.take (min tn 200))).length) c1⟩, ⟨7, none, .pointer (some ⟨g2, 0, none⟩)⟩, ⟨8, none, .int .i64 0⟩] [.box g1 27 [.int .i64 b.g, .int .i64 b.n, .int .u8 b.e, .int .u8 b.t, .int .i64 b.i.h, .int .i64 b.i.m, .int .i64 b.i.s, .int .i64 b.i.f, .bool b.i.d, .int .i64 b.o.h, .int .i64 b.o.m, .int .i64 b.o.s, .int .i64 b.o.f, .bool b.o.d, .int .i64 b.r, .int .u8 b.a, .bool b.c, .slice T (min tn 200) tc], .view A1 ((putB b (tb.take (min tn 200))).length) c1 1 (byE (putB b (tb.take (min tn 200)))), .view A2 ((putB b (tb.take (min tn 200))).length) c2 1 (byE (putB b (tb.take (min tn 200)))), .view A3 ((tb.take (min tn 200)).length) c3 1 (byE (tb.take (min tn 200))), .box g2 27 [.int .i64 b.g, .int .i64 b.n, .int .u8 b.e, .int .u8 b.t, .int .i64 b.i.h, .int .i64 b.i.m, .int .i64 b.i.s, .int .i64 b.i.f, .bool b.i.d, .int .i64 b.o.h, .int .i64 b.o.m, .int .i64 b.o.s, .int .i64 b.o.f, .bool b.o.d, .int .i64 b.r, .int .u8 b.a, .bool b.c, .slice A3 ((tb.take (min tn 200)).length) c3]]) (fun K => by kernel_rfl) hF hH ?_
    intro g2
    refine ⟨⟨rfl, rfl⟩, ?_⟩
    clear hF hH; intro a w hF hH
    refine wl_end (by kernel_rfl) ?_
    refine then_n ?_
    refine wp_seqE (by kernel_rfl) ?_
    refine wp_regE (by kernel_rfl) ?_
    refine seg [.p, .p, .p, .gt (.ld (.r 4)), .gt (.ld (.r 0))] [3, 50, 51, 52] (fun K => (true = true) ∧ ((g2 : Nat) = g2 ∧ (none : Option Nat) = none) ∧ (true = true) ∧ ((g1 : Nat) = g1 ∧ (none : Option Nat) = none) ∧ K [⟨3, none, .slice A1 ((putB b (tb.take (min tn 200))).length) c1⟩, ⟨50, none, .bool true⟩, ⟨51, none, .agg #[.int .i64 b.g, .int .i64 b.n, .int .u8 b.e, .int .u8 b.t, .int .i64 b.i.h, .int .i64 b.i.m, .int .i64 b.i.s, .int .i64 b.i.f, .bool b.i.d, .int .i64 b.o.h, .int .i64 b.o.m, .int .i64 b.o.s, .int .i64 b.o.f, .bool b.o.d, .int .i64 b.r, .int .u8 b.a, .bool b.c, .slice A3 ((tb.take (min tn 200)).length) c3]⟩, ⟨52, none, .agg #[.int .i64 b.g, .int .i64 b.n, .int .u8 b.e, .int .u8 b.t, .int .i64 b.i.h, .int .i64 b.i.m, .int .i64 b.i.s, .int .i64 b.i.f, .bool b.i.d, .int .i64 b.o.h, .int .i64 b.o.m, .int .i64 b.o.s, .int .i64 b.o.f, .bool b.o.d, .int .i64 b.r, .int .u8 b.a, .bool b.c, .slice T (min tn 200) tc]⟩] [.box g1 27 [.int .i64 b.g, .int .i64 b.n, .int .u8 b.e, .int .u8 b.t, .int .i64 b.i.h, .int .i64 b.i.m, .int .i64 b.i.s, .int .i64 b.i.f, .bool b.i.d, .int .i64 b.o.h, .int .i64 b.o.m, .int .i64 b.o.s, .int .i64 b.o.f, .bool b.o.d, .int .i64 b.r, .int .u8 b.a, .bool b.c, .slice T (min tn 200) tc], .view A1 ((putB b (tb.take (min tn 200))).length) c1 1 (byE (putB b (tb.take (min tn 200)))), .view A2 ((putB b (tb.take (min tn 200))).length) c2 1 (byE (putB b (tb.take (min tn 200)))), .view A3 ((tb.take (min tn 200)).length) c3 1 (byE (tb.take (min tn 200))), .box g2 27 [.int .i64 b.g, .int .i64 b.n, .int .u8 b.e, .int .u8 b.t, .int .i64 b.i.h, .int .i64 b.i.m, .int .i64 b.i.s, .int .i64 b.i.f, .bool b.i.d, .int .i64 b.o.h, .int .i64 b.o.m, .int .i64 b.o.s, .int .i64 b.o.f, .bool b.o.d, .int .i64 b.r, .int .u8 b.a, .bool b.c, .slice A3 ((tb.take (min tn 200)).length) c3]]) (fun K => by kernel_rfl) hF hH ?_
    refine ⟨rfl, ?_⟩
    refine ⟨⟨rfl, rfl⟩, ?_⟩
    refine ⟨rfl, ?_⟩
    refine ⟨⟨rfl, rfl⟩, ?_⟩
    clear hF hH; intro a w hF hH
    refine callE (d := 53) (same_c b b A3 T ((tb.take (min tn 200)).length) (min tn 200) c3 tc (tb.take (min tn 200)) (tb.take (min tn 200)) (by first | rfl | assumption | (simp; done) | (simp; omega)) (by first | rfl | assumption | (simp; done) | (simp; omega)) (by omega)) [.r 3, .n 1] (by kernel_rfl) (by kernel_rfl) hF hH ?_
    clear hF hH; rintro ⟨⟩ - a w hF hH
    rw [sameV_self] at hF
    refine seg [.p, .p, .gt (.p), .gt (.p), .gt (.p), .p, .p] [2] (fun K => (true = true) ∧ (true = true) ∧ (true = true) ∧ K [⟨2, none, .bool ((((putB b (tb.take (min tn 200))).length : Nat) : Int) == 128)⟩] [.box g1 27 [.int .i64 b.g, .int .i64 b.n, .int .u8 b.e, .int .u8 b.t, .int .i64 b.i.h, .int .i64 b.i.m, .int .i64 b.i.s, .int .i64 b.i.f, .bool b.i.d, .int .i64 b.o.h, .int .i64 b.o.m, .int .i64 b.o.s, .int .i64 b.o.f, .bool b.o.d, .int .i64 b.r, .int .u8 b.a, .bool b.c, .slice T (min tn 200) tc], .view A1 ((putB b (tb.take (min tn 200))).length) c1 1 (byE (putB b (tb.take (min tn 200)))), .view A2 ((putB b (tb.take (min tn 200))).length) c2 1 (byE (putB b (tb.take (min tn 200)))), .view A3 ((tb.take (min tn 200)).length) c3 1 (byE (tb.take (min tn 200))), .box g2 27 [.int .i64 b.g, .int .i64 b.n, .int .u8 b.e, .int .u8 b.t, .int .i64 b.i.h, .int .i64 b.i.m, .int .i64 b.i.s, .int .i64 b.i.f, .bool b.i.d, .int .i64 b.o.h, .int .i64 b.o.m, .int .i64 b.o.s, .int .i64 b.o.f, .bool b.o.d, .int .i64 b.r, .int .u8 b.a, .bool b.c, .slice A3 ((tb.take (min tn 200)).length) c3]]) (fun K => by kernel_rfl) hF hH ?_
    refine ⟨rfl, ?_⟩
    refine ⟨rfl, ?_⟩
    refine ⟨rfl, ?_⟩
    clear hF hH; intro a w hF hH
    refine wl_end (by kernel_rfl) ?_
    refine then_n ?_
    refine wp_retE (by kernel_rfl) ?_
    refine retE (vs := [.bool ((((putB b (tb.take (min tn 200))).length : Nat) : Int) == 128)]) (p := True) (v := .bool ((((putB b (tb.take (min tn 200))).length : Nat) : Int) == 128)) [] (by kernel_rfl) trivial (by kernel_rfl) hF hH ?_
    exact fin0 (by first | rw [putB_nil (by assumption)]; rfl | rw [hpl]; rfl) hH

end Go.Proofs.Ytcccboodapgejaa
