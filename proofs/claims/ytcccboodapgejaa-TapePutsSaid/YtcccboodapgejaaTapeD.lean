/-
  Put, Equal, example and short, walked once each.
-/
import Derived.Test.YtcccboodapgejaaTapeC
import Derived.Test.YtcccboodapgejaaDatB
namespace Go.Proofs.Ytcccboodapgejaa
open Go.Sym

theorem put_c (b : Blk) (A : Option Addr) (n c : Nat) (text : List UInt8) (hl : text.length = n) : CallOk Try.prog 18 [.agg #[.int .i64 b.g, .int .i64 b.n, .int .u8 b.e, .int .u8 b.t, .int .i64 b.i.h, .int .i64 b.i.m, .int .i64 b.i.s, .int .i64 b.i.f, .bool b.i.d, .int .i64 b.o.h, .int .i64 b.o.m, .int .i64 b.o.s, .int .i64 b.o.f, .bool b.o.d, .int .i64 b.r, .int .u8 b.a, .bool b.c, .slice A n c]] [.view A n c 1 (byE text)] (U := Option Addr × Nat) (fun u => .tuple #[.slice u.1 (putN b text) u.2, .int .i64 (checkV b text)]) (fun u => [.row u.1 u.2 5 1 (putN b text) (putC b text)]) (fun _ => True) := by
  intro w0 hn
  refine enterE (N := 78) Try.func18 (by kernel_rfl) (by kernel_rfl) (by kernel_rfl) ?_
  intro a hF
  have hH := Hp.start w0 hn
  refine wp_seqE (by kernel_rfl) ?_
  refine wp_regE (by kernel_rfl) ?_
  refine seg [.bx, .p, .p] [1] (fun K => ∀ g1, K [⟨1, none, .pointer (some ⟨g1, 0, none⟩)⟩] [.box g1 27 [.int .i64 b.g, .int .i64 b.n, .int .u8 b.e, .int .u8 b.t, .int .i64 b.i.h, .int .i64 b.i.m, .int .i64 b.i.s, .int .i64 b.i.f, .bool b.i.d, .int .i64 b.o.h, .int .i64 b.o.m, .int .i64 b.o.s, .int .i64 b.o.f, .bool b.o.d, .int .i64 b.r, .int .u8 b.a, .bool b.c, .slice A n c]]) (fun K => by kernel_rfl) hF hH ?_
  intro g1
  clear hF hH; intro a w hF hH
  refine wl_end (by kernel_rfl) ?_
  refine then_n ?_
  refine wp_seqE (by kernel_rfl) ?_
  refine wp_seqE (by kernel_rfl) ?_
  refine wp_regE (by kernel_rfl) ?_
  refine seg [.ld (.r 0)] [1, 7] (fun K => ((g1 : Nat) = g1 ∧ (none : Option Nat) = none) ∧ K [⟨1, none, .pointer (some ⟨g1, 0, none⟩)⟩, ⟨7, none, .agg #[.int .i64 b.g, .int .i64 b.n, .int .u8 b.e, .int .u8 b.t, .int .i64 b.i.h, .int .i64 b.i.m, .int .i64 b.i.s, .int .i64 b.i.f, .bool b.i.d, .int .i64 b.o.h, .int .i64 b.o.m, .int .i64 b.o.s, .int .i64 b.o.f, .bool b.o.d, .int .i64 b.r, .int .u8 b.a, .bool b.c, .slice A n c]⟩] [.box g1 27 [.int .i64 b.g, .int .i64 b.n, .int .u8 b.e, .int .u8 b.t, .int .i64 b.i.h, .int .i64 b.i.m, .int .i64 b.i.s, .int .i64 b.i.f, .bool b.i.d, .int .i64 b.o.h, .int .i64 b.o.m, .int .i64 b.o.s, .int .i64 b.o.f, .bool b.o.d, .int .i64 b.r, .int .u8 b.a, .bool b.c, .slice A n c]]) (fun K => by kernel_rfl) hF hH ?_
  refine ⟨⟨rfl, rfl⟩, ?_⟩
  clear hF hH; intro a w hF hH
  refine callE (d := 8) (check_c b A n c text (by first | rfl | assumption | (simp; done) | (simp; omega))) [.n 0] (by kernel_rfl) (by kernel_rfl) hF hH ?_
  clear hF hH; rintro ⟨⟩ - a w hF hH
  refine seg [.p] [1, 4] (fun K => K [⟨1, none, .pointer (some ⟨g1, 0, none⟩)⟩, ⟨4, none, .int .i64 (checkV b text)⟩] [.box g1 27 [.int .i64 b.g, .int .i64 b.n, .int .u8 b.e, .int .u8 b.t, .int .i64 b.i.h, .int .i64 b.i.m, .int .i64 b.i.s, .int .i64 b.i.f, .bool b.i.d, .int .i64 b.o.h, .int .i64 b.o.m, .int .i64 b.o.s, .int .i64 b.o.f, .bool b.o.d, .int .i64 b.r, .int .u8 b.a, .bool b.c, .slice A n c]]) (fun K => by kernel_rfl) hF hH ?_
  clear hF hH; intro a w hF hH
  refine wl_end (by kernel_rfl) ?_
  refine then_n ?_
  refine wp_seqE (by kernel_rfl) ?_
  refine wp_regE (by kernel_rfl) ?_
  refine seg [.p, .p] [1, 4, 10] (fun K => K [⟨1, none, .pointer (some ⟨g1, 0, none⟩)⟩, ⟨4, none, .int .i64 (checkV b text)⟩, ⟨10, none, .bool ((checkV b text) != 0)⟩] [.box g1 27 [.int .i64 b.g, .int .i64 b.n, .int .u8 b.e, .int .u8 b.t, .int .i64 b.i.h, .int .i64 b.i.m, .int .i64 b.i.s, .int .i64 b.i.f, .bool b.i.d, .int .i64 b.o.h, .int .i64 b.o.m, .int .i64 b.o.s, .int .i64 b.o.f, .bool b.o.d, .int .i64 b.r, .int .u8 b.a, .bool b.c, .slice A n c]]) (fun K => by kernel_rfl) hF hH ?_
  clear hF hH; intro a w hF hH
  refine wl_end (by kernel_rfl) ?_
  refine then_n ?_
  refine wp_condE (b := (checkV b text) != 0) (by kernel_rfl) (by kernel_rfl) hF (fun hb1 => ?_) (fun hb1 => ?_)
  · skip
    have hb1p := ne_of_bne hb1
    refine wp_seqE (by kernel_rfl) ?_
    refine wp_regE (by kernel_rfl) ?_
    refine seg [.p, .p, .p] [2, 3] (fun K => K [⟨2, none, .slice none 0 0⟩, ⟨3, none, .int .i64 (checkV b text)⟩] [.box g1 27 [.int .i64 b.g, .int .i64 b.n, .int .u8 b.e, .int .u8 b.t, .int .i64 b.i.h, .int .i64 b.i.m, .int .i64 b.i.s, .int .i64 b.i.f, .bool b.i.d, .int .i64 b.o.h, .int .i64 b.o.m, .int .i64 b.o.s, .int .i64 b.o.f, .bool b.o.d, .int .i64 b.r, .int .u8 b.a, .bool b.c, .slice A n c]]) (fun K => by kernel_rfl) hF hH ?_
    clear hF hH; intro a w hF hH
    refine wl_end (by kernel_rfl) ?_
    refine then_n ?_
    refine wp_retE (by kernel_rfl) ?_
    refine then_ret ?_
    refine retE (vs := [.slice none 0 0, .int .i64 (checkV b text)]) (p := True) (v := .tuple #[.slice none 0 0, .int .i64 (checkV b text)]) [] (by kernel_rfl) trivial (by kernel_rfl) hF hH ?_
    refine ⟨(none, 0), by simp only [putN, if_neg hb1p], hH.below, trivial, ?_⟩
    simp only [putN, putC, if_neg hb1p]
    exact newRow1 (by simp [rowOk]) (fun _ h => by cases h)
  · skip
    have hb1p := eq_of_bne_false hb1
    have hle := checkV_len hb1p
    refine wp_skipE (by kernel_rfl) ?_
    refine then_n ?_
    refine wp_seqE (by kernel_rfl) ?_
    refine wp_regE (by kernel_rfl) ?_
    refine seg [.p] [1, 5] (fun K => K [⟨1, none, .pointer (some ⟨g1, 0, none⟩)⟩, ⟨5, none, .int .u8 0⟩] [.box g1 27 [.int .i64 b.g, .int .i64 b.n, .int .u8 b.e, .int .u8 b.t, .int .i64 b.i.h, .int .i64 b.i.m, .int .i64 b.i.s, .int .i64 b.i.f, .bool b.i.d, .int .i64 b.o.h, .int .i64 b.o.m, .int .i64 b.o.s, .int .i64 b.o.f, .bool b.o.d, .int .i64 b.r, .int .u8 b.a, .bool b.c, .slice A n c]]) (fun K => by kernel_rfl) hF hH ?_
    clear hF hH; intro a w hF hH
    refine wl_end (by kernel_rfl) ?_
    refine then_n ?_
    refine wp_seqE (by kernel_rfl) ?_
    refine wp_seqE (by kernel_rfl) ?_
    refine wp_regE (by kernel_rfl) ?_
    refine seg [.p, .ld (.r 0)] [1, 5, 13] (fun K => ((g1 : Nat) = g1 ∧ (none : Option Nat) = none) ∧ K [⟨1, none, .pointer (some ⟨g1, 0, none⟩)⟩, ⟨5, none, .int .u8 0⟩, ⟨13, none, .bool b.c⟩] [.box g1 27 [.int .i64 b.g, .int .i64 b.n, .int .u8 b.e, .int .u8 b.t, .int .i64 b.i.h, .int .i64 b.i.m, .int .i64 b.i.s, .int .i64 b.i.f, .bool b.i.d, .int .i64 b.o.h, .int .i64 b.o.m, .int .i64 b.o.s, .int .i64 b.o.f, .bool b.o.d, .int .i64 b.r, .int .u8 b.a, .bool b.c, .slice A n c]]) (fun K => by kernel_rfl) hF hH ?_
    refine ⟨⟨rfl, rfl⟩, ?_⟩
    clear hF hH; intro a w hF hH
    refine wl_end (by kernel_rfl) ?_
    refine then_n ?_
    refine wp_condE (b := b.c) (by kernel_rfl) (by kernel_rfl) hF (fun hb2 => ?_) (fun hb2 => ?_)
    · skip
      refine wp_regE (by kernel_rfl) ?_
      refine seg [.p] [1, 5] (fun K => K [⟨1, none, .pointer (some ⟨g1, 0, none⟩)⟩, ⟨5, none, .int .u8 1⟩] [.box g1 27 [.int .i64 b.g, .int .i64 b.n, .int .u8 b.e, .int .u8 b.t, .int .i64 b.i.h, .int .i64 b.i.m, .int .i64 b.i.s, .int .i64 b.i.f, .bool b.i.d, .int .i64 b.o.h, .int .i64 b.o.m, .int .i64 b.o.s, .int .i64 b.o.f, .bool b.o.d, .int .i64 b.r, .int .u8 b.a, .bool b.c, .slice A n c]]) (fun K => by kernel_rfl) hF hH ?_
      clear hF hH; intro a w hF hH
      refine wl_end (by kernel_rfl) ?_
      refine then_n ?_
      refine wp_seqE (by kernel_rfl) ?_
      refine wp_regE (by kernel_rfl) ?_
      refine seg [.p, .ld (.r 0), .pv (.int .u8 (b.g % 256)), .p, .ld (.r 0), .pv (.int .u8 (b.n % 256)), .p, .ld (.r 0), .pv (.int .i64 (b.n / 256)), .pv (.int .u8 ((b.n / 256) % 256)), .p, .ld (.r 0), .p, .ld (.r 0), .p, .p, .ld (.r 0), .pv (.int .u8 (b.i.h % 256)), .p, .p, .ld (.r 0), .pv (.int .u8 (b.i.m % 256)), .p, .p, .ld (.r 0), .pv (.int .u8 (b.i.s % 256)), .p, .p, .ld (.r 0), .pv (.int .u8 (b.i.f % 256)), .p, .p, .ld (.r 0), .pv (.int .u8 (b.o.h % 256)), .p, .p, .ld (.r 0), .pv (.int .u8 (b.o.m % 256)), .p, .p, .ld (.r 0), .pv (.int .u8 (b.o.s % 256)), .p, .p, .ld (.r 0), .pv (.int .u8 (b.o.f % 256)), .p, .ld (.r 0), .pv (.int .u8 (b.r % 256)), .p, .ld (.r 0), .p, .bs, .p] [1, 6] (fun K => ((g1 : Nat) = g1 ∧ (none : Option Nat) = none) ∧ (Value.int .u8 (IntKind.wrap .u8 b.g) = .int .u8 (b.g % 256)) ∧ ((g1 : Nat) = g1 ∧ (none : Option Nat) = none) ∧ (Value.int .u8 (IntKind.wrap .u8 b.n) = .int .u8 (b.n % 256)) ∧ ((g1 : Nat) = g1 ∧ (none : Option Nat) = none) ∧ (Value.int .i64 (Int.fdiv b.n (2 ^ 8)) = .int .i64 (b.n / 256)) ∧ (Value.int .u8 (IntKind.wrap .u8 (b.n / 256)) = .int .u8 ((b.n / 256) % 256)) ∧ ((g1 : Nat) = g1 ∧ (none : Option Nat) = none) ∧ ((g1 : Nat) = g1 ∧ (none : Option Nat) = none) ∧ ((g1 : Nat) = g1 ∧ (none : Option Nat) = none) ∧ (Value.int .u8 (IntKind.wrap .u8 b.i.h) = .int .u8 (b.i.h % 256)) ∧ ((g1 : Nat) = g1 ∧ (none : Option Nat) = none) ∧ (Value.int .u8 (IntKind.wrap .u8 b.i.m) = .int .u8 (b.i.m % 256)) ∧ ((g1 : Nat) = g1 ∧ (none : Option Nat) = none) ∧ (Value.int .u8 (IntKind.wrap .u8 b.i.s) = .int .u8 (b.i.s % 256)) ∧ ((g1 : Nat) = g1 ∧ (none : Option Nat) = none) ∧ (Value.int .u8 (IntKind.wrap .u8 b.i.f) = .int .u8 (b.i.f % 256)) ∧ ((g1 : Nat) = g1 ∧ (none : Option Nat) = none) ∧ (Value.int .u8 (IntKind.wrap .u8 b.o.h) = .int .u8 (b.o.h % 256)) ∧ ((g1 : Nat) = g1 ∧ (none : Option Nat) = none) ∧ (Value.int .u8 (IntKind.wrap .u8 b.o.m) = .int .u8 (b.o.m % 256)) ∧ ((g1 : Nat) = g1 ∧ (none : Option Nat) = none) ∧ (Value.int .u8 (IntKind.wrap .u8 b.o.s) = .int .u8 (b.o.s % 256)) ∧ ((g1 : Nat) = g1 ∧ (none : Option Nat) = none) ∧ (Value.int .u8 (IntKind.wrap .u8 b.o.f) = .int .u8 (b.o.f % 256)) ∧ ((g1 : Nat) = g1 ∧ (none : Option Nat) = none) ∧ (Value.int .u8 (IntKind.wrap .u8 b.r) = .int .u8 (b.r % 256)) ∧ ((g1 : Nat) = g1 ∧ (none : Option Nat) = none) ∧ ∀ g2, K [⟨1, none, .pointer (some ⟨g1, 0, none⟩)⟩, ⟨6, none, .slice (some ⟨g2, 0, none⟩) 16 16⟩] [.box g1 27 [.int .i64 b.g, .int .i64 b.n, .int .u8 b.e, .int .u8 b.t, .int .i64 b.i.h, .int .i64 b.i.m, .int .i64 b.i.s, .int .i64 b.i.f, .bool b.i.d, .int .i64 b.o.h, .int .i64 b.o.m, .int .i64 b.o.s, .int .i64 b.o.f, .bool b.o.d, .int .i64 b.r, .int .u8 b.a, .bool b.c, .slice A n c], .box g2 5 [.int .u8 (b.g % 256), .int .u8 (b.n % 256), .int .u8 ((b.n / 256) % 256), .int .u8 b.e, .int .u8 b.t, .int .u8 (b.i.h % 256), .int .u8 (b.i.m % 256), .int .u8 (b.i.s % 256), .int .u8 (b.i.f % 256), .int .u8 (b.o.h % 256), .int .u8 (b.o.m % 256), .int .u8 (b.o.s % 256), .int .u8 (b.o.f % 256), .int .u8 (b.r % 256), .int .u8 b.a, .int .u8 1]]) (fun K => by kernel_rfl) hF hH ?_
      refine ⟨⟨rfl, rfl⟩, ?_⟩
      refine ⟨wru8 _, ?_⟩
      refine ⟨⟨rfl, rfl⟩, ?_⟩
      refine ⟨wru8 _, ?_⟩
      refine ⟨⟨rfl, rfl⟩, ?_⟩
      refine ⟨fdivE _ _ rfl, ?_⟩
      refine ⟨wru8 _, ?_⟩
      refine ⟨⟨rfl, rfl⟩, ?_⟩
      refine ⟨⟨rfl, rfl⟩, ?_⟩
      refine ⟨⟨rfl, rfl⟩, ?_⟩
      refine ⟨wru8 _, ?_⟩
      refine ⟨⟨rfl, rfl⟩, ?_⟩
      refine ⟨wru8 _, ?_⟩
      refine ⟨⟨rfl, rfl⟩, ?_⟩
      refine ⟨wru8 _, ?_⟩
      refine ⟨⟨rfl, rfl⟩, ?_⟩
      refine ⟨wru8 _, ?_⟩
      refine ⟨⟨rfl, rfl⟩, ?_⟩
      refine ⟨wru8 _, ?_⟩
      refine ⟨⟨rfl, rfl⟩, ?_⟩
      refine ⟨wru8 _, ?_⟩
      refine ⟨⟨rfl, rfl⟩, ?_⟩
      refine ⟨wru8 _, ?_⟩
      refine ⟨⟨rfl, rfl⟩, ?_⟩
      refine ⟨wru8 _, ?_⟩
      refine ⟨⟨rfl, rfl⟩, ?_⟩
      refine ⟨wru8 _, ?_⟩
      refine ⟨⟨rfl, rfl⟩, ?_⟩
      intro g2
      clear hF hH; intro a w hF hH
      refine wl_end (by kernel_rfl) ?_
      refine then_n ?_
      refine wp_seqE (by kernel_rfl) ?_
      refine wp_regE (by kernel_rfl) ?_
      refine seg [.p, .p, .ld (.r 0)] [6, 67, 69] (fun K => ((g1 : Nat) = g1 ∧ (none : Option Nat) = none) ∧ K [⟨6, none, .slice (some ⟨g2, 0, none⟩) 16 16⟩, ⟨67, none, .slice (some ⟨g2, 0, none⟩) 16 16⟩, ⟨69, none, .slice A n c⟩] [.box g1 27 [.int .i64 b.g, .int .i64 b.n, .int .u8 b.e, .int .u8 b.t, .int .i64 b.i.h, .int .i64 b.i.m, .int .i64 b.i.s, .int .i64 b.i.f, .bool b.i.d, .int .i64 b.o.h, .int .i64 b.o.m, .int .i64 b.o.s, .int .i64 b.o.f, .bool b.o.d, .int .i64 b.r, .int .u8 b.a, .bool b.c, .slice A n c], .box g2 5 [.int .u8 (b.g % 256), .int .u8 (b.n % 256), .int .u8 ((b.n / 256) % 256), .int .u8 b.e, .int .u8 b.t, .int .u8 (b.i.h % 256), .int .u8 (b.i.m % 256), .int .u8 (b.i.s % 256), .int .u8 (b.i.f % 256), .int .u8 (b.o.h % 256), .int .u8 (b.o.m % 256), .int .u8 (b.o.s % 256), .int .u8 (b.o.f % 256), .int .u8 (b.r % 256), .int .u8 b.a, .int .u8 1]]) (fun K => by kernel_rfl) hF hH ?_
      refine ⟨⟨rfl, rfl⟩, ?_⟩
      clear hF hH; intro a w hF hH
      have hH := hH.boxRow (k := 1) rfl 1 16 16 (by omega) (by unfold maxLen; omega) rfl
      refine seg [.ap 1 (.n 0) (byC text), .p] [6] (fun K => (((some ⟨g2, 0, none⟩) : Option Addr) = (some ⟨g2, 0, none⟩) ∧ (16 : Nat) = 16 ∧ (16 : Nat) = 16 ∧ srcP (.view A n c 1 (byE text)) A n 1 (byC text) ∧ (∀ u ∈ (byC text : List Value), u.oneCell' = true) ∧ 16 + n ≤ maxLen ∧ (16 + n) * 1 ≤ 140737488355328) ∧ ∀ A1 c1, K [⟨6, none, .slice A1 (16 + n) c1⟩] [.box g1 27 [.int .i64 b.g, .int .i64 b.n, .int .u8 b.e, .int .u8 b.t, .int .i64 b.i.h, .int .i64 b.i.m, .int .i64 b.i.s, .int .i64 b.i.f, .bool b.i.d, .int .i64 b.o.h, .int .i64 b.o.m, .int .i64 b.o.s, .int .i64 b.o.f, .bool b.o.d, .int .i64 b.r, .int .u8 b.a, .bool b.c, .slice A n c], .row A1 c1 5 1 (16 + n) (([.int .u8 (b.g % 256), .int .u8 (b.n % 256), .int .u8 ((b.n / 256) % 256), .int .u8 b.e, .int .u8 b.t, .int .u8 (b.i.h % 256), .int .u8 (b.i.m % 256), .int .u8 (b.i.s % 256), .int .u8 (b.i.f % 256), .int .u8 (b.o.h % 256), .int .u8 (b.o.m % 256), .int .u8 (b.o.s % 256), .int .u8 (b.o.f % 256), .int .u8 (b.r % 256), .int .u8 b.a, .int .u8 1]) ++ (byC text))]) (fun K => by kernel_rfl) hF hH ?_
      refine ⟨⟨rfl, rfl, rfl, ⟨rfl, rfl, rfl, by_flatN text (by first | rfl | assumption | (simp; done) | (simp; omega))⟩, (by_one text), by (unfold maxLen; omega), by omega⟩, ?_⟩
      intro A1 c1
      clear hF hH; intro a w hF hH
      refine wl_end (by kernel_rfl) ?_
      refine then_n ?_
      refine wp_seqE (by kernel_rfl) ?_
      refine wp_regE (by kernel_rfl) ?_
      refine seg [.p, .bs, .p, .p, .pv (.int .i64 ((128 - (16 + n) : Nat) : Int))] [71, 72, 75] (fun K => ∀ g3, (Value.int .i64 (IntKind.wrap .i64 (((128 : Nat) : Int) - ((16 + n : Nat) : Int))) = .int .i64 ((128 - (16 + n) : Nat) : Int)) ∧ K [⟨71, none, .slice A1 (16 + n) c1⟩, ⟨72, none, .slice (some ⟨g3, 0, none⟩) 1 1⟩, ⟨75, none, .int .i64 ((128 - (16 + n) : Nat) : Int)⟩] [.box g1 27 [.int .i64 b.g, .int .i64 b.n, .int .u8 b.e, .int .u8 b.t, .int .i64 b.i.h, .int .i64 b.i.m, .int .i64 b.i.s, .int .i64 b.i.f, .bool b.i.d, .int .i64 b.o.h, .int .i64 b.o.m, .int .i64 b.o.s, .int .i64 b.o.f, .bool b.o.d, .int .i64 b.r, .int .u8 b.a, .bool b.c, .slice A n c], .row A1 c1 5 1 (16 + n) (([.int .u8 (b.g % 256), .int .u8 (b.n % 256), .int .u8 ((b.n / 256) % 256), .int .u8 b.e, .int .u8 b.t, .int .u8 (b.i.h % 256), .int .u8 (b.i.m % 256), .int .u8 (b.i.s % 256), .int .u8 (b.i.f % 256), .int .u8 (b.o.h % 256), .int .u8 (b.o.m % 256), .int .u8 (b.o.s % 256), .int .u8 (b.o.f % 256), .int .u8 (b.r % 256), .int .u8 b.a, .int .u8 1]) ++ (byC text)), .box g3 5 [.int .u8 143]]) (fun K => by kernel_rfl) hF hH ?_
      intro g3
      refine ⟨natsub (by omega) (by omega), ?_⟩
      clear hF hH; intro a w hF hH
      have hH := hH.boxRow (k := 2) rfl 1 1 1 (by omega) (by unfold maxLen; omega) rfl
      have hH := hH.rowView (k := 2) rfl (byE [143]) (by_rowN [143] rfl)
      refine callE (d := 76) (repeat_c (some ⟨g3, 0, none⟩) 1 143 (128 - (16 + n)) (by omega)) [.r 2] (by kernel_rfl) (by kernel_rfl) hF hH ?_
      clear hF hH; rintro ⟨A2, c2⟩ - a w hF hH
      refine seg [.ap 1 (.r 3) (byC (List.replicate (128 - (16 + n)) 143)), .p, .p] [2, 3] (fun K => (((A1) : Option Addr) = A1 ∧ (c1 : Nat) = c1 ∧ (16 + n : Nat) = 16 + n ∧ srcP (.row A2 c2 5 1 (128 - (16 + n)) (byC (List.replicate (128 - (16 + n)) 143))) A2 (128 - (16 + n)) 1 (byC (List.replicate (128 - (16 + n)) 143)) ∧ (∀ u ∈ (byC (List.replicate (128 - (16 + n)) 143) : List Value), u.oneCell' = true) ∧ (16 + n) + (128 - (16 + n)) ≤ maxLen ∧ ((16 + n) + (128 - (16 + n))) * 1 ≤ 140737488355328) ∧ ∀ A3 c3, K [⟨2, none, .slice A3 ((16 + n) + (128 - (16 + n))) c3⟩, ⟨3, none, .int .i64 0⟩] [.box g1 27 [.int .i64 b.g, .int .i64 b.n, .int .u8 b.e, .int .u8 b.t, .int .i64 b.i.h, .int .i64 b.i.m, .int .i64 b.i.s, .int .i64 b.i.f, .bool b.i.d, .int .i64 b.o.h, .int .i64 b.o.m, .int .i64 b.o.s, .int .i64 b.o.f, .bool b.o.d, .int .i64 b.r, .int .u8 b.a, .bool b.c, .slice A n c], .row A3 c3 5 1 ((16 + n) + (128 - (16 + n))) ((([.int .u8 (b.g % 256), .int .u8 (b.n % 256), .int .u8 ((b.n / 256) % 256), .int .u8 b.e, .int .u8 b.t, .int .u8 (b.i.h % 256), .int .u8 (b.i.m % 256), .int .u8 (b.i.s % 256), .int .u8 (b.i.f % 256), .int .u8 (b.o.h % 256), .int .u8 (b.o.m % 256), .int .u8 (b.o.s % 256), .int .u8 (b.o.f % 256), .int .u8 (b.r % 256), .int .u8 b.a, .int .u8 1]) ++ (byC text)) ++ (byC (List.replicate (128 - (16 + n)) 143))), .view (some ⟨g3, 0, none⟩) 1 1 1 (byE ([143])), .row A2 c2 5 1 (128 - (16 + n)) (byC (List.replicate (128 - (16 + n)) 143))]) (fun K => by kernel_rfl) hF hH ?_
      refine ⟨⟨rfl, rfl, rfl, ⟨rfl, rfl, rfl, rfl⟩, (by_one _), by (unfold maxLen; omega), by omega⟩, ?_⟩
      intro A3 c3
      clear hF hH; intro a w hF hH
      refine wl_end (by kernel_rfl) ?_
      refine then_n ?_
      refine wp_retE (by kernel_rfl) ?_
      refine retE (vs := [.slice A3 ((16 + n) + (128 - (16 + n))) c3, .int .i64 0]) (p := True) (v := .tuple #[.slice A3 ((16 + n) + (128 - (16 + n))) c3, .int .i64 0]) [] (by kernel_rfl) trivial (by kernel_rfl) hF hH ?_
      refine ⟨(A3, c3), by rw [hb1p, show putN b text = (16 + n) + (128 - (16 + n)) from by rw [putN, if_pos hb1p]; omega], hH.below, trivial, ?_⟩
      have e1 : putN b text = (16 + n) + (128 - (16 + n)) := by rw [putN, if_pos hb1p]; omega
      have e2 : putC b text = (([.int .u8 (b.g % 256), .int .u8 (b.n % 256), .int .u8 ((b.n / 256) % 256), .int .u8 b.e, .int .u8 b.t, .int .u8 (b.i.h % 256), .int .u8 (b.i.m % 256), .int .u8 (b.i.s % 256), .int .u8 (b.i.f % 256), .int .u8 (b.o.h % 256), .int .u8 (b.o.m % 256), .int .u8 (b.o.s % 256), .int .u8 (b.o.f % 256), .int .u8 (b.r % 256), .int .u8 b.a, .int .u8 1]) ++ (byC text)) ++ (byC (List.replicate (128 - (16 + n)) 143)) := by rw [putC, if_pos hb1p, hdrC, hb2, hl]; rfl
      rw [e1, e2]
      exact newOf hH (k := 1) rfl
    · skip
      refine wp_skipE (by kernel_rfl) ?_
      refine then_n ?_
      refine wp_seqE (by kernel_rfl) ?_
      refine wp_regE (by kernel_rfl) ?_
      refine seg [.p, .ld (.r 0), .pv (.int .u8 (b.g % 256)), .p, .ld (.r 0), .pv (.int .u8 (b.n % 256)), .p, .ld (.r 0), .pv (.int .i64 (b.n / 256)), .pv (.int .u8 ((b.n / 256) % 256)), .p, .ld (.r 0), .p, .ld (.r 0), .p, .p, .ld (.r 0), .pv (.int .u8 (b.i.h % 256)), .p, .p, .ld (.r 0), .pv (.int .u8 (b.i.m % 256)), .p, .p, .ld (.r 0), .pv (.int .u8 (b.i.s % 256)), .p, .p, .ld (.r 0), .pv (.int .u8 (b.i.f % 256)), .p, .p, .ld (.r 0), .pv (.int .u8 (b.o.h % 256)), .p, .p, .ld (.r 0), .pv (.int .u8 (b.o.m % 256)), .p, .p, .ld (.r 0), .pv (.int .u8 (b.o.s % 256)), .p, .p, .ld (.r 0), .pv (.int .u8 (b.o.f % 256)), .p, .ld (.r 0), .pv (.int .u8 (b.r % 256)), .p, .ld (.r 0), .p, .bs, .p] [1, 6] (fun K => ((g1 : Nat) = g1 ∧ (none : Option Nat) = none) ∧ (Value.int .u8 (IntKind.wrap .u8 b.g) = .int .u8 (b.g % 256)) ∧ ((g1 : Nat) = g1 ∧ (none : Option Nat) = none) ∧ (Value.int .u8 (IntKind.wrap .u8 b.n) = .int .u8 (b.n % 256)) ∧ ((g1 : Nat) = g1 ∧ (none : Option Nat) = none) ∧ (Value.int .i64 (Int.fdiv b.n (2 ^ 8)) = .int .i64 (b.n / 256)) ∧ (Value.int .u8 (IntKind.wrap .u8 (b.n / 256)) = .int .u8 ((b.n / 256) % 256)) ∧ ((g1 : Nat) = g1 ∧ (none : Option Nat) = none) ∧ ((g1 : Nat) = g1 ∧ (none : Option Nat) = none) ∧ ((g1 : Nat) = g1 ∧ (none : Option Nat) = none) ∧ (Value.int .u8 (IntKind.wrap .u8 b.i.h) = .int .u8 (b.i.h % 256)) ∧ ((g1 : Nat) = g1 ∧ (none : Option Nat) = none) ∧ (Value.int .u8 (IntKind.wrap .u8 b.i.m) = .int .u8 (b.i.m % 256)) ∧ ((g1 : Nat) = g1 ∧ (none : Option Nat) = none) ∧ (Value.int .u8 (IntKind.wrap .u8 b.i.s) = .int .u8 (b.i.s % 256)) ∧ ((g1 : Nat) = g1 ∧ (none : Option Nat) = none) ∧ (Value.int .u8 (IntKind.wrap .u8 b.i.f) = .int .u8 (b.i.f % 256)) ∧ ((g1 : Nat) = g1 ∧ (none : Option Nat) = none) ∧ (Value.int .u8 (IntKind.wrap .u8 b.o.h) = .int .u8 (b.o.h % 256)) ∧ ((g1 : Nat) = g1 ∧ (none : Option Nat) = none) ∧ (Value.int .u8 (IntKind.wrap .u8 b.o.m) = .int .u8 (b.o.m % 256)) ∧ ((g1 : Nat) = g1 ∧ (none : Option Nat) = none) ∧ (Value.int .u8 (IntKind.wrap .u8 b.o.s) = .int .u8 (b.o.s % 256)) ∧ ((g1 : Nat) = g1 ∧ (none : Option Nat) = none) ∧ (Value.int .u8 (IntKind.wrap .u8 b.o.f) = .int .u8 (b.o.f % 256)) ∧ ((g1 : Nat) = g1 ∧ (none : Option Nat) = none) ∧ (Value.int .u8 (IntKind.wrap .u8 b.r) = .int .u8 (b.r % 256)) ∧ ((g1 : Nat) = g1 ∧ (none : Option Nat) = none) ∧ ∀ g4, K [⟨1, none, .pointer (some ⟨g1, 0, none⟩)⟩, ⟨6, none, .slice (some ⟨g4, 0, none⟩) 16 16⟩] [.box g1 27 [.int .i64 b.g, .int .i64 b.n, .int .u8 b.e, .int .u8 b.t, .int .i64 b.i.h, .int .i64 b.i.m, .int .i64 b.i.s, .int .i64 b.i.f, .bool b.i.d, .int .i64 b.o.h, .int .i64 b.o.m, .int .i64 b.o.s, .int .i64 b.o.f, .bool b.o.d, .int .i64 b.r, .int .u8 b.a, .bool b.c, .slice A n c], .box g4 5 [.int .u8 (b.g % 256), .int .u8 (b.n % 256), .int .u8 ((b.n / 256) % 256), .int .u8 b.e, .int .u8 b.t, .int .u8 (b.i.h % 256), .int .u8 (b.i.m % 256), .int .u8 (b.i.s % 256), .int .u8 (b.i.f % 256), .int .u8 (b.o.h % 256), .int .u8 (b.o.m % 256), .int .u8 (b.o.s % 256), .int .u8 (b.o.f % 256), .int .u8 (b.r % 256), .int .u8 b.a, .int .u8 0]]) (fun K => by kernel_rfl) hF hH ?_
      refine ⟨⟨rfl, rfl⟩, ?_⟩
      refine ⟨wru8 _, ?_⟩
      refine ⟨⟨rfl, rfl⟩, ?_⟩
      refine ⟨wru8 _, ?_⟩
      refine ⟨⟨rfl, rfl⟩, ?_⟩
      refine ⟨fdivE _ _ rfl, ?_⟩
      refine ⟨wru8 _, ?_⟩
      refine ⟨⟨rfl, rfl⟩, ?_⟩
      refine ⟨⟨rfl, rfl⟩, ?_⟩
      refine ⟨⟨rfl, rfl⟩, ?_⟩
      refine ⟨wru8 _, ?_⟩
      refine ⟨⟨rfl, rfl⟩, ?_⟩
      refine ⟨wru8 _, ?_⟩
      refine ⟨⟨rfl, rfl⟩, ?_⟩
      refine ⟨wru8 _, ?_⟩
      refine ⟨⟨rfl, rfl⟩, ?_⟩
      refine ⟨wru8 _, ?_⟩
      refine ⟨⟨rfl, rfl⟩, ?_⟩
      refine ⟨wru8 _, ?_⟩
      refine ⟨⟨rfl, rfl⟩, ?_⟩
      refine ⟨wru8 _, ?_⟩
      refine ⟨⟨rfl, rfl⟩, ?_⟩
      refine ⟨wru8 _, ?_⟩
      refine ⟨⟨rfl, rfl⟩, ?_⟩
      refine ⟨wru8 _, ?_⟩
      refine ⟨⟨rfl, rfl⟩, ?_⟩
      refine ⟨wru8 _, ?_⟩
      refine ⟨⟨rfl, rfl⟩, ?_⟩
      intro g4
      clear hF hH; intro a w hF hH
      refine wl_end (by kernel_rfl) ?_
      refine then_n ?_
      refine wp_seqE (by kernel_rfl) ?_
      refine wp_regE (by kernel_rfl) ?_
      refine seg [.p, .p, .ld (.r 0)] [6, 67, 69] (fun K => ((g1 : Nat) = g1 ∧ (none : Option Nat) = none) ∧ K [⟨6, none, .slice (some ⟨g4, 0, none⟩) 16 16⟩, ⟨67, none, .slice (some ⟨g4, 0, none⟩) 16 16⟩, ⟨69, none, .slice A n c⟩] [.box g1 27 [.int .i64 b.g, .int .i64 b.n, .int .u8 b.e, .int .u8 b.t, .int .i64 b.i.h, .int .i64 b.i.m, .int .i64 b.i.s, .int .i64 b.i.f, .bool b.i.d, .int .i64 b.o.h, .int .i64 b.o.m, .int .i64 b.o.s, .int .i64 b.o.f, .bool b.o.d, .int .i64 b.r, .int .u8 b.a, .bool b.c, .slice A n c], .box g4 5 [.int .u8 (b.g % 256), .int .u8 (b.n % 256), .int .u8 ((b.n / 256) % 256), .int .u8 b.e, .int .u8 b.t, .int .u8 (b.i.h % 256), .int .u8 (b.i.m % 256), .int .u8 (b.i.s % 256), .int .u8 (b.i.f % 256), .int .u8 (b.o.h % 256), .int .u8 (b.o.m % 256), .int .u8 (b.o.s % 256), .int .u8 (b.o.f % 256), .int .u8 (b.r % 256), .int .u8 b.a, .int .u8 0]]) (fun K => by kernel_rfl) hF hH ?_
      refine ⟨⟨rfl, rfl⟩, ?_⟩
      clear hF hH; intro a w hF hH
      have hH := hH.boxRow (k := 1) rfl 1 16 16 (by omega) (by unfold maxLen; omega) rfl
      refine seg [.ap 1 (.n 0) (byC text), .p] [6] (fun K => (((some ⟨g4, 0, none⟩) : Option Addr) = (some ⟨g4, 0, none⟩) ∧ (16 : Nat) = 16 ∧ (16 : Nat) = 16 ∧ srcP (.view A n c 1 (byE text)) A n 1 (byC text) ∧ (∀ u ∈ (byC text : List Value), u.oneCell' = true) ∧ 16 + n ≤ maxLen ∧ (16 + n) * 1 ≤ 140737488355328) ∧ ∀ A4 c4, K [⟨6, none, .slice A4 (16 + n) c4⟩] [.box g1 27 [.int .i64 b.g, .int .i64 b.n, .int .u8 b.e, .int .u8 b.t, .int .i64 b.i.h, .int .i64 b.i.m, .int .i64 b.i.s, .int .i64 b.i.f, .bool b.i.d, .int .i64 b.o.h, .int .i64 b.o.m, .int .i64 b.o.s, .int .i64 b.o.f, .bool b.o.d, .int .i64 b.r, .int .u8 b.a, .bool b.c, .slice A n c], .row A4 c4 5 1 (16 + n) (([.int .u8 (b.g % 256), .int .u8 (b.n % 256), .int .u8 ((b.n / 256) % 256), .int .u8 b.e, .int .u8 b.t, .int .u8 (b.i.h % 256), .int .u8 (b.i.m % 256), .int .u8 (b.i.s % 256), .int .u8 (b.i.f % 256), .int .u8 (b.o.h % 256), .int .u8 (b.o.m % 256), .int .u8 (b.o.s % 256), .int .u8 (b.o.f % 256), .int .u8 (b.r % 256), .int .u8 b.a, .int .u8 0]) ++ (byC text))]) (fun K => by kernel_rfl) hF hH ?_
      refine ⟨⟨rfl, rfl, rfl, ⟨rfl, rfl, rfl, by_flatN text (by first | rfl | assumption | (simp; done) | (simp; omega))⟩, (by_one text), by (unfold maxLen; omega), by omega⟩, ?_⟩
      intro A4 c4
      clear hF hH; intro a w hF hH
      refine wl_end (by kernel_rfl) ?_
      refine then_n ?_
      refine wp_seqE (by kernel_rfl) ?_
      refine wp_regE (by kernel_rfl) ?_
      refine seg [.p, .bs, .p, .p, .pv (.int .i64 ((128 - (16 + n) : Nat) : Int))] [71, 72, 75] (fun K => ∀ g5, (Value.int .i64 (IntKind.wrap .i64 (((128 : Nat) : Int) - ((16 + n : Nat) : Int))) = .int .i64 ((128 - (16 + n) : Nat) : Int)) ∧ K [⟨71, none, .slice A4 (16 + n) c4⟩, ⟨72, none, .slice (some ⟨g5, 0, none⟩) 1 1⟩, ⟨75, none, .int .i64 ((128 - (16 + n) : Nat) : Int)⟩] [.box g1 27 [.int .i64 b.g, .int .i64 b.n, .int .u8 b.e, .int .u8 b.t, .int .i64 b.i.h, .int .i64 b.i.m, .int .i64 b.i.s, .int .i64 b.i.f, .bool b.i.d, .int .i64 b.o.h, .int .i64 b.o.m, .int .i64 b.o.s, .int .i64 b.o.f, .bool b.o.d, .int .i64 b.r, .int .u8 b.a, .bool b.c, .slice A n c], .row A4 c4 5 1 (16 + n) (([.int .u8 (b.g % 256), .int .u8 (b.n % 256), .int .u8 ((b.n / 256) % 256), .int .u8 b.e, .int .u8 b.t, .int .u8 (b.i.h % 256), .int .u8 (b.i.m % 256), .int .u8 (b.i.s % 256), .int .u8 (b.i.f % 256), .int .u8 (b.o.h % 256), .int .u8 (b.o.m % 256), .int .u8 (b.o.s % 256), .int .u8 (b.o.f % 256), .int .u8 (b.r % 256), .int .u8 b.a, .int .u8 0]) ++ (byC text)), .box g5 5 [.int .u8 143]]) (fun K => by kernel_rfl) hF hH ?_
      intro g5
      refine ⟨natsub (by omega) (by omega), ?_⟩
      clear hF hH; intro a w hF hH
      have hH := hH.boxRow (k := 2) rfl 1 1 1 (by omega) (by unfold maxLen; omega) rfl
      have hH := hH.rowView (k := 2) rfl (byE [143]) (by_rowN [143] rfl)
      refine callE (d := 76) (repeat_c (some ⟨g5, 0, none⟩) 1 143 (128 - (16 + n)) (by omega)) [.r 2] (by kernel_rfl) (by kernel_rfl) hF hH ?_
      clear hF hH; rintro ⟨A5, c5⟩ - a w hF hH
      refine seg [.ap 1 (.r 3) (byC (List.replicate (128 - (16 + n)) 143)), .p, .p] [2, 3] (fun K => (((A4) : Option Addr) = A4 ∧ (c4 : Nat) = c4 ∧ (16 + n : Nat) = 16 + n ∧ srcP (.row A5 c5 5 1 (128 - (16 + n)) (byC (List.replicate (128 - (16 + n)) 143))) A5 (128 - (16 + n)) 1 (byC (List.replicate (128 - (16 + n)) 143)) ∧ (∀ u ∈ (byC (List.replicate (128 - (16 + n)) 143) : List Value), u.oneCell' = true) ∧ (16 + n) + (128 - (16 + n)) ≤ maxLen ∧ ((16 + n) + (128 - (16 + n))) * 1 ≤ 140737488355328) ∧ ∀ A6 c6, K [⟨2, none, .slice A6 ((16 + n) + (128 - (16 + n))) c6⟩, ⟨3, none, .int .i64 0⟩] [.box g1 27 [.int .i64 b.g, .int .i64 b.n, .int .u8 b.e, .int .u8 b.t, .int .i64 b.i.h, .int .i64 b.i.m, .int .i64 b.i.s, .int .i64 b.i.f, .bool b.i.d, .int .i64 b.o.h, .int .i64 b.o.m, .int .i64 b.o.s, .int .i64 b.o.f, .bool b.o.d, .int .i64 b.r, .int .u8 b.a, .bool b.c, .slice A n c], .row A6 c6 5 1 ((16 + n) + (128 - (16 + n))) ((([.int .u8 (b.g % 256), .int .u8 (b.n % 256), .int .u8 ((b.n / 256) % 256), .int .u8 b.e, .int .u8 b.t, .int .u8 (b.i.h % 256), .int .u8 (b.i.m % 256), .int .u8 (b.i.s % 256), .int .u8 (b.i.f % 256), .int .u8 (b.o.h % 256), .int .u8 (b.o.m % 256), .int .u8 (b.o.s % 256), .int .u8 (b.o.f % 256), .int .u8 (b.r % 256), .int .u8 b.a, .int .u8 0]) ++ (byC text)) ++ (byC (List.replicate (128 - (16 + n)) 143))), .view (some ⟨g5, 0, none⟩) 1 1 1 (byE ([143])), .row A5 c5 5 1 (128 - (16 + n)) (byC (List.replicate (128 - (16 + n)) 143))]) (fun K => by kernel_rfl) hF hH ?_
      refine ⟨⟨rfl, rfl, rfl, ⟨rfl, rfl, rfl, rfl⟩, (by_one _), by (unfold maxLen; omega), by omega⟩, ?_⟩
      intro A6 c6
      clear hF hH; intro a w hF hH
      refine wl_end (by kernel_rfl) ?_
      refine then_n ?_
      refine wp_retE (by kernel_rfl) ?_
      refine retE (vs := [.slice A6 ((16 + n) + (128 - (16 + n))) c6, .int .i64 0]) (p := True) (v := .tuple #[.slice A6 ((16 + n) + (128 - (16 + n))) c6, .int .i64 0]) [] (by kernel_rfl) trivial (by kernel_rfl) hF hH ?_
      refine ⟨(A6, c6), by rw [hb1p, show putN b text = (16 + n) + (128 - (16 + n)) from by rw [putN, if_pos hb1p]; omega], hH.below, trivial, ?_⟩
      have e1 : putN b text = (16 + n) + (128 - (16 + n)) := by rw [putN, if_pos hb1p]; omega
      have e2 : putC b text = (([.int .u8 (b.g % 256), .int .u8 (b.n % 256), .int .u8 ((b.n / 256) % 256), .int .u8 b.e, .int .u8 b.t, .int .u8 (b.i.h % 256), .int .u8 (b.i.m % 256), .int .u8 (b.i.s % 256), .int .u8 (b.i.f % 256), .int .u8 (b.o.h % 256), .int .u8 (b.o.m % 256), .int .u8 (b.o.s % 256), .int .u8 (b.o.f % 256), .int .u8 (b.r % 256), .int .u8 b.a, .int .u8 0]) ++ (byC text)) ++ (byC (List.replicate (128 - (16 + n)) 143)) := by rw [putC, if_pos hb1p, hdrC, hb2, hl]; rfl
      rw [e1, e2]
      exact newOf hH (k := 1) rfl

theorem equal_c (A B : Option Addr) (n m c d : Nat) (bs cs : List UInt8) (hl : bs.length = n) (hm : cs.length = m) (hle : n ≤ 140737488355328) : CallOk Try.prog 15 [.slice A n c, .slice B m d] [.view A n c 1 (byE bs), .view B m d 1 (byE cs)] (U := Unit) (fun _ => .bool (decide (bs = cs))) (fun _ => []) (fun _ => True) := by
  intro w0 hn
  refine enterE (N := 26) Try.func15 (by kernel_rfl) (by kernel_rfl) (by kernel_rfl) ?_
  intro a hF
  have hH := Hp.start w0 hn
  refine wp_seqE (by kernel_rfl) ?_
  refine wp_regE (by kernel_rfl) ?_
  refine seg [.p] [0, 1] (fun K => K [⟨0, none, .slice A n c⟩, ⟨1, none, .slice B m d⟩] []) (fun K => by kernel_rfl) hF hH ?_
  clear hF hH; intro a w hF hH
  refine wl_end (by kernel_rfl) ?_
  refine then_n ?_
  refine wp_seqE (by kernel_rfl) ?_
  refine wp_seqE (by kernel_rfl) ?_
  refine wp_regE (by kernel_rfl) ?_
  refine seg [.p, .p, .p, .p, .p] [0, 1, 10] (fun K => K [⟨0, none, .slice A n c⟩, ⟨1, none, .slice B m d⟩, ⟨10, none, .bool (((n : Nat) : Int) != ((m : Nat) : Int))⟩] []) (fun K => by kernel_rfl) hF hH ?_
  clear hF hH; intro a w hF hH
  refine wl_end (by kernel_rfl) ?_
  refine then_n ?_
  refine wp_condE (b := ((n : Nat) : Int) != ((m : Nat) : Int)) (by kernel_rfl) (by kernel_rfl) hF (fun hb1 => ?_) (fun hb1 => ?_)
  · skip
    have hb1p := ne_of_bne hb1
    refine wp_seqE (by kernel_rfl) ?_
    refine wp_regE (by kernel_rfl) ?_
    refine seg [.p] [4] (fun K => K [⟨4, none, .bool false⟩] []) (fun K => by kernel_rfl) hF hH ?_
    clear hF hH; intro a w hF hH
    refine wl_end (by kernel_rfl) ?_
    refine then_n ?_
    refine wp_retE (by kernel_rfl) ?_
    refine then_ret ?_
    refine retE (vs := [.bool false]) (p := True) (v := .bool false) [] (by kernel_rfl) trivial (by kernel_rfl) hF hH ?_
    exact fin0 (by rw [eq_len hl hm (by omega)]) hH
  · skip
    have hb1p := eq_of_bne_false hb1
    have hnm : n = m := by omega
    refine wp_skipE (by kernel_rfl) ?_
    refine then_n ?_
    refine wp_seqE (by kernel_rfl) ?_
    refine wp_seqE (by kernel_rfl) ?_
    refine wp_regE (by kernel_rfl) ?_
    refine seg [.p, .p, .p] [0, 1, 12, 13] (fun K => K [⟨0, none, .slice A n c⟩, ⟨1, none, .slice B m d⟩, ⟨12, none, .int .i64 ((n : Nat) : Int)⟩, ⟨13, none, .int .i64 0⟩] []) (fun K => by kernel_rfl) hF hH ?_
    clear hF hH; intro a w hF hH
    refine wl_end (by kernel_rfl) ?_
    refine then_n ?_
    refine wp_blockE (id := 0) (by kernel_rfl) ?_
    refine wp_loopE (by kernel_rfl) (fun msr a w => ∃ (k : Nat), msr = n - k ∧ (k ≤ n) ∧ (∀ j, j < k → bs.getD j 0 = cs.getD j 0) ∧ Fr 26 [⟨0, none, .slice A n c⟩, ⟨1, none, .slice B m d⟩, ⟨12, none, .int .i64 ((n : Nat) : Int)⟩, ⟨13, none, .int .i64 ((k : Nat) : Int)⟩] a ∧ Hp w0 [.view A n c 1 (byE bs), .view B m d 1 (byE cs)] [] w) _ ⟨0, rfl, Nat.zero_le _, fun j hj => absurd hj (by omega), frK hF [0, 1, 12, 13] (by kernel_rfl), hpKN hH [0, 1] [] (by kernel_rfl) (by kernel_rfl) (by kernel_rfl)⟩ ?_
    clear hF hH; rintro msr a w ⟨k, rfl, hk, he, hF, hH⟩
    refine wp_seqE (by kernel_rfl) ?_
    refine wp_regE (by kernel_rfl) ?_
    refine seg [.p] [0, 1, 12, 13, 14] (fun K => K [⟨0, none, .slice A n c⟩, ⟨1, none, .slice B m d⟩, ⟨12, none, .int .i64 ((n : Nat) : Int)⟩, ⟨13, none, .int .i64 ((k : Nat) : Int)⟩, ⟨14, none, .bool (decide (((k : Nat) : Int) < ((n : Nat) : Int)))⟩] []) (fun K => by kernel_rfl) hF hH ?_
    clear hF hH; intro a w hF hH
    refine wl_end (by kernel_rfl) ?_
    refine then_n ?_
    refine wp_seqE (by kernel_rfl) ?_
    refine wp_condE (b := decide (((k : Nat) : Int) < ((n : Nat) : Int))) (by kernel_rfl) (by kernel_rfl) hF (fun hb2 => ?_) (fun hb2 => ?_)
    · skip
      have hb2p := of_decide_eq_true hb2
      refine wp_skipE (by kernel_rfl) ?_
      refine then_n ?_
      refine wp_seqE (by kernel_rfl) ?_
      refine wp_blockE (id := 1) (by kernel_rfl) ?_
      refine wp_seqE (by kernel_rfl) ?_
      refine wp_regE (by kernel_rfl) ?_
      refine seg [.p, .p] [0, 1, 12, 13, 5] (fun K => K [⟨0, none, .slice A n c⟩, ⟨1, none, .slice B m d⟩, ⟨12, none, .int .i64 ((n : Nat) : Int)⟩, ⟨13, none, .int .i64 ((k : Nat) : Int)⟩, ⟨5, none, .int .i64 ((k : Nat) : Int)⟩] []) (fun K => by kernel_rfl) hF hH ?_
      clear hF hH; intro a w hF hH
      refine wl_end (by kernel_rfl) ?_
      refine then_n ?_
      refine wp_seqE (by kernel_rfl) ?_
      refine drawE (n := 9) (by kernel_rfl) (by kernel_rfl) (by kernel_rfl) (by kernel_rfl) [] [0, 1, 12, 13, 24] (.take 0 (.p) (.take 1 (.p) (.take 2 (.ia (.n 0) k) (.take 3 (.lv (.n 0) k 0) (.take 4 (.p) (.take 5 (.p) (.take 6 (.ia (.n 1) k) (.take 7 (.lv (.n 1) k 0) (.take 8 (.p) ((.done []))))))))))) (fun l rs => l = [⟨0, none, .slice A n c⟩, ⟨1, none, .slice B m d⟩, ⟨12, none, .int .i64 ((n : Nat) : Int)⟩, ⟨13, none, .int .i64 ((k : Nat) : Int)⟩, ⟨24, none, .bool (((bs.getD k 0).toNat : Int) != ((cs.getD k 0).toNat : Int))⟩] ∧ rs = []) (fun K => (((A) : Option Addr) = A ∧ (n : Nat) = n ∧ (1 : Nat) = 1 ∧ (((k : Nat) : Int) : Int) = ((k : Nat) : Int) ∧ k < n) ∧ ((A.getD nilA).add (k * 1) = ((A.getD nilA).add (k * 1)).add 0 ∧ k < n) ∧ (((B) : Option Addr) = B ∧ (m : Nat) = m ∧ (1 : Nat) = 1 ∧ (((k : Nat) : Int) : Int) = ((k : Nat) : Int) ∧ k < m) ∧ ((B.getD nilA).add (k * 1) = ((B.getD nilA).add (k * 1)).add 0 ∧ k < m) ∧ K [⟨0, none, .slice A n c⟩, ⟨1, none, .slice B m d⟩, ⟨12, none, .int .i64 ((n : Nat) : Int)⟩, ⟨13, none, .int .i64 ((k : Nat) : Int)⟩, ⟨24, none, .bool (((bs.getD k 0).toNat : Int) != ((cs.getD k 0).toNat : Int))⟩] []) (fun K => by kernel_rfl) hF hH (⟨⟨rfl, rfl, rfl, by omega, by omega⟩, ⟨⟨rfl, by omega⟩, ⟨⟨rfl, rfl, rfl, by omega, by omega⟩, ⟨⟨rfl, by omega⟩, ⟨rfl, rfl⟩⟩⟩⟩⟩) ?_
      clear hF hH; rintro l rs a w ⟨rfl, rfl⟩ hF hH
      refine then_n ?_
      refine wp_condE (b := ((bs.getD k 0).toNat : Int) != ((cs.getD k 0).toNat : Int)) (by kernel_rfl) (by kernel_rfl) hF (fun hb3 => ?_) (fun hb3 => ?_)
      · skip
        have hb3p := ne_of_bne hb3
        refine wp_seqE (by kernel_rfl) ?_
        refine wp_regE (by kernel_rfl) ?_
        refine seg [.p] [4] (fun K => K [⟨4, none, .bool false⟩] []) (fun K => by kernel_rfl) hF hH ?_
        clear hF hH; intro a w hF hH
        refine wl_end (by kernel_rfl) ?_
        refine then_n ?_
        refine wp_retE (by kernel_rfl) ?_
        refine block_ret ?_
        refine then_ret ?_
        refine then_ret ?_
        refine block_ret ?_
        refine then_ret ?_
        refine retE (vs := [.bool false]) (p := True) (v := .bool false) [] (by kernel_rfl) trivial (by kernel_rfl) hF hH ?_
        exact fin0 (by rw [eq_diff hl (hm.trans hnm.symm) (k := k) (by omega) hb3p]) hH
      · skip
        have hb3p := eq_of_bne_false hb3
        refine wp_skipE (by kernel_rfl) ?_
        refine block_n ?_
        refine then_n ?_
        refine wp_regE (by kernel_rfl) ?_
        refine seg [.pv (.int .i64 ((k + 1 : Nat) : Int)), .p] [0, 1, 12, 13] (fun K => (Value.int .i64 (IntKind.wrap .i64 (((k : Nat) : Int) + ((1 : Nat) : Int))) = .int .i64 ((k + 1 : Nat) : Int)) ∧ K [⟨0, none, .slice A n c⟩, ⟨1, none, .slice B m d⟩, ⟨12, none, .int .i64 ((n : Nat) : Int)⟩, ⟨13, none, .int .i64 ((k + 1 : Nat) : Int)⟩] []) (fun K => by kernel_rfl) hF hH ?_
        refine ⟨natadd (by omega), ?_⟩
        clear hF hH; intro a w hF hH
        refine wl_end (by kernel_rfl) ?_
        refine then_n ?_
        exact ⟨_, by omega, k + 1, rfl, by omega, eq_more he hb3p, frK hF [0, 1, 12, 13] (by kernel_rfl), hpKN hH [0, 1] [] (by kernel_rfl) (by kernel_rfl) (by kernel_rfl)⟩
    · skip
      have hb2p := of_decide_eq_false hb2
      refine wp_exitE (id := 0) (by kernel_rfl) ?_
      refine then_exit ?_
      refine then_exit ?_
      refine block_exit ?_
      refine then_n ?_
      refine wp_seqE (by kernel_rfl) ?_
      refine wp_regE (by kernel_rfl) ?_
      refine seg [.p] [4] (fun K => K [⟨4, none, .bool true⟩] []) (fun K => by kernel_rfl) hF hH ?_
      clear hF hH; intro a w hF hH
      refine wl_end (by kernel_rfl) ?_
      refine then_n ?_
      refine wp_retE (by kernel_rfl) ?_
      refine retE (vs := [.bool true]) (p := True) (v := .bool true) [] (by kernel_rfl) trivial (by kernel_rfl) hF hH ?_
      have hkn : k = n := by omega
      subst hkn
      exact fin0 (by rw [eq_all hl (by omega) he]) hH

theorem example_c  : CallOk Try.prog 23 [] [] (U := Option Addr) (fun u => .agg #[.int .i64 exB.g, .int .i64 exB.n, .int .u8 exB.e, .int .u8 exB.t, .int .i64 exB.i.h, .int .i64 exB.i.m, .int .i64 exB.i.s, .int .i64 exB.i.f, .bool exB.i.d, .int .i64 exB.o.h, .int .i64 exB.o.m, .int .i64 exB.o.s, .int .i64 exB.o.f, .bool exB.o.d, .int .i64 exB.r, .int .u8 exB.a, .bool exB.c, .slice u 1 1]) (fun u => [.view u 1 1 1 (byE exT)]) (fun _ => True) := by
  intro w0 hn
  refine enterE (N := 6) Try.func23 (by kernel_rfl) (by kernel_rfl) (by kernel_rfl) ?_
  intro a hF
  have hH := Hp.start w0 hn
  refine wp_seqE (by kernel_rfl) ?_
  refine wp_regE (by kernel_rfl) ?_
  refine seg [.al] [0] (fun K => ∀ g1, K [⟨0, none, .pointer (some ⟨g1, 0, none⟩)⟩] [.box g1 27 [.int .i64 0, .int .i64 0, .int .u8 0, .int .u8 0, .int .i64 0, .int .i64 0, .int .i64 0, .int .i64 0, .bool false, .int .i64 0, .int .i64 0, .int .i64 0, .int .i64 0, .bool false, .int .i64 0, .int .u8 0, .bool false, .slice none 0 0]]) (fun K => by kernel_rfl) hF hH ?_
  intro g1
  clear hF hH; intro a w hF hH
  refine wl_end (by kernel_rfl) ?_
  refine then_n ?_
  refine wp_seqE (by kernel_rfl) ?_
  refine wp_regE (by kernel_rfl) ?_
  refine seg [.p, .p, .bs, .ms 1, .p, .st 0] [0] (fun K => ∀ g2, ((g2 : Nat) = g2) ∧ ((g1 : Nat) = g1 ∧ (none : Option Nat) = none) ∧ K [⟨0, none, .pointer (some ⟨g1, 0, none⟩)⟩] [.box g1 27 [.int .i64 0, .int .i64 258, .int .u8 255, .int .u8 0, .int .i64 1, .int .i64 2, .int .i64 3, .int .i64 4, .bool false, .int .i64 1, .int .i64 2, .int .i64 5, .int .i64 0, .bool false, .int .i64 13, .int .u8 2, .bool false, .slice (some ⟨g2, 0, none⟩) 1 1], .row (some ⟨g2, 0, none⟩) 1 5 1 1 ([.int .u8 65])]) (fun K => by kernel_rfl) hF hH ?_
  intro g2
  refine ⟨rfl, ?_⟩
  refine ⟨⟨rfl, rfl⟩, ?_⟩
  clear hF hH; intro a w hF hH
  refine wl_end (by kernel_rfl) ?_
  refine then_n ?_
  refine wp_retE (by kernel_rfl) ?_
  refine retE (vs := [.agg #[.int .i64 0, .int .i64 258, .int .u8 255, .int .u8 0, .int .i64 1, .int .i64 2, .int .i64 3, .int .i64 4, .bool false, .int .i64 1, .int .i64 2, .int .i64 5, .int .i64 0, .bool false, .int .i64 13, .int .u8 2, .bool false, .slice (some ⟨g2, 0, none⟩) 1 1]]) (p := ((g1 : Nat) = g1 ∧ (none : Option Nat) = none) ∧ True) (v := .agg #[.int .i64 0, .int .i64 258, .int .u8 255, .int .u8 0, .int .i64 1, .int .i64 2, .int .i64 3, .int .i64 4, .bool false, .int .i64 1, .int .i64 2, .int .i64 5, .int .i64 0, .bool false, .int .i64 13, .int .u8 2, .bool false, .slice (some ⟨g2, 0, none⟩) 1 1]) [0] (by kernel_rfl) ⟨⟨rfl, rfl⟩, trivial⟩ (by kernel_rfl) hF hH ?_
  have hH := hH.rowView (k := 1) rfl (byE exT) (by_rowN exT rfl)
  exact ⟨some ⟨g2, 0, none⟩, rfl, hH.below, trivial, newOf hH (k := 1) rfl⟩

theorem short_c (b : Blk) (A : Option Addr) (n c : Nat) (hnc : n ≤ c) : CallOk Try.prog 9 [.agg #[.int .i64 b.g, .int .i64 b.n, .int .u8 b.e, .int .u8 b.t, .int .i64 b.i.h, .int .i64 b.i.m, .int .i64 b.i.s, .int .i64 b.i.f, .bool b.i.d, .int .i64 b.o.h, .int .i64 b.o.m, .int .i64 b.o.s, .int .i64 b.o.f, .bool b.o.d, .int .i64 b.r, .int .u8 b.a, .bool b.c, .slice A n c]] [] (U := Unit) (fun _ => .agg #[.int .i64 b.g, .int .i64 b.n, .int .u8 b.e, .int .u8 b.t, .int .i64 b.i.h, .int .i64 b.i.m, .int .i64 b.i.s, .int .i64 b.i.f, .bool b.i.d, .int .i64 b.o.h, .int .i64 b.o.m, .int .i64 b.o.s, .int .i64 b.o.f, .bool b.o.d, .int .i64 b.r, .int .u8 b.a, .bool b.c, .slice A (min n 200) c]) (fun _ => []) (fun _ => True) := by
  intro w0 hn
  refine enterE (N := 12) Try.func9 (by kernel_rfl) (by kernel_rfl) (by kernel_rfl) ?_
  intro a hF
  have hH := Hp.start w0 hn
  refine wp_seqE (by kernel_rfl) ?_
  refine wp_regE (by kernel_rfl) ?_
  refine seg [.bx, .al] [1, 2] (fun K => ∀ g1, ∀ g2, K [⟨1, none, .pointer (some ⟨g1, 0, none⟩)⟩, ⟨2, none, .pointer (some ⟨g2, 0, none⟩)⟩] [.box g1 27 [.int .i64 b.g, .int .i64 b.n, .int .u8 b.e, .int .u8 b.t, .int .i64 b.i.h, .int .i64 b.i.m, .int .i64 b.i.s, .int .i64 b.i.f, .bool b.i.d, .int .i64 b.o.h, .int .i64 b.o.m, .int .i64 b.o.s, .int .i64 b.o.f, .bool b.o.d, .int .i64 b.r, .int .u8 b.a, .bool b.c, .slice A n c], .box g2 27 [.int .i64 0, .int .i64 0, .int .u8 0, .int .u8 0, .int .i64 0, .int .i64 0, .int .i64 0, .int .i64 0, .bool false, .int .i64 0, .int .i64 0, .int .i64 0, .int .i64 0, .bool false, .int .i64 0, .int .u8 0, .bool false, .slice none 0 0]]) (fun K => by kernel_rfl) hF hH ?_
  intro g1
  intro g2
  clear hF hH; intro a w hF hH
  refine wl_end (by kernel_rfl) ?_
  refine then_n ?_
  refine wp_seqE (by kernel_rfl) ?_
  refine wp_regE (by kernel_rfl) ?_
  refine seg [.p, .ld (.r 0), .p, .ld (.r 0), .p, .pv (.int .i64 ((min n 200 : Nat) : Int)), .sh (min n 200), .p, .st 0] [1, 2] (fun K => ((g1 : Nat) = g1 ∧ (none : Option Nat) = none) ∧ ((g1 : Nat) = g1 ∧ (none : Option Nat) = none) ∧ (Value.int .i64 (if ((200 : Nat) : Int) < ((n : Nat) : Int) then ((200 : Nat) : Int) else ((n : Nat) : Int)) = .int .i64 ((min n 200 : Nat) : Int)) ∧ ((((min n 200 : Nat) : Int) : Int) = ((min n 200 : Nat) : Int) ∧ min n 200 ≤ c) ∧ ((g1 : Nat) = g1 ∧ (none : Option Nat) = none) ∧ K [⟨1, none, .pointer (some ⟨g1, 0, none⟩)⟩, ⟨2, none, .pointer (some ⟨g2, 0, none⟩)⟩] [.box g1 27 [.int .i64 b.g, .int .i64 b.n, .int .u8 b.e, .int .u8 b.t, .int .i64 b.i.h, .int .i64 b.i.m, .int .i64 b.i.s, .int .i64 b.i.f, .bool b.i.d, .int .i64 b.o.h, .int .i64 b.o.m, .int .i64 b.o.s, .int .i64 b.o.f, .bool b.o.d, .int .i64 b.r, .int .u8 b.a, .bool b.c, .slice A (min n 200) c], .box g2 27 [.int .i64 0, .int .i64 0, .int .u8 0, .int .u8 0, .int .i64 0, .int .i64 0, .int .i64 0, .int .i64 0, .bool false, .int .i64 0, .int .i64 0, .int .i64 0, .int .i64 0, .bool false, .int .i64 0, .int .u8 0, .bool false, .slice none 0 0]]) (fun K => by kernel_rfl) hF hH ?_
  refine ⟨⟨rfl, rfl⟩, ?_⟩
  refine ⟨⟨rfl, rfl⟩, ?_⟩
  refine ⟨natmin _ _, ?_⟩
  refine ⟨⟨by omega, by omega⟩, ?_⟩
  refine ⟨⟨rfl, rfl⟩, ?_⟩
  clear hF hH; intro a w hF hH
  refine wl_end (by kernel_rfl) ?_
  refine then_n ?_
  refine wp_seqE (by kernel_rfl) ?_
  refine wp_regE (by kernel_rfl) ?_
  refine seg [.ld (.r 0), .st 1] [2] (fun K => ((g1 : Nat) = g1 ∧ (none : Option Nat) = none) ∧ ((g2 : Nat) = g2 ∧ (none : Option Nat) = none) ∧ K [⟨2, none, .pointer (some ⟨g2, 0, none⟩)⟩] [.box g1 27 [.int .i64 b.g, .int .i64 b.n, .int .u8 b.e, .int .u8 b.t, .int .i64 b.i.h, .int .i64 b.i.m, .int .i64 b.i.s, .int .i64 b.i.f, .bool b.i.d, .int .i64 b.o.h, .int .i64 b.o.m, .int .i64 b.o.s, .int .i64 b.o.f, .bool b.o.d, .int .i64 b.r, .int .u8 b.a, .bool b.c, .slice A (min n 200) c], .box g2 27 [.int .i64 b.g, .int .i64 b.n, .int .u8 b.e, .int .u8 b.t, .int .i64 b.i.h, .int .i64 b.i.m, .int .i64 b.i.s, .int .i64 b.i.f, .bool b.i.d, .int .i64 b.o.h, .int .i64 b.o.m, .int .i64 b.o.s, .int .i64 b.o.f, .bool b.o.d, .int .i64 b.r, .int .u8 b.a, .bool b.c, .slice A (min n 200) c]]) (fun K => by kernel_rfl) hF hH ?_
  refine ⟨⟨rfl, rfl⟩, ?_⟩
  refine ⟨⟨rfl, rfl⟩, ?_⟩
  clear hF hH; intro a w hF hH
  refine wl_end (by kernel_rfl) ?_
  refine then_n ?_
  refine wp_retE (by kernel_rfl) ?_
  refine retE (vs := [.agg #[.int .i64 b.g, .int .i64 b.n, .int .u8 b.e, .int .u8 b.t, .int .i64 b.i.h, .int .i64 b.i.m, .int .i64 b.i.s, .int .i64 b.i.f, .bool b.i.d, .int .i64 b.o.h, .int .i64 b.o.m, .int .i64 b.o.s, .int .i64 b.o.f, .bool b.o.d, .int .i64 b.r, .int .u8 b.a, .bool b.c, .slice A (min n 200) c]]) (p := ((g2 : Nat) = g2 ∧ (none : Option Nat) = none) ∧ True) (v := .agg #[.int .i64 b.g, .int .i64 b.n, .int .u8 b.e, .int .u8 b.t, .int .i64 b.i.h, .int .i64 b.i.m, .int .i64 b.i.s, .int .i64 b.i.f, .bool b.i.d, .int .i64 b.o.h, .int .i64 b.o.m, .int .i64 b.o.s, .int .i64 b.o.f, .bool b.o.d, .int .i64 b.r, .int .u8 b.a, .bool b.c, .slice A (min n 200) c]) [1] (by kernel_rfl) ⟨⟨rfl, rfl⟩, trivial⟩ (by kernel_rfl) hF hH ?_
  exact fin0 rfl hH

end Go.Proofs.Ytcccboodapgejaa
