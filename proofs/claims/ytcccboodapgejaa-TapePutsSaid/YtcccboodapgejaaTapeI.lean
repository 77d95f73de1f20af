/-
  The reference's Put; same; Equal of the package bytes: walked once each.
-/
import Derived.Test.YtcccboodapgejaaTapeH
namespace Go.Proofs.Ytcccboodapgejaa
open Go.Sym

theorem refPut_c (b : Blk) (A : Option Addr) (n c : Nat) (text : List UInt8) (hl : text.length = n) : CallOk Try.prog 19 [.agg #[.int .i64 b.g, .int .i64 b.n, .int .u8 b.e, .int .u8 b.t, .int .i64 b.i.h, .int .i64 b.i.m, .int .i64 b.i.s, .int .i64 b.i.f, .bool b.i.d, .int .i64 b.o.h, .int .i64 b.o.m, .int .i64 b.o.s, .int .i64 b.o.f, .bool b.o.d, .int .i64 b.r, .int .u8 b.a, .bool b.c, .slice A n c]] [.view A n c 1 (byE text)] (U := Option Addr × Nat) (fun u => .tuple #[.slice u.1 (putN b text) u.2, .int .i64 (checkV b text)]) (fun u => [.row u.1 u.2 5 1 (putN b text) (putC b text)]) (fun _ => True) := by
  intro w0 hn
  refine enterE (N := 79) Try.func19 (by kernel_rfl) (by kernel_rfl) (by kernel_rfl) ?_
  intro a hF
  have hH := Hp.start w0 hn
  refine wp_seqE (by kernel_rfl) ?_
  refine wp_regE (by kernel_rfl) ?_
  refine seg [.bx, .p, .p] [1] (fun K => ∀ g1, K [⟨1, none, .pointer (some ⟨g1, 0, none⟩)⟩] [.box g1 27 [.int .i64 b.g, .int .i64 b.n, .int .u8 b.e, .int .u8 b.t, .int .i64 b.i.h, .int .i64 b.i.m, .int .i64 b.i.s, .int .i64 b.i.f, .bool b.i.d, .int .i64 b.o.h, .int .i64 b.o.m, .int .i64 b.o.s, .int .i64 b.o.f, .bool b.o.d, .int .i64 b.r, .int .u8 b.a, .bool b.c, .slice A n c]]) (fun K => by kernel_rfl) hF hH ?_
  intro g1
  clear hF hH; intro a w hF hH
  refine wl_end (by kernel_rfl) ?_
  refine then_n ?_
  refine wp_seqE (by kernel_rfl) ?_
  refine wp_seqE (by kernel_rfl) ?_
  refine wp_regE (by kernel_rfl) ?_
  refine seg [.ld (.r 0)] [1, 7] (fun K => ((g1 : Nat) = g1 ∧ (none : Option Nat) = none) ∧ K [⟨1, none, .pointer (some ⟨g1, 0, none⟩)⟩, ⟨7, none, .agg #[.int .i64 b.g, .int .i64 b.n, .int .u8 b.e, .int .u8 b.t, .int .i64 b.i.h, .int .i64 b.i.m, .int .i64 b.i.s, .int .i64 b.i.f, .bool b.i.d, .int .i64 b.o.h, .int .i64 b.o.m, .int .i64 b.o.s, .int .i64 b.o.f, .bool b.o.d, .int .i64 b.r, .int .u8 b.a, .bool b.c, .slice A n c]⟩] [.box g1 27 [.int .i64 b.g, .int .i64 b.n, .int .u8 b.e, .int .u8 b.t, .int .i64 b.i.h, .int .i64 b.i.m, .int .i64 b.i.s, .int .i64 b.i.f, .bool b.i.d, .int .i64 b.o.h, .int .i64 b.o.m, .int .i64 b.o.s, .int .i64 b.o.f, .bool b.o.d, .int .i64 b.r, .int .u8 b.a, .bool b.c, .slice A n c]]) (fun K => by kernel_rfl) hF hH ?_
  refine ⟨⟨rfl, rfl⟩, ?_⟩
  clear hF hH; intro a w hF hH
  refine callE (d := 8) (refCheck_c b A n c text (by first | rfl | assumption | (simp; done) | (simp; omega))) [.n 0] (by kernel_rfl) (by kernel_rfl) hF hH ?_
  clear hF hH; rintro ⟨⟩ - a w hF hH
  refine seg [.p] [1, 4] (fun K => K [⟨1, none, .pointer (some ⟨g1, 0, none⟩)⟩, ⟨4, none, .int .i64 (checkV b text)⟩] [.box g1 27 [.int .i64 b.g, .int .i64 b.n, .int .u8 b.e, .int .u8 b.t, .int .i64 b.i.h, .int .i64 b.i.m, .int .i64 b.i.s, .int .i64 b.i.f, .bool b.i.d, .int .i64 b.o.h, .int .i64 b.o.m, .int .i64 b.o.s, .int .i64 b.o.f, .bool b.o.d, .int .i64 b.r, .int .u8 b.a, .bool b.c, .slice A n c]]) (fun K => by kernel_rfl) hF hH ?_
  clear hF hH; intro a w hF hH
  refine wl_end (by kernel_rfl) ?_
  refine then_n ?_
  refine wp_seqE (by kernel_rfl) ?_
  refine wp_regE (by kernel_rfl) ?_
  refine seg [.p, .p] [1, 4, 10] (fun K => K [⟨1, none, .pointer (some ⟨g1, 0, none⟩)⟩, ⟨4, none, .int .i64 (checkV b text)⟩, ⟨10, none, .bool ((checkV b text) != 0)⟩] [.box g1 27 [.int .i64 b.g, .int .i64 b.n, .int .u8 b.e, .int .u8 b.t, .int .i64 b.i.h, .int .i64 b.i.m, .int .i64 b.i.s, .int .i64 b.i.f, .bool b.i.d, .int .i64 b.o.h, .int .i64 b.o.m, .int .i64 b.o.s, .int .i64 b.o.f, .bool b.o.d, .int .i64 b.r, .int .u8 b.a, .bool b.c, .slice A n c]]) (fun K => by kernel_rfl) hF hH ?_
  clear hF hH; intro a w hF hH
  refine wl_end (by kernel_rfl) ?_
  refine then_n ?_
  refine wp_condE (b := (checkV b text) != 0) (by kernel_rfl) (by kernel_rfl) hF (fun hb1 => ?_) (fun hb1 => ?_)
  · skip
    have hb1p := ne_of_bne hb1
    refine wp_seqE (by kernel_rfl) ?_
    refine wp_regE (by kernel_rfl) ?_
    refine seg [.p, .p, .p] [2, 3] (fun K => K [⟨2, none, .slice none 0 0⟩, ⟨3, none, .int .i64 (checkV b text)⟩] [.box g1 27 [.int .i64 b.g, .int .i64 b.n, .int .u8 b.e, .int .u8 b.t, .int .i64 b.i.h, .int .i64 b.i.m, .int .i64 b.i.s, .int .i64 b.i.f, .bool b.i.d, .int .i64 b.o.h, .int .i64 b.o.m, .int .i64 b.o.s, .int .i64 b.o.f, .bool b.o.d, .int .i64 b.r, .int .u8 b.a, .bool b.c, .slice A n c]]) (fun K => by kernel_rfl) hF hH ?_
    clear hF hH; intro a w hF hH
    refine wl_end (by kernel_rfl) ?_
    refine then_n ?_
    refine wp_retE (by kernel_rfl) ?_
    refine then_ret ?_
    refine retE (vs := [.slice none 0 0, .int .i64 (checkV b text)]) (p := True) (v := .tuple #[.slice none 0 0, .int .i64 (checkV b text)]) [] (by kernel_rfl) trivial (by kernel_rfl) hF hH ?_
    refine ⟨(none, 0), by simp only [putN, if_neg hb1p], hH.below, trivial, ?_⟩
    simp only [putN, putC, if_neg hb1p]
    exact newRow1 (by simp [rowOk]) (fun _ h => by cases h)
  · skip
    have hb1p := eq_of_bne_false hb1
    obtain ⟨hbg, hbn, _, _, _, _, _, hbr, hba, hle, _⟩ := checkV_bounds hb1p
    have e0 : (fillB text 112 143).length = 112 := by unfold fillB; rw [List.length_append, List.length_replicate, hl]; omega
    refine wp_skipE (by kernel_rfl) ?_
    refine then_n ?_
    refine wp_seqE (by kernel_rfl) ?_
    refine wp_regE (by kernel_rfl) ?_
    refine seg [.p, .ld (.r 0), .pv (.int .u8 (b.g % 256)), .p, .ld (.r 0), .pv (.int .i64 (b.n % 256)), .pv (.int .u8 ((b.n % 256) % 256)), .p, .ld (.r 0), .pv (.int .i64 (b.n / 256)), .pv (.int .u8 ((b.n / 256) % 256)), .p, .ld (.r 0), .p, .ld (.r 0), .bs, .p] [1, 5] (fun K => ((g1 : Nat) = g1 ∧ (none : Option Nat) = none) ∧ (Value.int .u8 (IntKind.wrap .u8 b.g) = .int .u8 (b.g % 256)) ∧ ((g1 : Nat) = g1 ∧ (none : Option Nat) = none) ∧ (Value.int .i64 (Int.tmod b.n 256) = .int .i64 (b.n % 256)) ∧ (Value.int .u8 (IntKind.wrap .u8 (b.n % 256)) = .int .u8 ((b.n % 256) % 256)) ∧ ((g1 : Nat) = g1 ∧ (none : Option Nat) = none) ∧ (Value.int .i64 (IntKind.wrap .i64 (Int.tdiv b.n 256)) = .int .i64 (b.n / 256)) ∧ (Value.int .u8 (IntKind.wrap .u8 (b.n / 256)) = .int .u8 ((b.n / 256) % 256)) ∧ ((g1 : Nat) = g1 ∧ (none : Option Nat) = none) ∧ ((g1 : Nat) = g1 ∧ (none : Option Nat) = none) ∧ ∀ g2, K [⟨1, none, .pointer (some ⟨g1, 0, none⟩)⟩, ⟨5, none, .slice (some ⟨g2, 0, none⟩) 5 5⟩] [.box g1 27 [.int .i64 b.g, .int .i64 b.n, .int .u8 b.e, .int .u8 b.t, .int .i64 b.i.h, .int .i64 b.i.m, .int .i64 b.i.s, .int .i64 b.i.f, .bool b.i.d, .int .i64 b.o.h, .int .i64 b.o.m, .int .i64 b.o.s, .int .i64 b.o.f, .bool b.o.d, .int .i64 b.r, .int .u8 b.a, .bool b.c, .slice A n c], .box g2 5 [.int .u8 (b.g % 256), .int .u8 ((b.n % 256) % 256), .int .u8 ((b.n / 256) % 256), .int .u8 b.e, .int .u8 b.t]]) (fun K => by kernel_rfl) hF hH ?_
    refine ⟨⟨rfl, rfl⟩, ?_⟩
    refine ⟨wru8 _, ?_⟩
    refine ⟨⟨rfl, rfl⟩, ?_⟩
    refine ⟨rem64 (by omega) (by omega), ?_⟩
    refine ⟨wru8 _, ?_⟩
    refine ⟨⟨rfl, rfl⟩, ?_⟩
    refine ⟨quo64 (by omega) (by omega) (by omega), ?_⟩
    refine ⟨wru8 _, ?_⟩
    refine ⟨⟨rfl, rfl⟩, ?_⟩
    refine ⟨⟨rfl, rfl⟩, ?_⟩
    intro g2
    clear hF hH; intro a w hF hH
    refine wl_end (by kernel_rfl) ?_
    refine then_n ?_
    refine wp_seqE (by kernel_rfl) ?_
    refine wp_regE (by kernel_rfl) ?_
    refine seg [.p, .p, .p, .ld (.r 0), .pv (.int .u8 (b.i.h % 256)), .p, .p, .ld (.r 0), .pv (.int .u8 (b.i.m % 256)), .p, .p, .ld (.r 0), .pv (.int .u8 (b.i.s % 256)), .p, .p, .ld (.r 0), .pv (.int .u8 (b.i.f % 256)), .p, .p, .ld (.r 0), .pv (.int .u8 (b.o.h % 256)), .p, .p, .ld (.r 0), .pv (.int .u8 (b.o.m % 256)), .p, .p, .ld (.r 0), .pv (.int .u8 (b.o.s % 256)), .p, .p, .ld (.r 0), .pv (.int .u8 (b.o.f % 256)), .bs] [1, 5, 28, 61] (fun K => ((g1 : Nat) = g1 ∧ (none : Option Nat) = none) ∧ (Value.int .u8 (IntKind.wrap .u8 b.i.h) = .int .u8 (b.i.h % 256)) ∧ ((g1 : Nat) = g1 ∧ (none : Option Nat) = none) ∧ (Value.int .u8 (IntKind.wrap .u8 b.i.m) = .int .u8 (b.i.m % 256)) ∧ ((g1 : Nat) = g1 ∧ (none : Option Nat) = none) ∧ (Value.int .u8 (IntKind.wrap .u8 b.i.s) = .int .u8 (b.i.s % 256)) ∧ ((g1 : Nat) = g1 ∧ (none : Option Nat) = none) ∧ (Value.int .u8 (IntKind.wrap .u8 b.i.f) = .int .u8 (b.i.f % 256)) ∧ ((g1 : Nat) = g1 ∧ (none : Option Nat) = none) ∧ (Value.int .u8 (IntKind.wrap .u8 b.o.h) = .int .u8 (b.o.h % 256)) ∧ ((g1 : Nat) = g1 ∧ (none : Option Nat) = none) ∧ (Value.int .u8 (IntKind.wrap .u8 b.o.m) = .int .u8 (b.o.m % 256)) ∧ ((g1 : Nat) = g1 ∧ (none : Option Nat) = none) ∧ (Value.int .u8 (IntKind.wrap .u8 b.o.s) = .int .u8 (b.o.s % 256)) ∧ ((g1 : Nat) = g1 ∧ (none : Option Nat) = none) ∧ (Value.int .u8 (IntKind.wrap .u8 b.o.f) = .int .u8 (b.o.f % 256)) ∧ ∀ g3, K [⟨1, none, .pointer (some ⟨g1, 0, none⟩)⟩, ⟨5, none, .slice (some ⟨g2, 0, none⟩) 5 5⟩, ⟨28, none, .slice (some ⟨g2, 0, none⟩) 5 5⟩, ⟨61, none, .slice (some ⟨g3, 0, none⟩) 8 8⟩] [.box g1 27 [.int .i64 b.g, .int .i64 b.n, .int .u8 b.e, .int .u8 b.t, .int .i64 b.i.h, .int .i64 b.i.m, .int .i64 b.i.s, .int .i64 b.i.f, .bool b.i.d, .int .i64 b.o.h, .int .i64 b.o.m, .int .i64 b.o.s, .int .i64 b.o.f, .bool b.o.d, .int .i64 b.r, .int .u8 b.a, .bool b.c, .slice A n c], .box g2 5 [.int .u8 (b.g % 256), .int .u8 ((b.n % 256) % 256), .int .u8 ((b.n / 256) % 256), .int .u8 b.e, .int .u8 b.t], .box g3 5 [.int .u8 (b.i.h % 256), .int .u8 (b.i.m % 256), .int .u8 (b.i.s % 256), .int .u8 (b.i.f % 256), .int .u8 (b.o.h % 256), .int .u8 (b.o.m % 256), .int .u8 (b.o.s % 256), .int .u8 (b.o.f % 256)]]) (fun K => by kernel_rfl) hF hH ?_
    refine ⟨⟨rfl, rfl⟩, ?_⟩
    refine ⟨wru8 _, ?_⟩
    refine ⟨⟨rfl, rfl⟩, ?_⟩
    refine ⟨wru8 _, ?_⟩
    refine ⟨⟨rfl, rfl⟩, ?_⟩
    refine ⟨wru8 _, ?_⟩
    refine ⟨⟨rfl, rfl⟩, ?_⟩
    refine ⟨wru8 _, ?_⟩
    refine ⟨⟨rfl, rfl⟩, ?_⟩
    refine ⟨wru8 _, ?_⟩
    refine ⟨⟨rfl, rfl⟩, ?_⟩
    refine ⟨wru8 _, ?_⟩
    refine ⟨⟨rfl, rfl⟩, ?_⟩
    refine ⟨wru8 _, ?_⟩
    refine ⟨⟨rfl, rfl⟩, ?_⟩
    refine ⟨wru8 _, ?_⟩
    intro g3
    clear hF hH; intro a w hF hH
    have hH := hH.boxRow (k := 1) rfl 1 5 5 (by omega) (by unfold maxLen; omega) rfl
    refine seg [.ap 1 (.r 2) ([.int .u8 (b.i.h % 256), .int .u8 (b.i.m % 256), .int .u8 (b.i.s % 256), .int .u8 (b.i.f % 256), .int .u8 (b.o.h % 256), .int .u8 (b.o.m % 256), .int .u8 (b.o.s % 256), .int .u8 (b.o.f % 256)]), .p] [1, 5] (fun K => (((some ⟨g2, 0, none⟩) : Option Addr) = (some ⟨g2, 0, none⟩) ∧ (5 : Nat) = 5 ∧ (5 : Nat) = 5 ∧ srcP (.box g3 5 [.int .u8 (b.i.h % 256), .int .u8 (b.i.m % 256), .int .u8 (b.i.s % 256), .int .u8 (b.i.f % 256), .int .u8 (b.o.h % 256), .int .u8 (b.o.m % 256), .int .u8 (b.o.s % 256), .int .u8 (b.o.f % 256)]) (some ⟨g3, 0, none⟩) 8 1 ([.int .u8 (b.i.h % 256), .int .u8 (b.i.m % 256), .int .u8 (b.i.s % 256), .int .u8 (b.i.f % 256), .int .u8 (b.o.h % 256), .int .u8 (b.o.m % 256), .int .u8 (b.o.s % 256), .int .u8 (b.o.f % 256)]) ∧ (∀ u ∈ ([.int .u8 (b.i.h % 256), .int .u8 (b.i.m % 256), .int .u8 (b.i.s % 256), .int .u8 (b.i.f % 256), .int .u8 (b.o.h % 256), .int .u8 (b.o.m % 256), .int .u8 (b.o.s % 256), .int .u8 (b.o.f % 256)] : List Value), u.oneCell' = true) ∧ 5 + 8 ≤ maxLen ∧ (5 + 8) * 1 ≤ 140737488355328) ∧ ∀ A1 c1, K [⟨1, none, .pointer (some ⟨g1, 0, none⟩)⟩, ⟨5, none, .slice A1 (5 + 8) c1⟩] [.box g1 27 [.int .i64 b.g, .int .i64 b.n, .int .u8 b.e, .int .u8 b.t, .int .i64 b.i.h, .int .i64 b.i.m, .int .i64 b.i.s, .int .i64 b.i.f, .bool b.i.d, .int .i64 b.o.h, .int .i64 b.o.m, .int .i64 b.o.s, .int .i64 b.o.f, .bool b.o.d, .int .i64 b.r, .int .u8 b.a, .bool b.c, .slice A n c], .row A1 c1 5 1 (5 + 8) (([.int .u8 (b.g % 256), .int .u8 ((b.n % 256) % 256), .int .u8 ((b.n / 256) % 256), .int .u8 b.e, .int .u8 b.t]) ++ ([.int .u8 (b.i.h % 256), .int .u8 (b.i.m % 256), .int .u8 (b.i.s % 256), .int .u8 (b.i.f % 256), .int .u8 (b.o.h % 256), .int .u8 (b.o.m % 256), .int .u8 (b.o.s % 256), .int .u8 (b.o.f % 256)])), .box g3 5 [.int .u8 (b.i.h % 256), .int .u8 (b.i.m % 256), .int .u8 (b.i.s % 256), .int .u8 (b.i.f % 256), .int .u8 (b.o.h % 256), .int .u8 (b.o.m % 256), .int .u8 (b.o.s % 256), .int .u8 (b.o.f % 256)]]) (fun K => by kernel_rfl) hF hH ?_
    refine ⟨⟨rfl, rfl, rfl, ⟨rfl, rfl, rfl⟩, (by intro u hu; simp only [List.mem_cons, List.not_mem_nil, or_false] at hu; rcases hu with rfl | rfl | rfl | rfl | rfl | rfl | rfl | rfl <;> rfl), by (unfold maxLen; omega), by omega⟩, ?_⟩
    intro A1 c1
    clear hF hH; intro a w hF hH
    refine wl_end (by kernel_rfl) ?_
    refine then_n ?_
    refine wp_seqE (by kernel_rfl) ?_
    refine wp_regE (by kernel_rfl) ?_
    refine seg [.p] [1, 5, 6] (fun K => K [⟨1, none, .pointer (some ⟨g1, 0, none⟩)⟩, ⟨5, none, .slice A1 (5 + 8) c1⟩, ⟨6, none, .int .u8 0⟩] [.box g1 27 [.int .i64 b.g, .int .i64 b.n, .int .u8 b.e, .int .u8 b.t, .int .i64 b.i.h, .int .i64 b.i.m, .int .i64 b.i.s, .int .i64 b.i.f, .bool b.i.d, .int .i64 b.o.h, .int .i64 b.o.m, .int .i64 b.o.s, .int .i64 b.o.f, .bool b.o.d, .int .i64 b.r, .int .u8 b.a, .bool b.c, .slice A n c], .row A1 c1 5 1 (5 + 8) (([.int .u8 (b.g % 256), .int .u8 ((b.n % 256) % 256), .int .u8 ((b.n / 256) % 256), .int .u8 b.e, .int .u8 b.t]) ++ ([.int .u8 (b.i.h % 256), .int .u8 (b.i.m % 256), .int .u8 (b.i.s % 256), .int .u8 (b.i.f % 256), .int .u8 (b.o.h % 256), .int .u8 (b.o.m % 256), .int .u8 (b.o.s % 256), .int .u8 (b.o.f % 256)])), .box g3 5 [.int .u8 (b.i.h % 256), .int .u8 (b.i.m % 256), .int .u8 (b.i.s % 256), .int .u8 (b.i.f % 256), .int .u8 (b.o.h % 256), .int .u8 (b.o.m % 256), .int .u8 (b.o.s % 256), .int .u8 (b.o.f % 256)]]) (fun K => by kernel_rfl) hF hH ?_
    clear hF hH; intro a w hF hH
    refine wl_end (by kernel_rfl) ?_
    refine then_n ?_
    refine wp_seqE (by kernel_rfl) ?_
    refine wp_seqE (by kernel_rfl) ?_
    refine wp_regE (by kernel_rfl) ?_
    refine seg [.p, .ld (.r 0)] [1, 5, 6, 64] (fun K => ((g1 : Nat) = g1 ∧ (none : Option Nat) = none) ∧ K [⟨1, none, .pointer (some ⟨g1, 0, none⟩)⟩, ⟨5, none, .slice A1 (5 + 8) c1⟩, ⟨6, none, .int .u8 0⟩, ⟨64, none, .bool b.c⟩] [.box g1 27 [.int .i64 b.g, .int .i64 b.n, .int .u8 b.e, .int .u8 b.t, .int .i64 b.i.h, .int .i64 b.i.m, .int .i64 b.i.s, .int .i64 b.i.f, .bool b.i.d, .int .i64 b.o.h, .int .i64 b.o.m, .int .i64 b.o.s, .int .i64 b.o.f, .bool b.o.d, .int .i64 b.r, .int .u8 b.a, .bool b.c, .slice A n c], .row A1 c1 5 1 (5 + 8) (([.int .u8 (b.g % 256), .int .u8 ((b.n % 256) % 256), .int .u8 ((b.n / 256) % 256), .int .u8 b.e, .int .u8 b.t]) ++ ([.int .u8 (b.i.h % 256), .int .u8 (b.i.m % 256), .int .u8 (b.i.s % 256), .int .u8 (b.i.f % 256), .int .u8 (b.o.h % 256), .int .u8 (b.o.m % 256), .int .u8 (b.o.s % 256), .int .u8 (b.o.f % 256)])), .box g3 5 [.int .u8 (b.i.h % 256), .int .u8 (b.i.m % 256), .int .u8 (b.i.s % 256), .int .u8 (b.i.f % 256), .int .u8 (b.o.h % 256), .int .u8 (b.o.m % 256), .int .u8 (b.o.s % 256), .int .u8 (b.o.f % 256)]]) (fun K => by kernel_rfl) hF hH ?_
    refine ⟨⟨rfl, rfl⟩, ?_⟩
    clear hF hH; intro a w hF hH
    refine wl_end (by kernel_rfl) ?_
    refine then_n ?_
    refine wp_condE (b := b.c) (by kernel_rfl) (by kernel_rfl) hF (fun hb2 => ?_) (fun hb2 => ?_)
    · skip
      refine wp_regE (by kernel_rfl) ?_
      refine seg [.p] [1, 5, 6] (fun K => K [⟨1, none, .pointer (some ⟨g1, 0, none⟩)⟩, ⟨5, none, .slice A1 (5 + 8) c1⟩, ⟨6, none, .int .u8 1⟩] [.box g1 27 [.int .i64 b.g, .int .i64 b.n, .int .u8 b.e, .int .u8 b.t, .int .i64 b.i.h, .int .i64 b.i.m, .int .i64 b.i.s, .int .i64 b.i.f, .bool b.i.d, .int .i64 b.o.h, .int .i64 b.o.m, .int .i64 b.o.s, .int .i64 b.o.f, .bool b.o.d, .int .i64 b.r, .int .u8 b.a, .bool b.c, .slice A n c], .row A1 c1 5 1 (5 + 8) (([.int .u8 (b.g % 256), .int .u8 ((b.n % 256) % 256), .int .u8 ((b.n / 256) % 256), .int .u8 b.e, .int .u8 b.t]) ++ ([.int .u8 (b.i.h % 256), .int .u8 (b.i.m % 256), .int .u8 (b.i.s % 256), .int .u8 (b.i.f % 256), .int .u8 (b.o.h % 256), .int .u8 (b.o.m % 256), .int .u8 (b.o.s % 256), .int .u8 (b.o.f % 256)])), .box g3 5 [.int .u8 (b.i.h % 256), .int .u8 (b.i.m % 256), .int .u8 (b.i.s % 256), .int .u8 (b.i.f % 256), .int .u8 (b.o.h % 256), .int .u8 (b.o.m % 256), .int .u8 (b.o.s % 256), .int .u8 (b.o.f % 256)]]) (fun K => by kernel_rfl) hF hH ?_
      clear hF hH; intro a w hF hH
      refine wl_end (by kernel_rfl) ?_
      refine then_n ?_
      refine wp_seqE (by kernel_rfl) ?_
      refine wp_regE (by kernel_rfl) ?_
      refine seg [.p, .p, .ld (.r 0), .pv (.int .u8 (b.r % 256)), .p, .ld (.r 0), .p, .bs, .ap 1 (.r 3) ([.int .u8 (b.r % 256), .int .u8 b.a, .int .u8 1]), .p] [1, 5] (fun K => ((g1 : Nat) = g1 ∧ (none : Option Nat) = none) ∧ (Value.int .u8 (IntKind.wrap .u8 b.r) = .int .u8 (b.r % 256)) ∧ ((g1 : Nat) = g1 ∧ (none : Option Nat) = none) ∧ ∀ g4, (((A1) : Option Addr) = A1 ∧ (c1 : Nat) = c1 ∧ (5 + 8 : Nat) = 5 + 8 ∧ srcP (.box g4 5 [.int .u8 (b.r % 256), .int .u8 b.a, .int .u8 1]) (some ⟨g4, 0, none⟩) 3 1 ([.int .u8 (b.r % 256), .int .u8 b.a, .int .u8 1]) ∧ (∀ u ∈ ([.int .u8 (b.r % 256), .int .u8 b.a, .int .u8 1] : List Value), u.oneCell' = true) ∧ (5 + 8) + 3 ≤ maxLen ∧ ((5 + 8) + 3) * 1 ≤ 140737488355328) ∧ ∀ A2 c2, K [⟨1, none, .pointer (some ⟨g1, 0, none⟩)⟩, ⟨5, none, .slice A2 ((5 + 8) + 3) c2⟩] [.box g1 27 [.int .i64 b.g, .int .i64 b.n, .int .u8 b.e, .int .u8 b.t, .int .i64 b.i.h, .int .i64 b.i.m, .int .i64 b.i.s, .int .i64 b.i.f, .bool b.i.d, .int .i64 b.o.h, .int .i64 b.o.m, .int .i64 b.o.s, .int .i64 b.o.f, .bool b.o.d, .int .i64 b.r, .int .u8 b.a, .bool b.c, .slice A n c], .row A2 c2 5 1 ((5 + 8) + 3) ((([.int .u8 (b.g % 256), .int .u8 ((b.n % 256) % 256), .int .u8 ((b.n / 256) % 256), .int .u8 b.e, .int .u8 b.t]) ++ ([.int .u8 (b.i.h % 256), .int .u8 (b.i.m % 256), .int .u8 (b.i.s % 256), .int .u8 (b.i.f % 256), .int .u8 (b.o.h % 256), .int .u8 (b.o.m % 256), .int .u8 (b.o.s % 256), .int .u8 (b.o.f % 256)])) ++ ([.int .u8 (b.r % 256), .int .u8 b.a, .int .u8 1])), .box g3 5 [.int .u8 (b.i.h % 256), .int .u8 (b.i.m % 256), .int .u8 (b.i.s % 256), .int .u8 (b.i.f % 256), .int .u8 (b.o.h % 256), .int .u8 (b.o.m % 256), .int .u8 (b.o.s % 256), .int .u8 (b.o.f % 256)], .box g4 5 [.int .u8 (b.r % 256), .int .u8 b.a, .int .u8 1]]) (fun K => by kernel_rfl) hF hH ?_
      refine ⟨⟨rfl, rfl⟩, ?_⟩
      refine ⟨wru8 _, ?_⟩
      refine ⟨⟨rfl, rfl⟩, ?_⟩
      intro g4
      refine ⟨⟨rfl, rfl, rfl, ⟨rfl, rfl, rfl⟩, (by intro u hu; simp only [List.mem_cons, List.not_mem_nil, or_false] at hu; rcases hu with rfl | rfl | rfl <;> rfl), by (unfold maxLen; omega), by omega⟩, ?_⟩
      intro A2 c2
      clear hF hH; intro a w hF hH
      refine wl_end (by kernel_rfl) ?_
      refine then_n ?_
      refine wp_seqE (by kernel_rfl) ?_
      refine wp_regE (by kernel_rfl) ?_
      refine seg [.p, .p, .ld (.r 0)] [74, 76] (fun K => ((g1 : Nat) = g1 ∧ (none : Option Nat) = none) ∧ K [⟨74, none, .slice A2 ((5 + 8) + 3) c2⟩, ⟨76, none, .slice A n c⟩] [.box g1 27 [.int .i64 b.g, .int .i64 b.n, .int .u8 b.e, .int .u8 b.t, .int .i64 b.i.h, .int .i64 b.i.m, .int .i64 b.i.s, .int .i64 b.i.f, .bool b.i.d, .int .i64 b.o.h, .int .i64 b.o.m, .int .i64 b.o.s, .int .i64 b.o.f, .bool b.o.d, .int .i64 b.r, .int .u8 b.a, .bool b.c, .slice A n c], .row A2 c2 5 1 ((5 + 8) + 3) ((([.int .u8 (b.g % 256), .int .u8 ((b.n % 256) % 256), .int .u8 ((b.n / 256) % 256), .int .u8 b.e, .int .u8 b.t]) ++ ([.int .u8 (b.i.h % 256), .int .u8 (b.i.m % 256), .int .u8 (b.i.s % 256), .int .u8 (b.i.f % 256), .int .u8 (b.o.h % 256), .int .u8 (b.o.m % 256), .int .u8 (b.o.s % 256), .int .u8 (b.o.f % 256)])) ++ ([.int .u8 (b.r % 256), .int .u8 b.a, .int .u8 1])), .box g3 5 [.int .u8 (b.i.h % 256), .int .u8 (b.i.m % 256), .int .u8 (b.i.s % 256), .int .u8 (b.i.f % 256), .int .u8 (b.o.h % 256), .int .u8 (b.o.m % 256), .int .u8 (b.o.s % 256), .int .u8 (b.o.f % 256)], .box g4 5 [.int .u8 (b.r % 256), .int .u8 b.a, .int .u8 1]]) (fun K => by kernel_rfl) hF hH ?_
      refine ⟨⟨rfl, rfl⟩, ?_⟩
      clear hF hH; intro a w hF hH
      refine callE (d := 77) (fill_c A n c text (by first | rfl | assumption | (simp; done) | (simp; omega)) 143 112 (by omega)) [.n 0] (by kernel_rfl) (by kernel_rfl) hF hH ?_
      clear hF hH; rintro ⟨A3, c3⟩ - a w hF hH
      refine seg [.ap 1 (.r 4) (byC (fillB text 112 143)), .p, .p] [2, 3] (fun K => (((A2) : Option Addr) = A2 ∧ (c2 : Nat) = c2 ∧ ((5 + 8) + 3 : Nat) = (5 + 8) + 3 ∧ srcP (.row A3 c3 5 1 ((fillB text 112 143).length) (byC (fillB text 112 143))) A3 ((fillB text 112 143).length) 1 (byC (fillB text 112 143)) ∧ (∀ u ∈ (byC (fillB text 112 143) : List Value), u.oneCell' = true) ∧ ((5 + 8) + 3) + ((fillB text 112 143).length) ≤ maxLen ∧ (((5 + 8) + 3) + ((fillB text 112 143).length)) * 1 ≤ 140737488355328) ∧ ∀ A4 c4, K [⟨2, none, .slice A4 (((5 + 8) + 3) + ((fillB text 112 143).length)) c4⟩, ⟨3, none, .int .i64 0⟩] [.box g1 27 [.int .i64 b.g, .int .i64 b.n, .int .u8 b.e, .int .u8 b.t, .int .i64 b.i.h, .int .i64 b.i.m, .int .i64 b.i.s, .int .i64 b.i.f, .bool b.i.d, .int .i64 b.o.h, .int .i64 b.o.m, .int .i64 b.o.s, .int .i64 b.o.f, .bool b.o.d, .int .i64 b.r, .int .u8 b.a, .bool b.c, .slice A n c], .row A4 c4 5 1 (((5 + 8) + 3) + ((fillB text 112 143).length)) (((([.int .u8 (b.g % 256), .int .u8 ((b.n % 256) % 256), .int .u8 ((b.n / 256) % 256), .int .u8 b.e, .int .u8 b.t]) ++ ([.int .u8 (b.i.h % 256), .int .u8 (b.i.m % 256), .int .u8 (b.i.s % 256), .int .u8 (b.i.f % 256), .int .u8 (b.o.h % 256), .int .u8 (b.o.m % 256), .int .u8 (b.o.s % 256), .int .u8 (b.o.f % 256)])) ++ ([.int .u8 (b.r % 256), .int .u8 b.a, .int .u8 1])) ++ (byC (fillB text 112 143))), .box g3 5 [.int .u8 (b.i.h % 256), .int .u8 (b.i.m % 256), .int .u8 (b.i.s % 256), .int .u8 (b.i.f % 256), .int .u8 (b.o.h % 256), .int .u8 (b.o.m % 256), .int .u8 (b.o.s % 256), .int .u8 (b.o.f % 256)], .box g4 5 [.int .u8 (b.r % 256), .int .u8 b.a, .int .u8 1], .row A3 c3 5 1 ((fillB text 112 143).length) (byC (fillB text 112 143))]) (fun K => by kernel_rfl) hF hH ?_
      refine ⟨⟨rfl, rfl, rfl, ⟨rfl, rfl, rfl, rfl⟩, (by_one _), by (unfold maxLen; omega), by omega⟩, ?_⟩
      intro A4 c4
      clear hF hH; intro a w hF hH
      refine wl_end (by kernel_rfl) ?_
      refine then_n ?_
      refine wp_retE (by kernel_rfl) ?_
      refine retE (vs := [.slice A4 (((5 + 8) + 3) + ((fillB text 112 143).length)) c4, .int .i64 0]) (p := True) (v := .tuple #[.slice A4 (((5 + 8) + 3) + ((fillB text 112 143).length)) c4, .int .i64 0]) [] (by kernel_rfl) trivial (by kernel_rfl) hF hH ?_
      have e0 : (fillB text 112 143).length = 112 := by unfold fillB; rw [List.length_append, List.length_replicate, hl]; omega
      have e1 : putN b text = ((5 + 8) + 3) + ((fillB text 112 143).length) := by rw [putN, if_pos hb1p]; omega
      have e3 : b.n % 256 % 256 = b.n % 256 := by omega
      have e2 : putC b text = ((([.int .u8 (b.g % 256), .int .u8 ((b.n % 256) % 256), .int .u8 ((b.n / 256) % 256), .int .u8 b.e, .int .u8 b.t]) ++ ([.int .u8 (b.i.h % 256), .int .u8 (b.i.m % 256), .int .u8 (b.i.s % 256), .int .u8 (b.i.f % 256), .int .u8 (b.o.h % 256), .int .u8 (b.o.m % 256), .int .u8 (b.o.s % 256), .int .u8 (b.o.f % 256)])) ++ ([.int .u8 (b.r % 256), .int .u8 b.a, .int .u8 1])) ++ (byC (fillB text 112 143)) := by rw [putC, if_pos hb1p, hdrC, hb2, e3, fillB, byC_append, hl, show 112 - n = 128 - (16 + n) from by omega]; simp
      refine ⟨(A4, c4), by rw [hb1p, e1], hH.below, trivial, ?_⟩
      rw [e1, e2]
      exact newOf hH (k := 1) rfl
    · skip
      refine wp_skipE (by kernel_rfl) ?_
      refine then_n ?_
      refine wp_seqE (by kernel_rfl) ?_
      refine wp_regE (by kernel_rfl) ?_
      refine seg [.p, .p, .ld (.r 0), .pv (.int .u8 (b.r % 256)), .p, .ld (.r 0), .p, .bs, .ap 1 (.r 3) ([.int .u8 (b.r % 256), .int .u8 b.a, .int .u8 0]), .p] [1, 5] (fun K => ((g1 : Nat) = g1 ∧ (none : Option Nat) = none) ∧ (Value.int .u8 (IntKind.wrap .u8 b.r) = .int .u8 (b.r % 256)) ∧ ((g1 : Nat) = g1 ∧ (none : Option Nat) = none) ∧ ∀ g5, (((A1) : Option Addr) = A1 ∧ (c1 : Nat) = c1 ∧ (5 + 8 : Nat) = 5 + 8 ∧ srcP (.box g5 5 [.int .u8 (b.r % 256), .int .u8 b.a, .int .u8 0]) (some ⟨g5, 0, none⟩) 3 1 ([.int .u8 (b.r % 256), .int .u8 b.a, .int .u8 0]) ∧ (∀ u ∈ ([.int .u8 (b.r % 256), .int .u8 b.a, .int .u8 0] : List Value), u.oneCell' = true) ∧ (5 + 8) + 3 ≤ maxLen ∧ ((5 + 8) + 3) * 1 ≤ 140737488355328) ∧ ∀ A5 c5, K [⟨1, none, .pointer (some ⟨g1, 0, none⟩)⟩, ⟨5, none, .slice A5 ((5 + 8) + 3) c5⟩] [.box g1 27 [.int .i64 b.g, .int .i64 b.n, .int .u8 b.e, .int .u8 b.t, .int .i64 b.i.h, .int .i64 b.i.m, .int .i64 b.i.s, .int .i64 b.i.f, .bool b.i.d, .int .i64 b.o.h, .int .i64 b.o.m, .int .i64 b.o.s, .int .i64 b.o.f, .bool b.o.d, .int .i64 b.r, .int .u8 b.a, .bool b.c, .slice A n c], .row A5 c5 5 1 ((5 + 8) + 3) ((([.int .u8 (b.g % 256), .int .u8 ((b.n % 256) % 256), .int .u8 ((b.n / 256) % 256), .int .u8 b.e, .int .u8 b.t]) ++ ([.int .u8 (b.i.h % 256), .int .u8 (b.i.m % 256), .int .u8 (b.i.s % 256), .int .u8 (b.i.f % 256), .int .u8 (b.o.h % 256), .int .u8 (b.o.m % 256), .int .u8 (b.o.s % 256), .int .u8 (b.o.f % 256)])) ++ ([.int .u8 (b.r % 256), .int .u8 b.a, .int .u8 0])), .box g3 5 [.int .u8 (b.i.h % 256), .int .u8 (b.i.m % 256), .int .u8 (b.i.s % 256), .int .u8 (b.i.f % 256), .int .u8 (b.o.h % 256), .int .u8 (b.o.m % 256), .int .u8 (b.o.s % 256), .int .u8 (b.o.f % 256)], .box g5 5 [.int .u8 (b.r % 256), .int .u8 b.a, .int .u8 0]]) (fun K => by kernel_rfl) hF hH ?_
      refine ⟨⟨rfl, rfl⟩, ?_⟩
      refine ⟨wru8 _, ?_⟩
      refine ⟨⟨rfl, rfl⟩, ?_⟩
      intro g5
      refine ⟨⟨rfl, rfl, rfl, ⟨rfl, rfl, rfl⟩, (by intro u hu; simp only [List.mem_cons, List.not_mem_nil, or_false] at hu; rcases hu with rfl | rfl | rfl <;> rfl), by (unfold maxLen; omega), by omega⟩, ?_⟩
      intro A5 c5
      clear hF hH; intro a w hF hH
      refine wl_end (by kernel_rfl) ?_
      refine then_n ?_
      refine wp_seqE (by kernel_rfl) ?_
      refine wp_regE (by kernel_rfl) ?_
      refine seg [.p, .p, .ld (.r 0)] [74, 76] (fun K => ((g1 : Nat) = g1 ∧ (none : Option Nat) = none) ∧ K [⟨74, none, .slice A5 ((5 + 8) + 3) c5⟩, ⟨76, none, .slice A n c⟩] [.box g1 27 [.int .i64 b.g, .int .i64 b.n, .int .u8 b.e, .int .u8 b.t, .int .i64 b.i.h, .int .i64 b.i.m, .int .i64 b.i.s, .int .i64 b.i.f, .bool b.i.d, .int .i64 b.o.h, .int .i64 b.o.m, .int .i64 b.o.s, .int .i64 b.o.f, .bool b.o.d, .int .i64 b.r, .int .u8 b.a, .bool b.c, .slice A n c], .row A5 c5 5 1 ((5 + 8) + 3) ((([.int .u8 (b.g % 256), .int .u8 ((b.n % 256) % 256), .int .u8 ((b.n / 256) % 256), .int .u8 b.e, .int .u8 b.t]) ++ ([.int .u8 (b.i.h % 256), .int .u8 (b.i.m % 256), .int .u8 (b.i.s % 256), .int .u8 (b.i.f % 256), .int .u8 (b.o.h % 256), .int .u8 (b.o.m % 256), .int .u8 (b.o.s % 256), .int .u8 (b.o.f % 256)])) ++ ([.int .u8 (b.r % 256), .int .u8 b.a, .int .u8 0])), .box g3 5 [.int .u8 (b.i.h % 256), .int .u8 (b.i.m % 256), .int .u8 (b.i.s % 256), .int .u8 (b.i.f % 256), .int .u8 (b.o.h % 256), .int .u8 (b.o.m % 256), .int .u8 (b.o.s % 256), .int .u8 (b.o.f % 256)], .box g5 5 [.int .u8 (b.r % 256), .int .u8 b.a, .int .u8 0]]) (fun K => by kernel_rfl) hF hH ?_
      refine ⟨⟨rfl, rfl⟩, ?_⟩
      clear hF hH; intro a w hF hH
      refine callE (d := 77) (fill_c A n c text (by first | rfl | assumption | (simp; done) | (simp; omega)) 143 112 (by omega)) [.n 0] (by kernel_rfl) (by kernel_rfl) hF hH ?_
      clear hF hH; rintro ⟨A6, c6⟩ - a w hF hH
      refine seg [.ap 1 (.r 4) (byC (fillB text 112 143)), .p, .p] [2, 3] (fun K => (((A5) : Option Addr) = A5 ∧ (c5 : Nat) = c5 ∧ ((5 + 8) + 3 : Nat) = (5 + 8) + 3 ∧ srcP (.row A6 c6 5 1 ((fillB text 112 143).length) (byC (fillB text 112 143))) A6 ((fillB text 112 143).length) 1 (byC (fillB text 112 143)) ∧ (∀ u ∈ (byC (fillB text 112 143) : List Value), u.oneCell' = true) ∧ ((5 + 8) + 3) + ((fillB text 112 143).length) ≤ maxLen ∧ (((5 + 8) + 3) + ((fillB text 112 143).length)) * 1 ≤ 140737488355328) ∧ ∀ A7 c7, K [⟨2, none, .slice A7 (((5 + 8) + 3) + ((fillB text 112 143).length)) c7⟩, ⟨3, none, .int .i64 0⟩] [.box g1 27 [.int .i64 b.g, .int .i64 b.n, .int .u8 b.e, .int .u8 b.t, .int .i64 b.i.h, .int .i64 b.i.m, .int .i64 b.i.s, .int .i64 b.i.f, .bool b.i.d, .int .i64 b.o.h, .int .i64 b.o.m, .int .i64 b.o.s, .int .i64 b.o.f, .bool b.o.d, .int .i64 b.r, .int .u8 b.a, .bool b.c, .slice A n c], .row A7 c7 5 1 (((5 + 8) + 3) + ((fillB text 112 143).length)) (((([.int .u8 (b.g % 256), .int .u8 ((b.n % 256) % 256), .int .u8 ((b.n / 256) % 256), .int .u8 b.e, .int .u8 b.t]) ++ ([.int .u8 (b.i.h % 256), .int .u8 (b.i.m % 256), .int .u8 (b.i.s % 256), .int .u8 (b.i.f % 256), .int .u8 (b.o.h % 256), .int .u8 (b.o.m % 256), .int .u8 (b.o.s % 256), .int .u8 (b.o.f % 256)])) ++ ([.int .u8 (b.r % 256), .int .u8 b.a, .int .u8 0])) ++ (byC (fillB text 112 143))), .box g3 5 [.int .u8 (b.i.h % 256), .int .u8 (b.i.m % 256), .int .u8 (b.i.s % 256), .int .u8 (b.i.f % 256), .int .u8 (b.o.h % 256), .int .u8 (b.o.m % 256), .int .u8 (b.o.s % 256), .int .u8 (b.o.f % 256)], .box g5 5 [.int .u8 (b.r % 256), .int .u8 b.a, .int .u8 0], .row A6 c6 5 1 ((fillB text 112 143).length) (byC (fillB text 112 143))]) (fun K => by kernel_rfl) hF hH ?_
      refine ⟨⟨rfl, rfl, rfl, ⟨rfl, rfl, rfl, rfl⟩, (by_one _), by (unfold maxLen; omega), by omega⟩, ?_⟩
      intro A7 c7
      clear hF hH; intro a w hF hH
      refine wl_end (by kernel_rfl) ?_
      refine then_n ?_
      refine wp_retE (by kernel_rfl) ?_
      refine retE (vs := [.slice A7 (((5 + 8) + 3) + ((fillB text 112 143).length)) c7, .int .i64 0]) (p := True) (v := .tuple #[.slice A7 (((5 + 8) + 3) + ((fillB text 112 143).length)) c7, .int .i64 0]) [] (by kernel_rfl) trivial (by kernel_rfl) hF hH ?_
      have e0 : (fillB text 112 143).length = 112 := by unfold fillB; rw [List.length_append, List.length_replicate, hl]; omega
      have e1 : putN b text = ((5 + 8) + 3) + ((fillB text 112 143).length) := by rw [putN, if_pos hb1p]; omega
      have e3 : b.n % 256 % 256 = b.n % 256 := by omega
      have e2 : putC b text = ((([.int .u8 (b.g % 256), .int .u8 ((b.n % 256) % 256), .int .u8 ((b.n / 256) % 256), .int .u8 b.e, .int .u8 b.t]) ++ ([.int .u8 (b.i.h % 256), .int .u8 (b.i.m % 256), .int .u8 (b.i.s % 256), .int .u8 (b.i.f % 256), .int .u8 (b.o.h % 256), .int .u8 (b.o.m % 256), .int .u8 (b.o.s % 256), .int .u8 (b.o.f % 256)])) ++ ([.int .u8 (b.r % 256), .int .u8 b.a, .int .u8 0])) ++ (byC (fillB text 112 143)) := by rw [putC, if_pos hb1p, hdrC, hb2, e3, fillB, byC_append, hl, show 112 - n = 128 - (16 + n) from by omega]; simp
      refine ⟨(A7, c7), by rw [hb1p, e1], hH.below, trivial, ?_⟩
      rw [e1, e2]
      exact newOf hH (k := 1) rfl

def sameB (b d : Blk) : Bool := ((((((((b.g == d.g) && (b.n == d.n)) && (b.e == d.e)) && (b.t == d.t)) && ((b.i.h == d.i.h) && ((b.i.m == d.i.m) && ((b.i.s == d.i.s) && ((b.i.f == d.i.f) && ((b.i.d == d.i.d) && true)))))) && ((b.o.h == d.o.h) && ((b.o.m == d.o.m) && ((b.o.s == d.o.s) && ((b.o.f == d.o.f) && ((b.o.d == d.o.d) && true)))))) && (b.r == d.r)) && (b.a == d.a)) && (b.c == d.c)
def sameV (b d : Blk) (t u : List UInt8) : Bool := sameB b d && decide (t = u)
theorem sameV_self (b : Blk) (t : List UInt8) : sameV b b t t = true := by simp [sameV, sameB]

theorem same_c (b d : Blk) (A B : Option Addr) (n m c e : Nat) (t u : List UInt8) (hl : t.length = n) (hm : u.length = m) (hle : n ≤ 140737488355328) : CallOk Try.prog 13 [.agg #[.int .i64 b.g, .int .i64 b.n, .int .u8 b.e, .int .u8 b.t, .int .i64 b.i.h, .int .i64 b.i.m, .int .i64 b.i.s, .int .i64 b.i.f, .bool b.i.d, .int .i64 b.o.h, .int .i64 b.o.m, .int .i64 b.o.s, .int .i64 b.o.f, .bool b.o.d, .int .i64 b.r, .int .u8 b.a, .bool b.c, .slice A n c], .agg #[.int .i64 d.g, .int .i64 d.n, .int .u8 d.e, .int .u8 d.t, .int .i64 d.i.h, .int .i64 d.i.m, .int .i64 d.i.s, .int .i64 d.i.f, .bool d.i.d, .int .i64 d.o.h, .int .i64 d.o.m, .int .i64 d.o.s, .int .i64 d.o.f, .bool d.o.d, .int .i64 d.r, .int .u8 d.a, .bool d.c, .slice B m e]] [.view A n c 1 (byE t), .view B m e 1 (byE u)] (U := Unit) (fun _ => .bool (sameV b d t u)) (fun _ => []) (fun _ => True) := by
  intro w0 hn
  refine enterE (N := 73) Try.func13 (by kernel_rfl) (by kernel_rfl) (by kernel_rfl) ?_
  intro a hF
  have hH := Hp.start w0 hn
  refine wp_seqE (by kernel_rfl) ?_
  refine wp_regE (by kernel_rfl) ?_
  refine seg [.bx, .bx, .p] [2, 3] (fun K => ∀ g1, ∀ g2, K [⟨2, none, .pointer (some ⟨g1, 0, none⟩)⟩, ⟨3, none, .pointer (some ⟨g2, 0, none⟩)⟩] [.box g1 27 [.int .i64 b.g, .int .i64 b.n, .int .u8 b.e, .int .u8 b.t, .int .i64 b.i.h, .int .i64 b.i.m, .int .i64 b.i.s, .int .i64 b.i.f, .bool b.i.d, .int .i64 b.o.h, .int .i64 b.o.m, .int .i64 b.o.s, .int .i64 b.o.f, .bool b.o.d, .int .i64 b.r, .int .u8 b.a, .bool b.c, .slice A n c], .box g2 27 [.int .i64 d.g, .int .i64 d.n, .int .u8 d.e, .int .u8 d.t, .int .i64 d.i.h, .int .i64 d.i.m, .int .i64 d.i.s, .int .i64 d.i.f, .bool d.i.d, .int .i64 d.o.h, .int .i64 d.o.m, .int .i64 d.o.s, .int .i64 d.o.f, .bool d.o.d, .int .i64 d.r, .int .u8 d.a, .bool d.c, .slice B m e]]) (fun K => by kernel_rfl) hF hH ?_
  intro g1
  intro g2
  clear hF hH; intro a w hF hH
  refine wl_end (by kernel_rfl) ?_
  refine then_n ?_
  refine wp_seqE (by kernel_rfl) ?_
  refine wp_regE (by kernel_rfl) ?_
  refine seg [.p, .ld (.r 0), .p, .ld (.r 1), .p, .p, .p, .ld (.r 0), .p, .ld (.r 1), .p, .pk, .p, .p, .ld (.r 0), .p, .ld (.r 1), .p, .pk, .p, .p, .ld (.r 0), .p, .ld (.r 1), .p, .pk, .p, .p, .ld (.r 0), .p, .ld (.r 1), .ae, .pk, .p, .p, .ld (.r 0), .p, .ld (.r 1), .ae, .pk, .p, .p, .ld (.r 0), .p, .ld (.r 1), .p, .pk, .p, .p, .ld (.r 0), .p, .ld (.r 1), .p, .pk, .p, .p, .ld (.r 0), .p, .ld (.r 1), .p, .pk, .p] [2, 3, 66] (fun K => ((g1 : Nat) = g1 ∧ (none : Option Nat) = none) ∧ ((g2 : Nat) = g2 ∧ (none : Option Nat) = none) ∧ ((g1 : Nat) = g1 ∧ (none : Option Nat) = none) ∧ ((g2 : Nat) = g2 ∧ (none : Option Nat) = none) ∧ ((g1 : Nat) = g1 ∧ (none : Option Nat) = none) ∧ ((g2 : Nat) = g2 ∧ (none : Option Nat) = none) ∧ ((g1 : Nat) = g1 ∧ (none : Option Nat) = none) ∧ ((g2 : Nat) = g2 ∧ (none : Option Nat) = none) ∧ ((g1 : Nat) = g1 ∧ (none : Option Nat) = none) ∧ ((g2 : Nat) = g2 ∧ (none : Option Nat) = none) ∧ ((g1 : Nat) = g1 ∧ (none : Option Nat) = none) ∧ ((g2 : Nat) = g2 ∧ (none : Option Nat) = none) ∧ ((g1 : Nat) = g1 ∧ (none : Option Nat) = none) ∧ ((g2 : Nat) = g2 ∧ (none : Option Nat) = none) ∧ ((g1 : Nat) = g1 ∧ (none : Option Nat) = none) ∧ ((g2 : Nat) = g2 ∧ (none : Option Nat) = none) ∧ ((g1 : Nat) = g1 ∧ (none : Option Nat) = none) ∧ ((g2 : Nat) = g2 ∧ (none : Option Nat) = none) ∧ K [⟨2, none, .pointer (some ⟨g1, 0, none⟩)⟩, ⟨3, none, .pointer (some ⟨g2, 0, none⟩)⟩, ⟨66, none, .bool (((((((((b.g == d.g) && (b.n == d.n)) && (b.e == d.e)) && (b.t == d.t)) && ((b.i.h == d.i.h) && ((b.i.m == d.i.m) && ((b.i.s == d.i.s) && ((b.i.f == d.i.f) && ((b.i.d == d.i.d) && true)))))) && ((b.o.h == d.o.h) && ((b.o.m == d.o.m) && ((b.o.s == d.o.s) && ((b.o.f == d.o.f) && ((b.o.d == d.o.d) && true)))))) && (b.r == d.r)) && (b.a == d.a)) && (b.c == d.c))⟩] [.box g1 27 [.int .i64 b.g, .int .i64 b.n, .int .u8 b.e, .int .u8 b.t, .int .i64 b.i.h, .int .i64 b.i.m, .int .i64 b.i.s, .int .i64 b.i.f, .bool b.i.d, .int .i64 b.o.h, .int .i64 b.o.m, .int .i64 b.o.s, .int .i64 b.o.f, .bool b.o.d, .int .i64 b.r, .int .u8 b.a, .bool b.c, .slice A n c], .box g2 27 [.int .i64 d.g, .int .i64 d.n, .int .u8 d.e, .int .u8 d.t, .int .i64 d.i.h, .int .i64 d.i.m, .int .i64 d.i.s, .int .i64 d.i.f, .bool d.i.d, .int .i64 d.o.h, .int .i64 d.o.m, .int .i64 d.o.s, .int .i64 d.o.f, .bool d.o.d, .int .i64 d.r, .int .u8 d.a, .bool d.c, .slice B m e]]) (fun K => by kernel_rfl) hF hH ?_
  refine ⟨⟨rfl, rfl⟩, ?_⟩
  refine ⟨⟨rfl, rfl⟩, ?_⟩
  refine ⟨⟨rfl, rfl⟩, ?_⟩
  refine ⟨⟨rfl, rfl⟩, ?_⟩
  refine ⟨⟨rfl, rfl⟩, ?_⟩
  refine ⟨⟨rfl, rfl⟩, ?_⟩
  refine ⟨⟨rfl, rfl⟩, ?_⟩
  refine ⟨⟨rfl, rfl⟩, ?_⟩
  refine ⟨⟨rfl, rfl⟩, ?_⟩
  refine ⟨⟨rfl, rfl⟩, ?_⟩
  refine ⟨⟨rfl, rfl⟩, ?_⟩
  refine ⟨⟨rfl, rfl⟩, ?_⟩
  refine ⟨⟨rfl, rfl⟩, ?_⟩
  refine ⟨⟨rfl, rfl⟩, ?_⟩
  refine ⟨⟨rfl, rfl⟩, ?_⟩
  refine ⟨⟨rfl, rfl⟩, ?_⟩
  refine ⟨⟨rfl, rfl⟩, ?_⟩
  refine ⟨⟨rfl, rfl⟩, ?_⟩
  clear hF hH; intro a w hF hH
  rcases Bool.eq_false_or_eq_true (((((((((b.g == d.g) && (b.n == d.n)) && (b.e == d.e)) && (b.t == d.t)) && ((b.i.h == d.i.h) && ((b.i.m == d.i.m) && ((b.i.s == d.i.s) && ((b.i.f == d.i.f) && ((b.i.d == d.i.d) && true)))))) && ((b.o.h == d.o.h) && ((b.o.m == d.o.m) && ((b.o.s == d.o.s) && ((b.o.f == d.o.f) && ((b.o.d == d.o.d) && true)))))) && (b.r == d.r)) && (b.a == d.a)) && (b.c == d.c)) with hx1 | hx1
  · rw [hx1] at hF
    refine seg [.gt (.p), .gt (.ld (.r 0)), .gt (.p), .gt (.ld (.r 1))] [66, 68, 70] (fun K => (true = true) ∧ (true = true) ∧ ((g1 : Nat) = g1 ∧ (none : Option Nat) = none) ∧ (true = true) ∧ (true = true) ∧ ((g2 : Nat) = g2 ∧ (none : Option Nat) = none) ∧ K [⟨66, none, .bool true⟩, ⟨68, none, .slice A n c⟩, ⟨70, none, .slice B m e⟩] [.box g1 27 [.int .i64 b.g, .int .i64 b.n, .int .u8 b.e, .int .u8 b.t, .int .i64 b.i.h, .int .i64 b.i.m, .int .i64 b.i.s, .int .i64 b.i.f, .bool b.i.d, .int .i64 b.o.h, .int .i64 b.o.m, .int .i64 b.o.s, .int .i64 b.o.f, .bool b.o.d, .int .i64 b.r, .int .u8 b.a, .bool b.c, .slice A n c], .box g2 27 [.int .i64 d.g, .int .i64 d.n, .int .u8 d.e, .int .u8 d.t, .int .i64 d.i.h, .int .i64 d.i.m, .int .i64 d.i.s, .int .i64 d.i.f, .bool d.i.d, .int .i64 d.o.h, .int .i64 d.o.m, .int .i64 d.o.s, .int .i64 d.o.f, .bool d.o.d, .int .i64 d.r, .int .u8 d.a, .bool d.c, .slice B m e]]) (fun K => by kernel_rfl) hF hH ?_
    refine ⟨rfl, ?_⟩
    refine ⟨rfl, ?_⟩
    refine ⟨⟨rfl, rfl⟩, ?_⟩
    refine ⟨rfl, ?_⟩
    refine ⟨rfl, ?_⟩
    refine ⟨⟨rfl, rfl⟩, ?_⟩
    clear hF hH; intro a w hF hH
    refine callE (d := 71) (equal_c A B n m c e t u (by first | rfl | assumption | (simp; done) | (simp; omega)) (by first | rfl | assumption | (simp; done) | (simp; omega)) (by omega)) [.n 0, .n 1] (by kernel_rfl) (by kernel_rfl) hF hH ?_
    clear hF hH; rintro ⟨⟩ - a w hF hH
    refine seg [.p, .p] [4] (fun K => K [⟨4, none, .bool (decide (t = u))⟩] [.box g1 27 [.int .i64 b.g, .int .i64 b.n, .int .u8 b.e, .int .u8 b.t, .int .i64 b.i.h, .int .i64 b.i.m, .int .i64 b.i.s, .int .i64 b.i.f, .bool b.i.d, .int .i64 b.o.h, .int .i64 b.o.m, .int .i64 b.o.s, .int .i64 b.o.f, .bool b.o.d, .int .i64 b.r, .int .u8 b.a, .bool b.c, .slice A n c], .box g2 27 [.int .i64 d.g, .int .i64 d.n, .int .u8 d.e, .int .u8 d.t, .int .i64 d.i.h, .int .i64 d.i.m, .int .i64 d.i.s, .int .i64 d.i.f, .bool d.i.d, .int .i64 d.o.h, .int .i64 d.o.m, .int .i64 d.o.s, .int .i64 d.o.f, .bool d.o.d, .int .i64 d.r, .int .u8 d.a, .bool d.c, .slice B m e]]) (fun K => by kernel_rfl) hF hH ?_
    clear hF hH; intro a w hF hH
    refine wl_end (by kernel_rfl) ?_
    refine then_n ?_
    refine wp_retE (by kernel_rfl) ?_
    refine retE (vs := [.bool (decide (t = u))]) (p := True) (v := .bool (decide (t = u))) [] (by kernel_rfl) trivial (by kernel_rfl) hF hH ?_
    exact fin0 (by simp only [sameV, sameB, hx1]; rfl) hH
  · rw [hx1] at hF
    refine seg [.sk, .sk, .sk, .sk, .sk, .p, .p] [4] (fun K => (false = !true) ∧ (false = !true) ∧ (false = !true) ∧ (false = !true) ∧ (false = !true) ∧ K [⟨4, none, .bool false⟩] [.box g1 27 [.int .i64 b.g, .int .i64 b.n, .int .u8 b.e, .int .u8 b.t, .int .i64 b.i.h, .int .i64 b.i.m, .int .i64 b.i.s, .int .i64 b.i.f, .bool b.i.d, .int .i64 b.o.h, .int .i64 b.o.m, .int .i64 b.o.s, .int .i64 b.o.f, .bool b.o.d, .int .i64 b.r, .int .u8 b.a, .bool b.c, .slice A n c], .box g2 27 [.int .i64 d.g, .int .i64 d.n, .int .u8 d.e, .int .u8 d.t, .int .i64 d.i.h, .int .i64 d.i.m, .int .i64 d.i.s, .int .i64 d.i.f, .bool d.i.d, .int .i64 d.o.h, .int .i64 d.o.m, .int .i64 d.o.s, .int .i64 d.o.f, .bool d.o.d, .int .i64 d.r, .int .u8 d.a, .bool d.c, .slice B m e]]) (fun K => by kernel_rfl) hF hH ?_
    refine ⟨rfl, ?_⟩
    refine ⟨rfl, ?_⟩
    refine ⟨rfl, ?_⟩
    refine ⟨rfl, ?_⟩
    refine ⟨rfl, ?_⟩
    clear hF hH; intro a w hF hH
    refine wl_end (by kernel_rfl) ?_
    refine then_n ?_
    refine wp_retE (by kernel_rfl) ?_
    refine retE (vs := [.bool false]) (p := True) (v := .bool false) [] (by kernel_rfl) trivial (by kernel_rfl) hF hH ?_
    exact fin0 (by simp only [sameV, sameB, hx1]; rfl) hH

theorem str_eq (bs cs : List UInt8) : ((ByteArray.mk bs.toArray).toList == (ByteArray.mk cs.toArray).toList) = decide (bs = cs) := by rw [ByteArray.toList_eq, ByteArray.toList_eq]; simp [Bool.beq_eq_decide_eq]

theorem bytesEqual_c (A B : Option Addr) (n m c d : Nat) (bs cs : List UInt8) (hl : bs.length = n) (hm : cs.length = m) : CallOk Try.prog 35 [.slice A n c, .slice B m d] [.view A n c 1 (byE bs), .view B m d 1 (byE cs)] (U := Unit) (fun _ => .bool (decide (bs = cs))) (fun _ => []) (fun _ => True) := by
  intro w0 hn
  refine enterE (N := 10) Try.func35 (by kernel_rfl) (by kernel_rfl) (by kernel_rfl) ?_
  intro a hF
  have hH := Hp.start w0 hn
  refine wp_seqE (by kernel_rfl) ?_
  refine wp_regE (by kernel_rfl) ?_
  refine seg [.p] [0, 1] (fun K => K [⟨0, none, .slice A n c⟩, ⟨1, none, .slice B m d⟩] []) (fun K => by kernel_rfl) hF hH ?_
  clear hF hH; intro a w hF hH
  refine wl_end (by kernel_rfl) ?_
  refine then_n ?_
  refine wp_seqE (by kernel_rfl) ?_
  refine wp_regE (by kernel_rfl) ?_
  refine seg [.p, .tos (.n 0) bs, .p, .tos (.n 1) cs, .p, .p] [4] (fun K => (((A) : Option Addr) = A ∧ (n : Nat) = n ∧ (1 : Nat) = 1 ∧ (n : Nat) = (bs).length ∧ ∀ i, i < n → (byE bs) i = [.int .u8 (((bs).getD i 0).toNat : Int)]) ∧ (((B) : Option Addr) = B ∧ (m : Nat) = m ∧ (1 : Nat) = 1 ∧ (m : Nat) = (cs).length ∧ ∀ i, i < m → (byE cs) i = [.int .u8 (((cs).getD i 0).toNat : Int)]) ∧ K [⟨4, none, .bool ((ByteArray.mk bs.toArray).toList == (ByteArray.mk cs.toArray).toList)⟩] []) (fun K => by kernel_rfl) hF hH ?_
  refine ⟨⟨rfl, rfl, rfl, by first | omega | (simp; done) | (simp; omega), fun _ _ => rfl⟩, ?_⟩
  refine ⟨⟨rfl, rfl, rfl, by first | omega | (simp; done) | (simp; omega), fun _ _ => rfl⟩, ?_⟩
  clear hF hH; intro a w hF hH
  refine wl_end (by kernel_rfl) ?_
  refine then_n ?_
  refine wp_retE (by kernel_rfl) ?_
  refine retE (vs := [.bool ((ByteArray.mk bs.toArray).toList == (ByteArray.mk cs.toArray).toList)]) (p := True) (v := .bool ((ByteArray.mk bs.toArray).toList == (ByteArray.mk cs.toArray).toList)) [] (by kernel_rfl) trivial (by kernel_rfl) hF hH ?_
  exact fin0 (by rw [str_eq]) hH

theorem refEqual_c (A B : Option Addr) (n m c d : Nat) (bs cs : List UInt8) (hl : bs.length = n) (hm : cs.length = m) : CallOk Try.prog 37 [.slice A n c, .slice B m d] [.view A n c 1 (byE bs), .view B m d 1 (byE cs)] (U := Unit) (fun _ => .bool (decide (bs = cs))) (fun _ => []) (fun _ => True) := by
  intro w0 hn
  refine enterE (N := 10) Try.func37 (by kernel_rfl) (by kernel_rfl) (by kernel_rfl) ?_
  intro a hF
  have hH := Hp.start w0 hn
  refine wp_seqE (by kernel_rfl) ?_
  refine wp_regE (by kernel_rfl) ?_
  refine seg [.p] [0, 1] (fun K => K [⟨0, none, .slice A n c⟩, ⟨1, none, .slice B m d⟩] []) (fun K => by kernel_rfl) hF hH ?_
  clear hF hH; intro a w hF hH
  refine wl_end (by kernel_rfl) ?_
  refine then_n ?_
  refine wp_seqE (by kernel_rfl) ?_
  refine wp_regE (by kernel_rfl) ?_
  refine seg [.p, .tos (.n 0) bs, .p, .tos (.n 1) cs, .p, .p] [4] (fun K => (((A) : Option Addr) = A ∧ (n : Nat) = n ∧ (1 : Nat) = 1 ∧ (n : Nat) = (bs).length ∧ ∀ i, i < n → (byE bs) i = [.int .u8 (((bs).getD i 0).toNat : Int)]) ∧ (((B) : Option Addr) = B ∧ (m : Nat) = m ∧ (1 : Nat) = 1 ∧ (m : Nat) = (cs).length ∧ ∀ i, i < m → (byE cs) i = [.int .u8 (((cs).getD i 0).toNat : Int)]) ∧ K [⟨4, none, .bool ((ByteArray.mk bs.toArray).toList == (ByteArray.mk cs.toArray).toList)⟩] []) (fun K => by kernel_rfl) hF hH ?_
  refine ⟨⟨rfl, rfl, rfl, by first | omega | (simp; done) | (simp; omega), fun _ _ => rfl⟩, ?_⟩
  refine ⟨⟨rfl, rfl, rfl, by first | omega | (simp; done) | (simp; omega), fun _ _ => rfl⟩, ?_⟩
  clear hF hH; intro a w hF hH
  refine wl_end (by kernel_rfl) ?_
  refine then_n ?_
  refine wp_retE (by kernel_rfl) ?_
  refine retE (vs := [.bool ((ByteArray.mk bs.toArray).toList == (ByteArray.mk cs.toArray).toList)]) (p := True) (v := .bool ((ByteArray.mk bs.toArray).toList == (ByteArray.mk cs.toArray).toList)) [] (by kernel_rfl) trivial (by kernel_rfl) hF hH ?_
  exact fin0 (by rw [str_eq]) hH

end Go.Proofs.Ytcccboodapgejaa
