/-
  Split of the tape package, walked once: for a text of at most 65536 bytes.
-/
import Derived.Test.YtcccboodapgejaaTapeA
namespace Go.Proofs.Ytcccboodapgejaa
open Go.Sym

theorem split_c (b : Blk) (T : Option Addr) (tn tc : Nat) (A : Option Addr) (n c : Nat) (text : List UInt8) (hl : text.length = n) (hn0 : n ≤ 65536) : CallOk Try.prog 10 [.agg #[.int .i64 b.g, .int .i64 b.n, .int .u8 b.e, .int .u8 b.t, .int .i64 b.i.h, .int .i64 b.i.m, .int .i64 b.i.s, .int .i64 b.i.f, .bool b.i.d, .int .i64 b.o.h, .int .i64 b.o.m, .int .i64 b.o.s, .int .i64 b.o.f, .bool b.o.d, .int .i64 b.r, .int .u8 b.a, .bool b.c, .slice T tn tc], .slice A n c] [.view A n c 1 (byE text)] (U := Option Addr × Nat × List BT) (fun u => .tuple #[.slice u.1 (splitL b text).length u.2.1, .int .i64 (splitE b text)]) (fun u => [.row u.1 u.2.1 27 18 (splitL b text).length (u.2.2.flatMap BT.cells), .fam (splitL b text).length (blksR u.2.2)]) (fun u => u.2.2.map BT.data = splitL b text) := by
  intro w0 hn
  have hnc : n ≤ c := (hn _ (List.mem_singleton.2 rfl)).1.1
  refine enterE (N := 60) Try.func10 (by kernel_rfl) (by kernel_rfl) (by kernel_rfl) ?_
  intro a hF
  have hH := Hp.start w0 hn
  refine wp_seqE (by kernel_rfl) ?_
  refine wp_regE (by kernel_rfl) ?_
  refine seg [.bx, .p, .p] [1, 2] (fun K => ∀ g1, K [⟨1, none, .slice A n c⟩, ⟨2, none, .pointer (some ⟨g1, 0, none⟩)⟩] [.box g1 27 [.int .i64 b.g, .int .i64 b.n, .int .u8 b.e, .int .u8 b.t, .int .i64 b.i.h, .int .i64 b.i.m, .int .i64 b.i.s, .int .i64 b.i.f, .bool b.i.d, .int .i64 b.o.h, .int .i64 b.o.m, .int .i64 b.o.s, .int .i64 b.o.f, .bool b.o.d, .int .i64 b.r, .int .u8 b.a, .bool b.c, .slice T tn tc]]) (fun K => by kernel_rfl) hF hH ?_
  intro g1
  clear hF hH; intro a w hF hH
  refine wl_end (by kernel_rfl) ?_
  refine then_n ?_
  refine wp_seqE (by kernel_rfl) ?_
  refine wp_regE (by kernel_rfl) ?_
  refine seg [.p, .st 0, .p, .st 0] [1, 2] (fun K => ((g1 : Nat) = g1 ∧ (none : Option Nat) = none) ∧ ((g1 : Nat) = g1 ∧ (none : Option Nat) = none) ∧ K [⟨1, none, .slice A n c⟩, ⟨2, none, .pointer (some ⟨g1, 0, none⟩)⟩] [.box g1 27 [.int .i64 b.g, .int .i64 b.n, .int .u8 0, .int .u8 b.t, .int .i64 b.i.h, .int .i64 b.i.m, .int .i64 b.i.s, .int .i64 b.i.f, .bool b.i.d, .int .i64 b.o.h, .int .i64 b.o.m, .int .i64 b.o.s, .int .i64 b.o.f, .bool b.o.d, .int .i64 b.r, .int .u8 b.a, .bool b.c, .slice none 0 0]]) (fun K => by kernel_rfl) hF hH ?_
  refine ⟨⟨rfl, rfl⟩, ?_⟩
  refine ⟨⟨rfl, rfl⟩, ?_⟩
  clear hF hH; intro a w hF hH
  refine wl_end (by kernel_rfl) ?_
  refine then_n ?_
  refine wp_seqE (by kernel_rfl) ?_
  refine wp_seqE (by kernel_rfl) ?_
  refine wp_regE (by kernel_rfl) ?_
  refine seg [.ld (.r 0)] [1, 2, 13] (fun K => ((g1 : Nat) = g1 ∧ (none : Option Nat) = none) ∧ K [⟨1, none, .slice A n c⟩, ⟨2, none, .pointer (some ⟨g1, 0, none⟩)⟩, ⟨13, none, .agg #[.int .i64 b.g, .int .i64 b.n, .int .u8 0, .int .u8 b.t, .int .i64 b.i.h, .int .i64 b.i.m, .int .i64 b.i.s, .int .i64 b.i.f, .bool b.i.d, .int .i64 b.o.h, .int .i64 b.o.m, .int .i64 b.o.s, .int .i64 b.o.f, .bool b.o.d, .int .i64 b.r, .int .u8 b.a, .bool b.c, .slice none 0 0]⟩] [.box g1 27 [.int .i64 b.g, .int .i64 b.n, .int .u8 0, .int .u8 b.t, .int .i64 b.i.h, .int .i64 b.i.m, .int .i64 b.i.s, .int .i64 b.i.f, .bool b.i.d, .int .i64 b.o.h, .int .i64 b.o.m, .int .i64 b.o.s, .int .i64 b.o.f, .bool b.o.d, .int .i64 b.r, .int .u8 b.a, .bool b.c, .slice none 0 0]]) (fun K => by kernel_rfl) hF hH ?_
  refine ⟨⟨rfl, rfl⟩, ?_⟩
  clear hF hH; intro a w hF hH
  have hH := hH.nilViewN
  refine callE (d := 14) (check_c (b0 b) none 0 0 [] (by first | rfl | assumption | (simp; done) | (simp; omega))) [.n 1] (by kernel_rfl) (by kernel_rfl) hF hH ?_
  clear hF hH; rintro ⟨⟩ - a w hF hH
  refine seg [.p] [1, 2, 6] (fun K => K [⟨1, none, .slice A n c⟩, ⟨2, none, .pointer (some ⟨g1, 0, none⟩)⟩, ⟨6, none, .int .i64 (checkV (b0 b) [])⟩] [.box g1 27 [.int .i64 b.g, .int .i64 b.n, .int .u8 0, .int .u8 b.t, .int .i64 b.i.h, .int .i64 b.i.m, .int .i64 b.i.s, .int .i64 b.i.f, .bool b.i.d, .int .i64 b.o.h, .int .i64 b.o.m, .int .i64 b.o.s, .int .i64 b.o.f, .bool b.o.d, .int .i64 b.r, .int .u8 b.a, .bool b.c, .slice none 0 0]]) (fun K => by kernel_rfl) hF hH ?_
  clear hF hH; intro a w hF hH
  refine wl_end (by kernel_rfl) ?_
  refine then_n ?_
  refine wp_seqE (by kernel_rfl) ?_
  refine wp_regE (by kernel_rfl) ?_
  refine seg [.p, .p] [1, 2, 6, 16] (fun K => K [⟨1, none, .slice A n c⟩, ⟨2, none, .pointer (some ⟨g1, 0, none⟩)⟩, ⟨6, none, .int .i64 (checkV (b0 b) [])⟩, ⟨16, none, .bool ((checkV (b0 b) []) != 0)⟩] [.box g1 27 [.int .i64 b.g, .int .i64 b.n, .int .u8 0, .int .u8 b.t, .int .i64 b.i.h, .int .i64 b.i.m, .int .i64 b.i.s, .int .i64 b.i.f, .bool b.i.d, .int .i64 b.o.h, .int .i64 b.o.m, .int .i64 b.o.s, .int .i64 b.o.f, .bool b.o.d, .int .i64 b.r, .int .u8 b.a, .bool b.c, .slice none 0 0]]) (fun K => by kernel_rfl) hF hH ?_
  clear hF hH; intro a w hF hH
  refine wl_end (by kernel_rfl) ?_
  refine then_n ?_
  refine wp_condE (b := (checkV (b0 b) []) != 0) (by kernel_rfl) (by kernel_rfl) hF (fun hb1 => ?_) (fun hb1 => ?_)
  · skip
    have hb1p := ne_of_bne hb1
    refine wp_seqE (by kernel_rfl) ?_
    refine wp_regE (by kernel_rfl) ?_
    refine seg [.p, .p, .p] [4, 5] (fun K => K [⟨4, none, .slice none 0 0⟩, ⟨5, none, .int .i64 (checkV (b0 b) [])⟩] [.box g1 27 [.int .i64 b.g, .int .i64 b.n, .int .u8 0, .int .u8 b.t, .int .i64 b.i.h, .int .i64 b.i.m, .int .i64 b.i.s, .int .i64 b.i.f, .bool b.i.d, .int .i64 b.o.h, .int .i64 b.o.m, .int .i64 b.o.s, .int .i64 b.o.f, .bool b.o.d, .int .i64 b.r, .int .u8 b.a, .bool b.c, .slice none 0 0]]) (fun K => by kernel_rfl) hF hH ?_
    clear hF hH; intro a w hF hH
    refine wl_end (by kernel_rfl) ?_
    refine then_n ?_
    refine wp_retE (by kernel_rfl) ?_
    refine then_ret ?_
    refine retE (vs := [.slice none 0 0, .int .i64 (checkV (b0 b) [])]) (p := True) (v := .tuple #[.slice none 0 0, .int .i64 (checkV (b0 b) [])]) [] (by kernel_rfl) trivial (by kernel_rfl) hF hH ?_
    exact split_fin0 hH b text (checkV (b0 b) []) (by simp only [splitE, pieces, hl, hb1]; try rfl) (hb1p)
  · skip
    have hb1p := eq_of_bne_false hb1
    refine wp_skipE (by kernel_rfl) ?_
    refine then_n ?_
    refine wp_seqE (by kernel_rfl) ?_
    refine wp_regE (by kernel_rfl) ?_
    refine seg [.p, .p, .pv (.int .i64 ((n + 112 : Nat) : Int)), .pv (.int .i64 ((n + 111 : Nat) : Int)), .pv (.int .i64 (((n + 111) / 112 : Nat) : Int)), .pv (.int .i64 ((max 1 ((n + 111) / 112) : Nat) : Int)), .p] [1, 2, 7] (fun K => (Value.int .i64 (IntKind.wrap .i64 (((n : Nat) : Int) + ((112 : Nat) : Int))) = .int .i64 ((n + 112 : Nat) : Int)) ∧ (Value.int .i64 (IntKind.wrap .i64 (((n + 112 : Nat) : Int) - ((1 : Nat) : Int))) = .int .i64 ((n + 111 : Nat) : Int)) ∧ (Value.int .i64 (IntKind.wrap .i64 (Int.tdiv ((n + 111 : Nat) : Int) ((112 : Nat) : Int))) = .int .i64 (((n + 111) / 112 : Nat) : Int)) ∧ (Value.int .i64 (if (((n + 111) / 112 : Nat) : Int) > ((1 : Nat) : Int) then (((n + 111) / 112 : Nat) : Int) else ((1 : Nat) : Int)) = .int .i64 ((max 1 ((n + 111) / 112) : Nat) : Int)) ∧ K [⟨1, none, .slice A n c⟩, ⟨2, none, .pointer (some ⟨g1, 0, none⟩)⟩, ⟨7, none, .int .i64 ((max 1 ((n + 111) / 112) : Nat) : Int)⟩] [.box g1 27 [.int .i64 b.g, .int .i64 b.n, .int .u8 0, .int .u8 b.t, .int .i64 b.i.h, .int .i64 b.i.m, .int .i64 b.i.s, .int .i64 b.i.f, .bool b.i.d, .int .i64 b.o.h, .int .i64 b.o.m, .int .i64 b.o.s, .int .i64 b.o.f, .bool b.o.d, .int .i64 b.r, .int .u8 b.a, .bool b.c, .slice none 0 0]]) (fun K => by kernel_rfl) hF hH ?_
    refine ⟨natadd (by omega), ?_⟩
    refine ⟨(natsub (b := 1) (by omega) (by omega)).trans (by first | rfl | (congr 1; omega)), ?_⟩
    refine ⟨natquo (by omega), ?_⟩
    refine ⟨natmax _ _, ?_⟩
    clear hF hH; intro a w hF hH
    refine wl_end (by kernel_rfl) ?_
    refine then_n ?_
    refine wp_seqE (by kernel_rfl) ?_
    refine wp_seqE (by kernel_rfl) ?_
    refine wp_regE (by kernel_rfl) ?_
    refine seg [.p, .p] [1, 2, 7, 25] (fun K => K [⟨1, none, .slice A n c⟩, ⟨2, none, .pointer (some ⟨g1, 0, none⟩)⟩, ⟨7, none, .int .i64 ((max 1 ((n + 111) / 112) : Nat) : Int)⟩, ⟨25, none, .bool (decide (241 < ((max 1 ((n + 111) / 112) : Nat) : Int)))⟩] [.box g1 27 [.int .i64 b.g, .int .i64 b.n, .int .u8 0, .int .u8 b.t, .int .i64 b.i.h, .int .i64 b.i.m, .int .i64 b.i.s, .int .i64 b.i.f, .bool b.i.d, .int .i64 b.o.h, .int .i64 b.o.m, .int .i64 b.o.s, .int .i64 b.o.f, .bool b.o.d, .int .i64 b.r, .int .u8 b.a, .bool b.c, .slice none 0 0]]) (fun K => by kernel_rfl) hF hH ?_
    clear hF hH; intro a w hF hH
    refine wl_end (by kernel_rfl) ?_
    refine then_n ?_
    refine wp_condE (b := decide (241 < ((max 1 ((n + 111) / 112) : Nat) : Int))) (by kernel_rfl) (by kernel_rfl) hF (fun hb2 => ?_) (fun hb2 => ?_)
    · skip
      have hb2p := of_decide_eq_true hb2
      refine wp_seqE (by kernel_rfl) ?_
      refine wp_regE (by kernel_rfl) ?_
      refine seg [.p, .p] [4, 5] (fun K => K [⟨4, none, .slice none 0 0⟩, ⟨5, none, .int .i64 9⟩] [.box g1 27 [.int .i64 b.g, .int .i64 b.n, .int .u8 0, .int .u8 b.t, .int .i64 b.i.h, .int .i64 b.i.m, .int .i64 b.i.s, .int .i64 b.i.f, .bool b.i.d, .int .i64 b.o.h, .int .i64 b.o.m, .int .i64 b.o.s, .int .i64 b.o.f, .bool b.o.d, .int .i64 b.r, .int .u8 b.a, .bool b.c, .slice none 0 0]]) (fun K => by kernel_rfl) hF hH ?_
      clear hF hH; intro a w hF hH
      refine wl_end (by kernel_rfl) ?_
      refine then_n ?_
      refine wp_retE (by kernel_rfl) ?_
      refine then_ret ?_
      refine retE (vs := [.slice none 0 0, .int .i64 9]) (p := True) (v := .tuple #[.slice none 0 0, .int .i64 9]) [] (by kernel_rfl) trivial (by kernel_rfl) hF hH ?_
      exact split_fin0 hH b text (9) (by simp only [splitE, pieces, hl, hb1, hb2]; try rfl) (by decide)
    · skip
      have hb2p := of_decide_eq_false hb2
      refine wp_skipE (by kernel_rfl) ?_
      refine then_n ?_
      refine wp_seqE (by kernel_rfl) ?_
      refine wp_seqE (by kernel_rfl) ?_
      refine wp_regE (by kernel_rfl) ?_
      refine seg [.p] [1, 2, 7, 26] (fun K => K [⟨1, none, .slice A n c⟩, ⟨2, none, .pointer (some ⟨g1, 0, none⟩)⟩, ⟨7, none, .int .i64 ((max 1 ((n + 111) / 112) : Nat) : Int)⟩, ⟨26, none, .slice A n c⟩] [.box g1 27 [.int .i64 b.g, .int .i64 b.n, .int .u8 0, .int .u8 b.t, .int .i64 b.i.h, .int .i64 b.i.m, .int .i64 b.i.s, .int .i64 b.i.f, .bool b.i.d, .int .i64 b.o.h, .int .i64 b.o.m, .int .i64 b.o.s, .int .i64 b.o.f, .bool b.o.d, .int .i64 b.r, .int .u8 b.a, .bool b.c, .slice none 0 0]]) (fun K => by kernel_rfl) hF hH ?_
      clear hF hH; intro a w hF hH
      refine callE (d := 27) (indexByte_c A n c text (by first | rfl | assumption | (simp; done) | (simp; omega)) 143) [.n 0] (by kernel_rfl) (by kernel_rfl) hF hH ?_
      clear hF hH; rintro ⟨⟩ - a w hF hH
      refine seg [.p] [1, 2, 7, 28] (fun K => K [⟨1, none, .slice A n c⟩, ⟨2, none, .pointer (some ⟨g1, 0, none⟩)⟩, ⟨7, none, .int .i64 ((max 1 ((n + 111) / 112) : Nat) : Int)⟩, ⟨28, none, .bool (decide (0 ≤ (ixV text 143)))⟩] [.box g1 27 [.int .i64 b.g, .int .i64 b.n, .int .u8 0, .int .u8 b.t, .int .i64 b.i.h, .int .i64 b.i.m, .int .i64 b.i.s, .int .i64 b.i.f, .bool b.i.d, .int .i64 b.o.h, .int .i64 b.o.m, .int .i64 b.o.s, .int .i64 b.o.f, .bool b.o.d, .int .i64 b.r, .int .u8 b.a, .bool b.c, .slice none 0 0]]) (fun K => by kernel_rfl) hF hH ?_
      clear hF hH; intro a w hF hH
      refine wl_end (by kernel_rfl) ?_
      refine then_n ?_
      refine wp_condE (b := decide (0 ≤ (ixV text 143))) (by kernel_rfl) (by kernel_rfl) hF (fun hb3 => ?_) (fun hb3 => ?_)
      · skip
        have hb3p := of_decide_eq_true hb3
        refine wp_seqE (by kernel_rfl) ?_
        refine wp_regE (by kernel_rfl) ?_
        refine seg [.p, .p] [4, 5] (fun K => K [⟨4, none, .slice none 0 0⟩, ⟨5, none, .int .i64 4⟩] [.box g1 27 [.int .i64 b.g, .int .i64 b.n, .int .u8 0, .int .u8 b.t, .int .i64 b.i.h, .int .i64 b.i.m, .int .i64 b.i.s, .int .i64 b.i.f, .bool b.i.d, .int .i64 b.o.h, .int .i64 b.o.m, .int .i64 b.o.s, .int .i64 b.o.f, .bool b.o.d, .int .i64 b.r, .int .u8 b.a, .bool b.c, .slice none 0 0]]) (fun K => by kernel_rfl) hF hH ?_
        clear hF hH; intro a w hF hH
        refine wl_end (by kernel_rfl) ?_
        refine then_n ?_
        refine wp_retE (by kernel_rfl) ?_
        refine then_ret ?_
        refine retE (vs := [.slice none 0 0, .int .i64 4]) (p := True) (v := .tuple #[.slice none 0 0, .int .i64 4]) [] (by kernel_rfl) trivial (by kernel_rfl) hF hH ?_
        exact split_fin0 hH b text (4) (by simp only [splitE, pieces, hl, hb1, hb2, hb3]; try rfl) (by decide)
      · skip
        have hb3p := of_decide_eq_false hb3
        refine wp_skipE (by kernel_rfl) ?_
        refine then_n ?_
        refine wp_seqE (by kernel_rfl) ?_
        refine wp_regE (by kernel_rfl) ?_
        refine seg [.p] [1, 2, 7, 8] (fun K => K [⟨1, none, .slice A n c⟩, ⟨2, none, .pointer (some ⟨g1, 0, none⟩)⟩, ⟨7, none, .int .i64 ((max 1 ((n + 111) / 112) : Nat) : Int)⟩, ⟨8, none, .slice none 0 0⟩] [.box g1 27 [.int .i64 b.g, .int .i64 b.n, .int .u8 0, .int .u8 b.t, .int .i64 b.i.h, .int .i64 b.i.m, .int .i64 b.i.s, .int .i64 b.i.f, .bool b.i.d, .int .i64 b.o.h, .int .i64 b.o.m, .int .i64 b.o.s, .int .i64 b.o.f, .bool b.o.d, .int .i64 b.r, .int .u8 b.a, .bool b.c, .slice none 0 0]]) (fun K => by kernel_rfl) hF hH ?_
        clear hF hH; intro a w hF hH
        refine wl_end (by kernel_rfl) ?_
        refine then_n ?_
        refine wp_seqE (by kernel_rfl) ?_
        refine wp_seqE (by kernel_rfl) ?_
        refine wp_regE (by kernel_rfl) ?_
        refine seg [.p, .p] [1, 2, 7, 8, 29, 30] (fun K => K [⟨1, none, .slice A n c⟩, ⟨2, none, .pointer (some ⟨g1, 0, none⟩)⟩, ⟨7, none, .int .i64 ((max 1 ((n + 111) / 112) : Nat) : Int)⟩, ⟨8, none, .slice none 0 0⟩, ⟨29, none, .int .i64 ((max 1 ((n + 111) / 112) : Nat) : Int)⟩, ⟨30, none, .int .i64 0⟩] [.box g1 27 [.int .i64 b.g, .int .i64 b.n, .int .u8 0, .int .u8 b.t, .int .i64 b.i.h, .int .i64 b.i.m, .int .i64 b.i.s, .int .i64 b.i.f, .bool b.i.d, .int .i64 b.o.h, .int .i64 b.o.m, .int .i64 b.o.s, .int .i64 b.o.f, .bool b.o.d, .int .i64 b.r, .int .u8 b.a, .bool b.c, .slice none 0 0]]) (fun K => by kernel_rfl) hF hH ?_
        clear hF hH; intro a w hF hH
        refine wl_end (by kernel_rfl) ?_
        refine then_n ?_
        refine wp_blockE (id := 0) (by kernel_rfl) ?_
        have hH := hH.nilRow 27 18
        have hH := hH.fam0 (blksR [])
        refine wp_loopE (by kernel_rfl) (fun msr a w => ∃ (k : Nat), ∃ (Ao : Option Addr), ∃ (co : Nat), ∃ (xs : List Value), ∃ (bl : List BT), msr = max 1 ((n + 111) / 112) - k ∧ (k ≤ max 1 ((n + 111) / 112)) ∧ (bl.length = k) ∧ (xs = bl.flatMap BT.cells) ∧ (bl.map BT.data = (List.range k).map (piece b text (max 1 ((n + 111) / 112)))) ∧ Fr 60 [⟨1, none, .slice A n c⟩, ⟨2, none, .pointer (some ⟨g1, 0, none⟩)⟩, ⟨7, none, .int .i64 ((max 1 ((n + 111) / 112) : Nat) : Int)⟩, ⟨8, none, .slice Ao k co⟩, ⟨29, none, .int .i64 ((max 1 ((n + 111) / 112) : Nat) : Int)⟩, ⟨30, none, .int .i64 ((k : Nat) : Int)⟩] a ∧ Hp w0 [.view A n c 1 (byE text), .view none 0 0 1 (byE [])] [.box g1 27 [.int .i64 b.g, .int .i64 b.n, .int .u8 0, .int .u8 b.t, .int .i64 b.i.h, .int .i64 b.i.m, .int .i64 b.i.s, .int .i64 b.i.f, .bool b.i.d, .int .i64 b.o.h, .int .i64 b.o.m, .int .i64 b.o.s, .int .i64 b.o.f, .bool b.o.d, .int .i64 b.r, .int .u8 b.a, .bool b.c, .slice none 0 0], .row Ao co 27 18 k xs, .fam k (blksR bl)] w) _ ⟨0, none, 0, [], [], rfl, Nat.zero_le _, rfl, rfl, rfl, frK hF [1, 2, 7, 8, 29, 30] (by kernel_rfl), hpKN hH [0, 1] [0, 1, 2] (by kernel_rfl) (by kernel_rfl) (by kernel_rfl)⟩ ?_
        clear hF hH; rintro msr a w ⟨k, Ao, co, xs, bl, rfl, hk, hl2, hx, hd, hF, hH⟩
        refine wp_seqE (by kernel_rfl) ?_
        refine wp_regE (by kernel_rfl) ?_
        refine seg [.p] [1, 2, 7, 8, 29, 30, 31] (fun K => K [⟨1, none, .slice A n c⟩, ⟨2, none, .pointer (some ⟨g1, 0, none⟩)⟩, ⟨7, none, .int .i64 ((max 1 ((n + 111) / 112) : Nat) : Int)⟩, ⟨8, none, .slice Ao k co⟩, ⟨29, none, .int .i64 ((max 1 ((n + 111) / 112) : Nat) : Int)⟩, ⟨30, none, .int .i64 ((k : Nat) : Int)⟩, ⟨31, none, .bool (decide (((k : Nat) : Int) < ((max 1 ((n + 111) / 112) : Nat) : Int)))⟩] [.box g1 27 [.int .i64 b.g, .int .i64 b.n, .int .u8 0, .int .u8 b.t, .int .i64 b.i.h, .int .i64 b.i.m, .int .i64 b.i.s, .int .i64 b.i.f, .bool b.i.d, .int .i64 b.o.h, .int .i64 b.o.m, .int .i64 b.o.s, .int .i64 b.o.f, .bool b.o.d, .int .i64 b.r, .int .u8 b.a, .bool b.c, .slice none 0 0], .row Ao co 27 18 k xs, .fam k (blksR bl)]) (fun K => by kernel_rfl) hF hH ?_
        clear hF hH; intro a w hF hH
        refine wl_end (by kernel_rfl) ?_
        refine then_n ?_
        refine wp_seqE (by kernel_rfl) ?_
        refine wp_condE (b := decide (((k : Nat) : Int) < ((max 1 ((n + 111) / 112) : Nat) : Int))) (by kernel_rfl) (by kernel_rfl) hF (fun hb4 => ?_) (fun hb4 => ?_)
        · skip
          have hb4p := of_decide_eq_true hb4
          refine wp_skipE (by kernel_rfl) ?_
          refine then_n ?_
          refine wp_seqE (by kernel_rfl) ?_
          refine wp_blockE (id := 1) (by kernel_rfl) ?_
          refine wp_seqE (by kernel_rfl) ?_
          refine wp_regE (by kernel_rfl) ?_
          refine seg [.p, .p] [1, 2, 7, 8, 29, 30, 9] (fun K => K [⟨1, none, .slice A n c⟩, ⟨2, none, .pointer (some ⟨g1, 0, none⟩)⟩, ⟨7, none, .int .i64 ((max 1 ((n + 111) / 112) : Nat) : Int)⟩, ⟨8, none, .slice Ao k co⟩, ⟨29, none, .int .i64 ((max 1 ((n + 111) / 112) : Nat) : Int)⟩, ⟨30, none, .int .i64 ((k : Nat) : Int)⟩, ⟨9, none, .int .i64 ((k : Nat) : Int)⟩] [.box g1 27 [.int .i64 b.g, .int .i64 b.n, .int .u8 0, .int .u8 b.t, .int .i64 b.i.h, .int .i64 b.i.m, .int .i64 b.i.s, .int .i64 b.i.f, .bool b.i.d, .int .i64 b.o.h, .int .i64 b.o.m, .int .i64 b.o.s, .int .i64 b.o.f, .bool b.o.d, .int .i64 b.r, .int .u8 b.a, .bool b.c, .slice none 0 0], .row Ao co 27 18 k xs, .fam k (blksR bl)]) (fun K => by kernel_rfl) hF hH ?_
          clear hF hH; intro a w hF hH
          refine wl_end (by kernel_rfl) ?_
          refine then_n ?_
          refine wp_seqE (by kernel_rfl) ?_
          refine wp_regE (by kernel_rfl) ?_
          refine seg [.ld (.r 0), .al, .st 3] [1, 2, 7, 8, 29, 30, 9, 10] (fun K => ((g1 : Nat) = g1 ∧ (none : Option Nat) = none) ∧ ∀ g2, ((g2 : Nat) = g2 ∧ (none : Option Nat) = none) ∧ K [⟨1, none, .slice A n c⟩, ⟨2, none, .pointer (some ⟨g1, 0, none⟩)⟩, ⟨7, none, .int .i64 ((max 1 ((n + 111) / 112) : Nat) : Int)⟩, ⟨8, none, .slice Ao k co⟩, ⟨29, none, .int .i64 ((max 1 ((n + 111) / 112) : Nat) : Int)⟩, ⟨30, none, .int .i64 ((k : Nat) : Int)⟩, ⟨9, none, .int .i64 ((k : Nat) : Int)⟩, ⟨10, none, .pointer (some ⟨g2, 0, none⟩)⟩] [.box g1 27 [.int .i64 b.g, .int .i64 b.n, .int .u8 0, .int .u8 b.t, .int .i64 b.i.h, .int .i64 b.i.m, .int .i64 b.i.s, .int .i64 b.i.f, .bool b.i.d, .int .i64 b.o.h, .int .i64 b.o.m, .int .i64 b.o.s, .int .i64 b.o.f, .bool b.o.d, .int .i64 b.r, .int .u8 b.a, .bool b.c, .slice none 0 0], .row Ao co 27 18 k xs, .fam k (blksR bl), .box g2 27 [.int .i64 b.g, .int .i64 b.n, .int .u8 0, .int .u8 b.t, .int .i64 b.i.h, .int .i64 b.i.m, .int .i64 b.i.s, .int .i64 b.i.f, .bool b.i.d, .int .i64 b.o.h, .int .i64 b.o.m, .int .i64 b.o.s, .int .i64 b.o.f, .bool b.o.d, .int .i64 b.r, .int .u8 b.a, .bool b.c, .slice none 0 0]]) (fun K => by kernel_rfl) hF hH ?_
          refine ⟨⟨rfl, rfl⟩, ?_⟩
          intro g2
          refine ⟨⟨rfl, rfl⟩, ?_⟩
          clear hF hH; intro a w hF hH
          refine wl_end (by kernel_rfl) ?_
          refine then_n ?_
          refine wp_seqE (by kernel_rfl) ?_
          refine wp_regE (by kernel_rfl) ?_
          refine seg [.p, .pv (.int .u8 (((k : Nat) : Int) % 256)), .p, .st 3] [1, 2, 7, 8, 29, 30, 9, 10] (fun K => (Value.int .u8 (IntKind.wrap .u8 ((k : Nat) : Int)) = .int .u8 (((k : Nat) : Int) % 256)) ∧ ((g2 : Nat) = g2 ∧ (none : Option Nat) = none) ∧ K [⟨1, none, .slice A n c⟩, ⟨2, none, .pointer (some ⟨g1, 0, none⟩)⟩, ⟨7, none, .int .i64 ((max 1 ((n + 111) / 112) : Nat) : Int)⟩, ⟨8, none, .slice Ao k co⟩, ⟨29, none, .int .i64 ((max 1 ((n + 111) / 112) : Nat) : Int)⟩, ⟨30, none, .int .i64 ((k : Nat) : Int)⟩, ⟨9, none, .int .i64 ((k : Nat) : Int)⟩, ⟨10, none, .pointer (some ⟨g2, 0, none⟩)⟩] [.box g1 27 [.int .i64 b.g, .int .i64 b.n, .int .u8 0, .int .u8 b.t, .int .i64 b.i.h, .int .i64 b.i.m, .int .i64 b.i.s, .int .i64 b.i.f, .bool b.i.d, .int .i64 b.o.h, .int .i64 b.o.m, .int .i64 b.o.s, .int .i64 b.o.f, .bool b.o.d, .int .i64 b.r, .int .u8 b.a, .bool b.c, .slice none 0 0], .row Ao co 27 18 k xs, .fam k (blksR bl), .box g2 27 [.int .i64 b.g, .int .i64 b.n, .int .u8 (((k : Nat) : Int) % 256), .int .u8 b.t, .int .i64 b.i.h, .int .i64 b.i.m, .int .i64 b.i.s, .int .i64 b.i.f, .bool b.i.d, .int .i64 b.o.h, .int .i64 b.o.m, .int .i64 b.o.s, .int .i64 b.o.f, .bool b.o.d, .int .i64 b.r, .int .u8 b.a, .bool b.c, .slice none 0 0]]) (fun K => by kernel_rfl) hF hH ?_
          refine ⟨wru8 _, ?_⟩
          refine ⟨⟨rfl, rfl⟩, ?_⟩
          clear hF hH; intro a w hF hH
          refine wl_end (by kernel_rfl) ?_
          refine then_n ?_
          refine wp_seqE (by kernel_rfl) ?_
          refine wp_seqE (by kernel_rfl) ?_
          refine wp_regE (by kernel_rfl) ?_
          refine seg [.p, .p, .pv (.int .i64 (((max 1 ((n + 111) / 112) : Nat) : Int) - 1)), .p] [1, 2, 7, 8, 29, 30, 9, 10, 40] (fun K => (Value.int .i64 (IntKind.wrap .i64 (((max 1 ((n + 111) / 112) : Nat) : Int) - 1)) = .int .i64 (((max 1 ((n + 111) / 112) : Nat) : Int) - 1)) ∧ K [⟨1, none, .slice A n c⟩, ⟨2, none, .pointer (some ⟨g1, 0, none⟩)⟩, ⟨7, none, .int .i64 ((max 1 ((n + 111) / 112) : Nat) : Int)⟩, ⟨8, none, .slice Ao k co⟩, ⟨29, none, .int .i64 ((max 1 ((n + 111) / 112) : Nat) : Int)⟩, ⟨30, none, .int .i64 ((k : Nat) : Int)⟩, ⟨9, none, .int .i64 ((k : Nat) : Int)⟩, ⟨10, none, .pointer (some ⟨g2, 0, none⟩)⟩, ⟨40, none, .bool (((k : Nat) : Int) == (((max 1 ((n + 111) / 112) : Nat) : Int) - 1))⟩] [.box g1 27 [.int .i64 b.g, .int .i64 b.n, .int .u8 0, .int .u8 b.t, .int .i64 b.i.h, .int .i64 b.i.m, .int .i64 b.i.s, .int .i64 b.i.f, .bool b.i.d, .int .i64 b.o.h, .int .i64 b.o.m, .int .i64 b.o.s, .int .i64 b.o.f, .bool b.o.d, .int .i64 b.r, .int .u8 b.a, .bool b.c, .slice none 0 0], .row Ao co 27 18 k xs, .fam k (blksR bl), .box g2 27 [.int .i64 b.g, .int .i64 b.n, .int .u8 (((k : Nat) : Int) % 256), .int .u8 b.t, .int .i64 b.i.h, .int .i64 b.i.m, .int .i64 b.i.s, .int .i64 b.i.f, .bool b.i.d, .int .i64 b.o.h, .int .i64 b.o.m, .int .i64 b.o.s, .int .i64 b.o.f, .bool b.o.d, .int .i64 b.r, .int .u8 b.a, .bool b.c, .slice none 0 0]]) (fun K => by kernel_rfl) hF hH ?_
          refine ⟨wr64 (by omega), ?_⟩
          clear hF hH; intro a w hF hH
          refine wl_end (by kernel_rfl) ?_
          refine then_n ?_
          refine wp_condE (b := ((k : Nat) : Int) == (((max 1 ((n + 111) / 112) : Nat) : Int) - 1)) (by kernel_rfl) (by kernel_rfl) hF (fun hb5 => ?_) (fun hb5 => ?_)
          · skip
            have hb5p := eq_of_beq hb5
            refine wp_regE (by kernel_rfl) ?_
            refine seg [.p, .st 3] [1, 2, 7, 8, 29, 30, 9, 10] (fun K => ((g2 : Nat) = g2 ∧ (none : Option Nat) = none) ∧ K [⟨1, none, .slice A n c⟩, ⟨2, none, .pointer (some ⟨g1, 0, none⟩)⟩, ⟨7, none, .int .i64 ((max 1 ((n + 111) / 112) : Nat) : Int)⟩, ⟨8, none, .slice Ao k co⟩, ⟨29, none, .int .i64 ((max 1 ((n + 111) / 112) : Nat) : Int)⟩, ⟨30, none, .int .i64 ((k : Nat) : Int)⟩, ⟨9, none, .int .i64 ((k : Nat) : Int)⟩, ⟨10, none, .pointer (some ⟨g2, 0, none⟩)⟩] [.box g1 27 [.int .i64 b.g, .int .i64 b.n, .int .u8 0, .int .u8 b.t, .int .i64 b.i.h, .int .i64 b.i.m, .int .i64 b.i.s, .int .i64 b.i.f, .bool b.i.d, .int .i64 b.o.h, .int .i64 b.o.m, .int .i64 b.o.s, .int .i64 b.o.f, .bool b.o.d, .int .i64 b.r, .int .u8 b.a, .bool b.c, .slice none 0 0], .row Ao co 27 18 k xs, .fam k (blksR bl), .box g2 27 [.int .i64 b.g, .int .i64 b.n, .int .u8 255, .int .u8 b.t, .int .i64 b.i.h, .int .i64 b.i.m, .int .i64 b.i.s, .int .i64 b.i.f, .bool b.i.d, .int .i64 b.o.h, .int .i64 b.o.m, .int .i64 b.o.s, .int .i64 b.o.f, .bool b.o.d, .int .i64 b.r, .int .u8 b.a, .bool b.c, .slice none 0 0]]) (fun K => by kernel_rfl) hF hH ?_
            refine ⟨⟨rfl, rfl⟩, ?_⟩
            clear hF hH; intro a w hF hH
            refine wl_end (by kernel_rfl) ?_
            refine then_n ?_
            refine wp_seqE (by kernel_rfl) ?_
            refine wp_regE (by kernel_rfl) ?_
            refine seg [.p, .p, .pv (.int .i64 ((k * 112 : Nat) : Int)), .p, .p, .p, .pv (.int .i64 ((k + 1 : Nat) : Int)), .pv (.int .i64 (((k + 1) * 112 : Nat) : Int)), .pv (.int .i64 ((min n ((k + 1) * 112) : Nat) : Int)), .sl (k * 112) (min n ((k + 1) * 112))] [1, 2, 7, 8, 29, 30, 10, 51] (fun K => (Value.int .i64 (IntKind.wrap .i64 (((k : Nat) : Int) * ((112 : Nat) : Int))) = .int .i64 ((k * 112 : Nat) : Int)) ∧ (Value.int .i64 (IntKind.wrap .i64 (((k : Nat) : Int) + ((1 : Nat) : Int))) = .int .i64 ((k + 1 : Nat) : Int)) ∧ (Value.int .i64 (IntKind.wrap .i64 (((k + 1 : Nat) : Int) * ((112 : Nat) : Int))) = .int .i64 (((k + 1) * 112 : Nat) : Int)) ∧ (Value.int .i64 (if (((k + 1) * 112 : Nat) : Int) < ((n : Nat) : Int) then (((k + 1) * 112 : Nat) : Int) else ((n : Nat) : Int)) = .int .i64 ((min n ((k + 1) * 112) : Nat) : Int)) ∧ ((((k * 112 : Nat) : Int) : Int) = ((k * 112 : Nat) : Int) ∧ (((min n ((k + 1) * 112) : Nat) : Int) : Int) = ((min n ((k + 1) * 112) : Nat) : Int) ∧ k * 112 ≤ min n ((k + 1) * 112) ∧ min n ((k + 1) * 112) ≤ c) ∧ K [⟨1, none, .slice A n c⟩, ⟨2, none, .pointer (some ⟨g1, 0, none⟩)⟩, ⟨7, none, .int .i64 ((max 1 ((n + 111) / 112) : Nat) : Int)⟩, ⟨8, none, .slice Ao k co⟩, ⟨29, none, .int .i64 ((max 1 ((n + 111) / 112) : Nat) : Int)⟩, ⟨30, none, .int .i64 ((k : Nat) : Int)⟩, ⟨10, none, .pointer (some ⟨g2, 0, none⟩)⟩, ⟨51, none, .slice (cutA A c (k * 112) 1) ((min n ((k + 1) * 112)) - (k * 112)) (c - (k * 112))⟩] [.box g1 27 [.int .i64 b.g, .int .i64 b.n, .int .u8 0, .int .u8 b.t, .int .i64 b.i.h, .int .i64 b.i.m, .int .i64 b.i.s, .int .i64 b.i.f, .bool b.i.d, .int .i64 b.o.h, .int .i64 b.o.m, .int .i64 b.o.s, .int .i64 b.o.f, .bool b.o.d, .int .i64 b.r, .int .u8 b.a, .bool b.c, .slice none 0 0], .row Ao co 27 18 k xs, .fam k (blksR bl), .box g2 27 [.int .i64 b.g, .int .i64 b.n, .int .u8 255, .int .u8 b.t, .int .i64 b.i.h, .int .i64 b.i.m, .int .i64 b.i.s, .int .i64 b.i.f, .bool b.i.d, .int .i64 b.o.h, .int .i64 b.o.m, .int .i64 b.o.s, .int .i64 b.o.f, .bool b.o.d, .int .i64 b.r, .int .u8 b.a, .bool b.c, .slice none 0 0]]) (fun K => by kernel_rfl) hF hH ?_
            refine ⟨natmul (by omega), ?_⟩
            refine ⟨natadd (by omega), ?_⟩
            refine ⟨natmul (by omega), ?_⟩
            refine ⟨natmin _ _, ?_⟩
            refine ⟨⟨by omega, by omega, by omega, by omega⟩, ?_⟩
            clear hF hH; intro a w hF hH
            have hH := hH.cutBN (k := 0) rfl (k * 112) (min n ((k + 1) * 112)) (by omega) (by omega)
            refine callE (d := 52) (clone_c (cutA A c (k * 112) 1) ((min n ((k + 1) * 112)) - (k * 112)) (c - (k * 112)) ((text.drop (k * 112)).take (min n ((k + 1) * 112) - k * 112)) (by first | rfl | assumption | (simp; done) | (simp; omega)) (by omega)) [.n 2] (by kernel_rfl) (by kernel_rfl) hF hH ?_
            clear hF hH; rintro ⟨A1, c1⟩ - a w hF hH
            refine seg [.p, .st 3] [1, 2, 7, 8, 29, 30, 10] (fun K => ((g2 : Nat) = g2 ∧ (none : Option Nat) = none) ∧ K [⟨1, none, .slice A n c⟩, ⟨2, none, .pointer (some ⟨g1, 0, none⟩)⟩, ⟨7, none, .int .i64 ((max 1 ((n + 111) / 112) : Nat) : Int)⟩, ⟨8, none, .slice Ao k co⟩, ⟨29, none, .int .i64 ((max 1 ((n + 111) / 112) : Nat) : Int)⟩, ⟨30, none, .int .i64 ((k : Nat) : Int)⟩, ⟨10, none, .pointer (some ⟨g2, 0, none⟩)⟩] [.box g1 27 [.int .i64 b.g, .int .i64 b.n, .int .u8 0, .int .u8 b.t, .int .i64 b.i.h, .int .i64 b.i.m, .int .i64 b.i.s, .int .i64 b.i.f, .bool b.i.d, .int .i64 b.o.h, .int .i64 b.o.m, .int .i64 b.o.s, .int .i64 b.o.f, .bool b.o.d, .int .i64 b.r, .int .u8 b.a, .bool b.c, .slice none 0 0], .row Ao co 27 18 k xs, .fam k (blksR bl), .box g2 27 [.int .i64 b.g, .int .i64 b.n, .int .u8 255, .int .u8 b.t, .int .i64 b.i.h, .int .i64 b.i.m, .int .i64 b.i.s, .int .i64 b.i.f, .bool b.i.d, .int .i64 b.o.h, .int .i64 b.o.m, .int .i64 b.o.s, .int .i64 b.o.f, .bool b.o.d, .int .i64 b.r, .int .u8 b.a, .bool b.c, .slice A1 ((min n ((k + 1) * 112)) - (k * 112)) c1], .row A1 c1 5 1 ((min n ((k + 1) * 112)) - (k * 112)) (byC ((text.drop (k * 112)).take (min n ((k + 1) * 112) - k * 112)))]) (fun K => by kernel_rfl) hF hH ?_
            refine ⟨⟨rfl, rfl⟩, ?_⟩
            clear hF hH; intro a w hF hH
            refine wl_end (by kernel_rfl) ?_
            refine then_n ?_
            refine wp_regE (by kernel_rfl) ?_
            refine seg [.p, .ld (.r 3), .bs, .ap 1 (.r 5) ([.int .i64 b.g, .int .i64 b.n, .int .u8 255, .int .u8 b.t, .int .i64 b.i.h, .int .i64 b.i.m, .int .i64 b.i.s, .int .i64 b.i.f, .bool b.i.d, .int .i64 b.o.h, .int .i64 b.o.m, .int .i64 b.o.s, .int .i64 b.o.f, .bool b.o.d, .int .i64 b.r, .int .u8 b.a, .bool b.c, .slice A1 ((min n ((k + 1) * 112)) - (k * 112)) c1]), .p] [1, 2, 7, 29, 30, 8] (fun K => ((g2 : Nat) = g2 ∧ (none : Option Nat) = none) ∧ ∀ g3, (((Ao) : Option Addr) = Ao ∧ (co : Nat) = co ∧ (k : Nat) = k ∧ srcP (.box g3 27 [.int .i64 b.g, .int .i64 b.n, .int .u8 255, .int .u8 b.t, .int .i64 b.i.h, .int .i64 b.i.m, .int .i64 b.i.s, .int .i64 b.i.f, .bool b.i.d, .int .i64 b.o.h, .int .i64 b.o.m, .int .i64 b.o.s, .int .i64 b.o.f, .bool b.o.d, .int .i64 b.r, .int .u8 b.a, .bool b.c, .slice A1 ((min n ((k + 1) * 112)) - (k * 112)) c1]) (some ⟨g3, 0, none⟩) 1 18 ([.int .i64 b.g, .int .i64 b.n, .int .u8 255, .int .u8 b.t, .int .i64 b.i.h, .int .i64 b.i.m, .int .i64 b.i.s, .int .i64 b.i.f, .bool b.i.d, .int .i64 b.o.h, .int .i64 b.o.m, .int .i64 b.o.s, .int .i64 b.o.f, .bool b.o.d, .int .i64 b.r, .int .u8 b.a, .bool b.c, .slice A1 ((min n ((k + 1) * 112)) - (k * 112)) c1]) ∧ (∀ u ∈ ([.int .i64 b.g, .int .i64 b.n, .int .u8 255, .int .u8 b.t, .int .i64 b.i.h, .int .i64 b.i.m, .int .i64 b.i.s, .int .i64 b.i.f, .bool b.i.d, .int .i64 b.o.h, .int .i64 b.o.m, .int .i64 b.o.s, .int .i64 b.o.f, .bool b.o.d, .int .i64 b.r, .int .u8 b.a, .bool b.c, .slice A1 ((min n ((k + 1) * 112)) - (k * 112)) c1] : List Value), u.oneCell' = true) ∧ k + 1 ≤ maxLen ∧ (k + 1) * 144 ≤ 140737488355328) ∧ ∀ A2 c2, K [⟨1, none, .slice A n c⟩, ⟨2, none, .pointer (some ⟨g1, 0, none⟩)⟩, ⟨7, none, .int .i64 ((max 1 ((n + 111) / 112) : Nat) : Int)⟩, ⟨29, none, .int .i64 ((max 1 ((n + 111) / 112) : Nat) : Int)⟩, ⟨30, none, .int .i64 ((k : Nat) : Int)⟩, ⟨8, none, .slice A2 (k + 1) c2⟩] [.box g1 27 [.int .i64 b.g, .int .i64 b.n, .int .u8 0, .int .u8 b.t, .int .i64 b.i.h, .int .i64 b.i.m, .int .i64 b.i.s, .int .i64 b.i.f, .bool b.i.d, .int .i64 b.o.h, .int .i64 b.o.m, .int .i64 b.o.s, .int .i64 b.o.f, .bool b.o.d, .int .i64 b.r, .int .u8 b.a, .bool b.c, .slice none 0 0], .row A2 c2 27 18 (k + 1) (xs ++ ([.int .i64 b.g, .int .i64 b.n, .int .u8 255, .int .u8 b.t, .int .i64 b.i.h, .int .i64 b.i.m, .int .i64 b.i.s, .int .i64 b.i.f, .bool b.i.d, .int .i64 b.o.h, .int .i64 b.o.m, .int .i64 b.o.s, .int .i64 b.o.f, .bool b.o.d, .int .i64 b.r, .int .u8 b.a, .bool b.c, .slice A1 ((min n ((k + 1) * 112)) - (k * 112)) c1])), .fam k (blksR bl), .box g2 27 [.int .i64 b.g, .int .i64 b.n, .int .u8 255, .int .u8 b.t, .int .i64 b.i.h, .int .i64 b.i.m, .int .i64 b.i.s, .int .i64 b.i.f, .bool b.i.d, .int .i64 b.o.h, .int .i64 b.o.m, .int .i64 b.o.s, .int .i64 b.o.f, .bool b.o.d, .int .i64 b.r, .int .u8 b.a, .bool b.c, .slice A1 ((min n ((k + 1) * 112)) - (k * 112)) c1], .row A1 c1 5 1 ((min n ((k + 1) * 112)) - (k * 112)) (byC ((text.drop (k * 112)).take (min n ((k + 1) * 112) - k * 112))), .box g3 27 [.int .i64 b.g, .int .i64 b.n, .int .u8 255, .int .u8 b.t, .int .i64 b.i.h, .int .i64 b.i.m, .int .i64 b.i.s, .int .i64 b.i.f, .bool b.i.d, .int .i64 b.o.h, .int .i64 b.o.m, .int .i64 b.o.s, .int .i64 b.o.f, .bool b.o.d, .int .i64 b.r, .int .u8 b.a, .bool b.c, .slice A1 ((min n ((k + 1) * 112)) - (k * 112)) c1]]) (fun K => by kernel_rfl) hF hH ?_
            refine ⟨⟨rfl, rfl⟩, ?_⟩
            intro g3
            refine ⟨⟨rfl, rfl, rfl, ⟨rfl, rfl, rfl⟩, (by intro u hu; simp only [List.mem_cons, List.not_mem_nil, or_false] at hu; rcases hu with rfl | rfl | rfl | rfl | rfl | rfl | rfl | rfl | rfl | rfl | rfl | rfl | rfl | rfl | rfl | rfl | rfl | rfl <;> rfl), by (unfold maxLen; omega), by omega⟩, ?_⟩
            intro A2 c2
            clear hF hH; intro a w hF hH
            refine wl_end (by kernel_rfl) ?_
            refine block_n ?_
            refine then_n ?_
            refine wp_regE (by kernel_rfl) ?_
            refine seg [.pv (.int .i64 ((k + 1 : Nat) : Int)), .p] [1, 2, 7, 29, 8, 30] (fun K => (Value.int .i64 (IntKind.wrap .i64 (((k : Nat) : Int) + ((1 : Nat) : Int))) = .int .i64 ((k + 1 : Nat) : Int)) ∧ K [⟨1, none, .slice A n c⟩, ⟨2, none, .pointer (some ⟨g1, 0, none⟩)⟩, ⟨7, none, .int .i64 ((max 1 ((n + 111) / 112) : Nat) : Int)⟩, ⟨29, none, .int .i64 ((max 1 ((n + 111) / 112) : Nat) : Int)⟩, ⟨8, none, .slice A2 (k + 1) c2⟩, ⟨30, none, .int .i64 ((k + 1 : Nat) : Int)⟩] [.box g1 27 [.int .i64 b.g, .int .i64 b.n, .int .u8 0, .int .u8 b.t, .int .i64 b.i.h, .int .i64 b.i.m, .int .i64 b.i.s, .int .i64 b.i.f, .bool b.i.d, .int .i64 b.o.h, .int .i64 b.o.m, .int .i64 b.o.s, .int .i64 b.o.f, .bool b.o.d, .int .i64 b.r, .int .u8 b.a, .bool b.c, .slice none 0 0], .row A2 c2 27 18 (k + 1) (xs ++ ([.int .i64 b.g, .int .i64 b.n, .int .u8 255, .int .u8 b.t, .int .i64 b.i.h, .int .i64 b.i.m, .int .i64 b.i.s, .int .i64 b.i.f, .bool b.i.d, .int .i64 b.o.h, .int .i64 b.o.m, .int .i64 b.o.s, .int .i64 b.o.f, .bool b.o.d, .int .i64 b.r, .int .u8 b.a, .bool b.c, .slice A1 ((min n ((k + 1) * 112)) - (k * 112)) c1])), .fam k (blksR bl), .box g2 27 [.int .i64 b.g, .int .i64 b.n, .int .u8 255, .int .u8 b.t, .int .i64 b.i.h, .int .i64 b.i.m, .int .i64 b.i.s, .int .i64 b.i.f, .bool b.i.d, .int .i64 b.o.h, .int .i64 b.o.m, .int .i64 b.o.s, .int .i64 b.o.f, .bool b.o.d, .int .i64 b.r, .int .u8 b.a, .bool b.c, .slice A1 ((min n ((k + 1) * 112)) - (k * 112)) c1], .row A1 c1 5 1 ((min n ((k + 1) * 112)) - (k * 112)) (byC ((text.drop (k * 112)).take (min n ((k + 1) * 112) - k * 112))), .box g3 27 [.int .i64 b.g, .int .i64 b.n, .int .u8 255, .int .u8 b.t, .int .i64 b.i.h, .int .i64 b.i.m, .int .i64 b.i.s, .int .i64 b.i.f, .bool b.i.d, .int .i64 b.o.h, .int .i64 b.o.m, .int .i64 b.o.s, .int .i64 b.o.f, .bool b.o.d, .int .i64 b.r, .int .u8 b.a, .bool b.c, .slice A1 ((min n ((k + 1) * 112)) - (k * 112)) c1]]) (fun K => by kernel_rfl) hF hH ?_
            refine ⟨natadd (by omega), ?_⟩
            clear hF hH; intro a w hF hH
            refine wl_end (by kernel_rfl) ?_
            refine then_n ?_
            have hH := hH.rowView (k := 4) rfl (byE ((text.drop (k * 112)).take (min n ((k + 1) * 112) - k * 112))) (by_rowN _ (by rw [List.length_take, List.length_drop, hl]; omega))
            have ht : ((text.drop (k * 112)).take (min n ((k + 1) * 112) - k * 112)).length = min n ((k + 1) * 112) - k * 112 := by rw [List.length_take, List.length_drop, hl]; omega
            have hH := hH.famPush (k := 2) (j := 4) (r' := blksR (bl ++ [(⟨{ b with e := 255 }, A1, c1, (text.drop (k * 112)).take (min n ((k + 1) * 112) - k * 112)⟩ : BT)])) rfl rfl rfl (blksR_old bl _ k hl2) ((blksR_new bl _ k hl2).trans (by simp only [BT.res, ht]))
            exact ⟨_, by omega, k + 1, A2, c2, xs ++ ([.int .i64 b.g, .int .i64 b.n, .int .u8 255, .int .u8 b.t, .int .i64 b.i.h, .int .i64 b.i.m, .int .i64 b.i.s, .int .i64 b.i.f, .bool b.i.d, .int .i64 b.o.h, .int .i64 b.o.m, .int .i64 b.o.s, .int .i64 b.o.f, .bool b.o.d, .int .i64 b.r, .int .u8 b.a, .bool b.c, .slice A1 ((min n ((k + 1) * 112)) - (k * 112)) c1]), bl ++ [(⟨{ b with e := 255 }, A1, c1, (text.drop (k * 112)).take (min n ((k + 1) * 112) - k * 112)⟩ : BT)], rfl, by omega, by simp [hl2], by rw [hx]; simp [BT.cells, ht], by rw [List.map_append, hd, List.range_succ, List.map_append]; simp [BT.data, piece, hl]; omega, frK hF [1, 2, 7, 8, 29, 30] (by kernel_rfl), hpKN hH [0, 1] [0, 1, 2] (by kernel_rfl) (by kernel_rfl) (by kernel_rfl)⟩
          · skip
            have hb5p := ne_of_beq_false hb5
            refine wp_skipE (by kernel_rfl) ?_
            refine then_n ?_
            refine wp_seqE (by kernel_rfl) ?_
            refine wp_regE (by kernel_rfl) ?_
            refine seg [.p, .p, .pv (.int .i64 ((k * 112 : Nat) : Int)), .p, .p, .p, .pv (.int .i64 ((k + 1 : Nat) : Int)), .pv (.int .i64 (((k + 1) * 112 : Nat) : Int)), .pv (.int .i64 ((min n ((k + 1) * 112) : Nat) : Int)), .sl (k * 112) (min n ((k + 1) * 112))] [1, 2, 7, 8, 29, 30, 10, 51] (fun K => (Value.int .i64 (IntKind.wrap .i64 (((k : Nat) : Int) * ((112 : Nat) : Int))) = .int .i64 ((k * 112 : Nat) : Int)) ∧ (Value.int .i64 (IntKind.wrap .i64 (((k : Nat) : Int) + ((1 : Nat) : Int))) = .int .i64 ((k + 1 : Nat) : Int)) ∧ (Value.int .i64 (IntKind.wrap .i64 (((k + 1 : Nat) : Int) * ((112 : Nat) : Int))) = .int .i64 (((k + 1) * 112 : Nat) : Int)) ∧ (Value.int .i64 (if (((k + 1) * 112 : Nat) : Int) < ((n : Nat) : Int) then (((k + 1) * 112 : Nat) : Int) else ((n : Nat) : Int)) = .int .i64 ((min n ((k + 1) * 112) : Nat) : Int)) ∧ ((((k * 112 : Nat) : Int) : Int) = ((k * 112 : Nat) : Int) ∧ (((min n ((k + 1) * 112) : Nat) : Int) : Int) = ((min n ((k + 1) * 112) : Nat) : Int) ∧ k * 112 ≤ min n ((k + 1) * 112) ∧ min n ((k + 1) * 112) ≤ c) ∧ K [⟨1, none, .slice A n c⟩, ⟨2, none, .pointer (some ⟨g1, 0, none⟩)⟩, ⟨7, none, .int .i64 ((max 1 ((n + 111) / 112) : Nat) : Int)⟩, ⟨8, none, .slice Ao k co⟩, ⟨29, none, .int .i64 ((max 1 ((n + 111) / 112) : Nat) : Int)⟩, ⟨30, none, .int .i64 ((k : Nat) : Int)⟩, ⟨10, none, .pointer (some ⟨g2, 0, none⟩)⟩, ⟨51, none, .slice (cutA A c (k * 112) 1) ((min n ((k + 1) * 112)) - (k * 112)) (c - (k * 112))⟩] [.box g1 27 [.int .i64 b.g, .int .i64 b.n, .int .u8 0, .int .u8 b.t, .int .i64 b.i.h, .int .i64 b.i.m, .int .i64 b.i.s, .int .i64 b.i.f, .bool b.i.d, .int .i64 b.o.h, .int .i64 b.o.m, .int .i64 b.o.s, .int .i64 b.o.f, .bool b.o.d, .int .i64 b.r, .int .u8 b.a, .bool b.c, .slice none 0 0], .row Ao co 27 18 k xs, .fam k (blksR bl), .box g2 27 [.int .i64 b.g, .int .i64 b.n, .int .u8 (((k : Nat) : Int) % 256), .int .u8 b.t, .int .i64 b.i.h, .int .i64 b.i.m, .int .i64 b.i.s, .int .i64 b.i.f, .bool b.i.d, .int .i64 b.o.h, .int .i64 b.o.m, .int .i64 b.o.s, .int .i64 b.o.f, .bool b.o.d, .int .i64 b.r, .int .u8 b.a, .bool b.c, .slice none 0 0]]) (fun K => by kernel_rfl) hF hH ?_
            refine ⟨natmul (by omega), ?_⟩
            refine ⟨natadd (by omega), ?_⟩
            refine ⟨natmul (by omega), ?_⟩
            refine ⟨natmin _ _, ?_⟩
            refine ⟨⟨by omega, by omega, by omega, by omega⟩, ?_⟩
            clear hF hH; intro a w hF hH
            have hH := hH.cutBN (k := 0) rfl (k * 112) (min n ((k + 1) * 112)) (by omega) (by omega)
            refine callE (d := 52) (clone_c (cutA A c (k * 112) 1) ((min n ((k + 1) * 112)) - (k * 112)) (c - (k * 112)) ((text.drop (k * 112)).take (min n ((k + 1) * 112) - k * 112)) (by first | rfl | assumption | (simp; done) | (simp; omega)) (by omega)) [.n 2] (by kernel_rfl) (by kernel_rfl) hF hH ?_
            clear hF hH; rintro ⟨A3, c3⟩ - a w hF hH
            refine seg [.p, .st 3] [1, 2, 7, 8, 29, 30, 10] (fun K => ((g2 : Nat) = g2 ∧ (none : Option Nat) = none) ∧ K [⟨1, none, .slice A n c⟩, ⟨2, none, .pointer (some ⟨g1, 0, none⟩)⟩, ⟨7, none, .int .i64 ((max 1 ((n + 111) / 112) : Nat) : Int)⟩, ⟨8, none, .slice Ao k co⟩, ⟨29, none, .int .i64 ((max 1 ((n + 111) / 112) : Nat) : Int)⟩, ⟨30, none, .int .i64 ((k : Nat) : Int)⟩, ⟨10, none, .pointer (some ⟨g2, 0, none⟩)⟩] [.box g1 27 [.int .i64 b.g, .int .i64 b.n, .int .u8 0, .int .u8 b.t, .int .i64 b.i.h, .int .i64 b.i.m, .int .i64 b.i.s, .int .i64 b.i.f, .bool b.i.d, .int .i64 b.o.h, .int .i64 b.o.m, .int .i64 b.o.s, .int .i64 b.o.f, .bool b.o.d, .int .i64 b.r, .int .u8 b.a, .bool b.c, .slice none 0 0], .row Ao co 27 18 k xs, .fam k (blksR bl), .box g2 27 [.int .i64 b.g, .int .i64 b.n, .int .u8 (((k : Nat) : Int) % 256), .int .u8 b.t, .int .i64 b.i.h, .int .i64 b.i.m, .int .i64 b.i.s, .int .i64 b.i.f, .bool b.i.d, .int .i64 b.o.h, .int .i64 b.o.m, .int .i64 b.o.s, .int .i64 b.o.f, .bool b.o.d, .int .i64 b.r, .int .u8 b.a, .bool b.c, .slice A3 ((min n ((k + 1) * 112)) - (k * 112)) c3], .row A3 c3 5 1 ((min n ((k + 1) * 112)) - (k * 112)) (byC ((text.drop (k * 112)).take (min n ((k + 1) * 112) - k * 112)))]) (fun K => by kernel_rfl) hF hH ?_
            refine ⟨⟨rfl, rfl⟩, ?_⟩
            clear hF hH; intro a w hF hH
            refine wl_end (by kernel_rfl) ?_
            refine then_n ?_
            refine wp_regE (by kernel_rfl) ?_
            refine seg [.p, .ld (.r 3), .bs, .ap 1 (.r 5) ([.int .i64 b.g, .int .i64 b.n, .int .u8 (((k : Nat) : Int) % 256), .int .u8 b.t, .int .i64 b.i.h, .int .i64 b.i.m, .int .i64 b.i.s, .int .i64 b.i.f, .bool b.i.d, .int .i64 b.o.h, .int .i64 b.o.m, .int .i64 b.o.s, .int .i64 b.o.f, .bool b.o.d, .int .i64 b.r, .int .u8 b.a, .bool b.c, .slice A3 ((min n ((k + 1) * 112)) - (k * 112)) c3]), .p] [1, 2, 7, 29, 30, 8] (fun K => ((g2 : Nat) = g2 ∧ (none : Option Nat) = none) ∧ ∀ g4, (((Ao) : Option Addr) = Ao ∧ (co : Nat) = co ∧ (k : Nat) = k ∧ srcP (.box g4 27 [.int .i64 b.g, .int .i64 b.n, .int .u8 (((k : Nat) : Int) % 256), .int .u8 b.t, .int .i64 b.i.h, .int .i64 b.i.m, .int .i64 b.i.s, .int .i64 b.i.f, .bool b.i.d, .int .i64 b.o.h, .int .i64 b.o.m, .int .i64 b.o.s, .int .i64 b.o.f, .bool b.o.d, .int .i64 b.r, .int .u8 b.a, .bool b.c, .slice A3 ((min n ((k + 1) * 112)) - (k * 112)) c3]) (some ⟨g4, 0, none⟩) 1 18 ([.int .i64 b.g, .int .i64 b.n, .int .u8 (((k : Nat) : Int) % 256), .int .u8 b.t, .int .i64 b.i.h, .int .i64 b.i.m, .int .i64 b.i.s, .int .i64 b.i.f, .bool b.i.d, .int .i64 b.o.h, .int .i64 b.o.m, .int .i64 b.o.s, .int .i64 b.o.f, .bool b.o.d, .int .i64 b.r, .int .u8 b.a, .bool b.c, .slice A3 ((min n ((k + 1) * 112)) - (k * 112)) c3]) ∧ (∀ u ∈ ([.int .i64 b.g, .int .i64 b.n, .int .u8 (((k : Nat) : Int) % 256), .int .u8 b.t, .int .i64 b.i.h, .int .i64 b.i.m, .int .i64 b.i.s, .int .i64 b.i.f, .bool b.i.d, .int .i64 b.o.h, .int .i64 b.o.m, .int .i64 b.o.s, .int .i64 b.o.f, .bool b.o.d, .int .i64 b.r, .int .u8 b.a, .bool b.c, .slice A3 ((min n ((k + 1) * 112)) - (k * 112)) c3] : List Value), u.oneCell' = true) ∧ k + 1 ≤ maxLen ∧ (k + 1) * 144 ≤ 140737488355328) ∧ ∀ A4 c4, K [⟨1, none, .slice A n c⟩, ⟨2, none, .pointer (some ⟨g1, 0, none⟩)⟩, ⟨7, none, .int .i64 ((max 1 ((n + 111) / 112) : Nat) : Int)⟩, ⟨29, none, .int .i64 ((max 1 ((n + 111) / 112) : Nat) : Int)⟩, ⟨30, none, .int .i64 ((k : Nat) : Int)⟩, ⟨8, none, .slice A4 (k + 1) c4⟩] [.box g1 27 [.int .i64 b.g, .int .i64 b.n, .int .u8 0, .int .u8 b.t, .int .i64 b.i.h, .int .i64 b.i.m, .int .i64 b.i.s, .int .i64 b.i.f, .bool b.i.d, .int .i64 b.o.h, .int .i64 b.o.m, .int .i64 b.o.s, .int .i64 b.o.f, .bool b.o.d, .int .i64 b.r, .int .u8 b.a, .bool b.c, .slice none 0 0], .row A4 c4 27 18 (k + 1) (xs ++ ([.int .i64 b.g, .int .i64 b.n, .int .u8 (((k : Nat) : Int) % 256), .int .u8 b.t, .int .i64 b.i.h, .int .i64 b.i.m, .int .i64 b.i.s, .int .i64 b.i.f, .bool b.i.d, .int .i64 b.o.h, .int .i64 b.o.m, .int .i64 b.o.s, .int .i64 b.o.f, .bool b.o.d, .int .i64 b.r, .int .u8 b.a, .bool b.c, .slice A3 ((min n ((k + 1) * 112)) - (k * 112)) c3])), .fam k (blksR bl), .box g2 27 [.int .i64 b.g, .int .i64 b.n, .int .u8 (((k : Nat) : Int) % 256), .int .u8 b.t, .int .i64 b.i.h, .int .i64 b.i.m, .int .i64 b.i.s, .int .i64 b.i.f, .bool b.i.d, .int .i64 b.o.h, .int .i64 b.o.m, .int .i64 b.o.s, .int .i64 b.o.f, .bool b.o.d, .int .i64 b.r, .int .u8 b.a, .bool b.c, .slice A3 ((min n ((k + 1) * 112)) - (k * 112)) c3], .row A3 c3 5 1 ((min n ((k + 1) * 112)) - (k * 112)) (byC ((text.drop (k * 112)).take (min n ((k + 1) * 112) - k * 112))), .box g4 27 [.int .i64 b.g, .int .i64 b.n, .int .u8 (((k : Nat) : Int) % 256), .int .u8 b.t, .int .i64 b.i.h, .int .i64 b.i.m, .int .i64 b.i.s, .int .i64 b.i.f, .bool b.i.d, .int .i64 b.o.h, .int .i64 b.o.m, .int .i64 b.o.s, .int .i64 b.o.f, .bool b.o.d, .int .i64 b.r, .int .u8 b.a, .bool b.c, .slice A3 ((min n ((k + 1) * 112)) - (k * 112)) c3]]) (fun K => by kernel_rfl) hF hH ?_
            refine ⟨⟨rfl, rfl⟩, ?_⟩
            intro g4
            refine ⟨⟨rfl, rfl, rfl, ⟨rfl, rfl, rfl⟩, (by intro u hu; simp only [List.mem_cons, List.not_mem_nil, or_false] at hu; rcases hu with rfl | rfl | rfl | rfl | rfl | rfl | rfl | rfl | rfl | rfl | rfl | rfl | rfl | rfl | rfl | rfl | rfl | rfl <;> rfl), by (unfold maxLen; omega), by omega⟩, ?_⟩
            intro A4 c4
            clear hF hH; intro a w hF hH
            refine wl_end (by kernel_rfl) ?_
            refine block_n ?_
            refine then_n ?_
            refine wp_regE (by kernel_rfl) ?_
            refine seg [.pv (.int .i64 ((k + 1 : Nat) : Int)), .p] [1, 2, 7, 29, 8, 30] (fun K => (Value.int .i64 (IntKind.wrap .i64 (((k : Nat) : Int) + ((1 : Nat) : Int))) = .int .i64 ((k + 1 : Nat) : Int)) ∧ K [⟨1, none, .slice A n c⟩, ⟨2, none, .pointer (some ⟨g1, 0, none⟩)⟩, ⟨7, none, .int .i64 ((max 1 ((n + 111) / 112) : Nat) : Int)⟩, ⟨29, none, .int .i64 ((max 1 ((n + 111) / 112) : Nat) : Int)⟩, ⟨8, none, .slice A4 (k + 1) c4⟩, ⟨30, none, .int .i64 ((k + 1 : Nat) : Int)⟩] [.box g1 27 [.int .i64 b.g, .int .i64 b.n, .int .u8 0, .int .u8 b.t, .int .i64 b.i.h, .int .i64 b.i.m, .int .i64 b.i.s, .int .i64 b.i.f, .bool b.i.d, .int .i64 b.o.h, .int .i64 b.o.m, .int .i64 b.o.s, .int .i64 b.o.f, .bool b.o.d, .int .i64 b.r, .int .u8 b.a, .bool b.c, .slice none 0 0], .row A4 c4 27 18 (k + 1) (xs ++ ([.int .i64 b.g, .int .i64 b.n, .int .u8 (((k : Nat) : Int) % 256), .int .u8 b.t, .int .i64 b.i.h, .int .i64 b.i.m, .int .i64 b.i.s, .int .i64 b.i.f, .bool b.i.d, .int .i64 b.o.h, .int .i64 b.o.m, .int .i64 b.o.s, .int .i64 b.o.f, .bool b.o.d, .int .i64 b.r, .int .u8 b.a, .bool b.c, .slice A3 ((min n ((k + 1) * 112)) - (k * 112)) c3])), .fam k (blksR bl), .box g2 27 [.int .i64 b.g, .int .i64 b.n, .int .u8 (((k : Nat) : Int) % 256), .int .u8 b.t, .int .i64 b.i.h, .int .i64 b.i.m, .int .i64 b.i.s, .int .i64 b.i.f, .bool b.i.d, .int .i64 b.o.h, .int .i64 b.o.m, .int .i64 b.o.s, .int .i64 b.o.f, .bool b.o.d, .int .i64 b.r, .int .u8 b.a, .bool b.c, .slice A3 ((min n ((k + 1) * 112)) - (k * 112)) c3], .row A3 c3 5 1 ((min n ((k + 1) * 112)) - (k * 112)) (byC ((text.drop (k * 112)).take (min n ((k + 1) * 112) - k * 112))), .box g4 27 [.int .i64 b.g, .int .i64 b.n, .int .u8 (((k : Nat) : Int) % 256), .int .u8 b.t, .int .i64 b.i.h, .int .i64 b.i.m, .int .i64 b.i.s, .int .i64 b.i.f, .bool b.i.d, .int .i64 b.o.h, .int .i64 b.o.m, .int .i64 b.o.s, .int .i64 b.o.f, .bool b.o.d, .int .i64 b.r, .int .u8 b.a, .bool b.c, .slice A3 ((min n ((k + 1) * 112)) - (k * 112)) c3]]) (fun K => by kernel_rfl) hF hH ?_
            refine ⟨natadd (by omega), ?_⟩
            clear hF hH; intro a w hF hH
            refine wl_end (by kernel_rfl) ?_
            refine then_n ?_
            have hH := hH.rowView (k := 4) rfl (byE ((text.drop (k * 112)).take (min n ((k + 1) * 112) - k * 112))) (by_rowN _ (by rw [List.length_take, List.length_drop, hl]; omega))
            have ht : ((text.drop (k * 112)).take (min n ((k + 1) * 112) - k * 112)).length = min n ((k + 1) * 112) - k * 112 := by rw [List.length_take, List.length_drop, hl]; omega
            have hH := hH.famPush (k := 2) (j := 4) (r' := blksR (bl ++ [(⟨{ b with e := ((k : Nat) : Int) % 256 }, A3, c3, (text.drop (k * 112)).take (min n ((k + 1) * 112) - k * 112)⟩ : BT)])) rfl rfl rfl (blksR_old bl _ k hl2) ((blksR_new bl _ k hl2).trans (by simp only [BT.res, ht]))
            exact ⟨_, by omega, k + 1, A4, c4, xs ++ ([.int .i64 b.g, .int .i64 b.n, .int .u8 (((k : Nat) : Int) % 256), .int .u8 b.t, .int .i64 b.i.h, .int .i64 b.i.m, .int .i64 b.i.s, .int .i64 b.i.f, .bool b.i.d, .int .i64 b.o.h, .int .i64 b.o.m, .int .i64 b.o.s, .int .i64 b.o.f, .bool b.o.d, .int .i64 b.r, .int .u8 b.a, .bool b.c, .slice A3 ((min n ((k + 1) * 112)) - (k * 112)) c3]), bl ++ [(⟨{ b with e := ((k : Nat) : Int) % 256 }, A3, c3, (text.drop (k * 112)).take (min n ((k + 1) * 112) - k * 112)⟩ : BT)], rfl, by omega, by simp [hl2], by rw [hx]; simp [BT.cells, ht], by rw [List.map_append, hd, List.range_succ, List.map_append]; simp [BT.data, piece, hl]; omega, frK hF [1, 2, 7, 8, 29, 30] (by kernel_rfl), hpKN hH [0, 1] [0, 1, 2] (by kernel_rfl) (by kernel_rfl) (by kernel_rfl)⟩
        · skip
          have hb4p := of_decide_eq_false hb4
          refine wp_exitE (id := 0) (by kernel_rfl) ?_
          refine then_exit ?_
          refine then_exit ?_
          refine block_exit ?_
          refine then_n ?_
          refine wp_seqE (by kernel_rfl) ?_
          refine wp_regE (by kernel_rfl) ?_
          refine seg [.p, .p, .p] [4, 5] (fun K => K [⟨4, none, .slice Ao k co⟩, ⟨5, none, .int .i64 0⟩] [.box g1 27 [.int .i64 b.g, .int .i64 b.n, .int .u8 0, .int .u8 b.t, .int .i64 b.i.h, .int .i64 b.i.m, .int .i64 b.i.s, .int .i64 b.i.f, .bool b.i.d, .int .i64 b.o.h, .int .i64 b.o.m, .int .i64 b.o.s, .int .i64 b.o.f, .bool b.o.d, .int .i64 b.r, .int .u8 b.a, .bool b.c, .slice none 0 0], .row Ao co 27 18 k xs, .fam k (blksR bl)]) (fun K => by kernel_rfl) hF hH ?_
          clear hF hH; intro a w hF hH
          refine wl_end (by kernel_rfl) ?_
          refine then_n ?_
          refine wp_retE (by kernel_rfl) ?_
          refine retE (vs := [.slice Ao k co, .int .i64 0]) (p := True) (v := .tuple #[.slice Ao k co, .int .i64 0]) [] (by kernel_rfl) trivial (by kernel_rfl) hF hH ?_
          have hkP : k = pieces text.length := by unfold pieces; rw [hl]; omega
          exact split_fin1 b text _ _ k xs bl hH rfl (by simp only [splitE, pieces, hl, hb1, hb2, hb3]; rfl) hkP hx (by unfold pieces; rw [hl]; exact hd)

end Go.Proofs.Ytcccboodapgejaa
