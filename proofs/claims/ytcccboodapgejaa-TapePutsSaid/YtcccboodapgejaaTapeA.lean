/-
  timed, IndexByte, Check and Clone, walked once each: what each call gives, for every argument of the shape that is named.
-/
import Derived.Test.YtcccboodapgejaaDat
import Derived.Test.YtcccboodapgejaaProg
namespace Go.Proofs.Ytcccboodapgejaa
open Go.Sym

theorem timed_c (l : Lbl) : CallOk Try.prog 32 [.agg #[.int .i64 l.h, .int .i64 l.m, .int .i64 l.s, .int .i64 l.f, .bool l.d]] [] (U := Unit) (fun _ => .int .i64 (timedV l)) (fun _ => []) (fun _ => True) := by
  intro w0 hn
  refine enterE (N := 41) Try.func32 (by kernel_rfl) (by kernel_rfl) (by kernel_rfl) ?_
  intro a hF
  have hH := Hp.start w0 hn
  refine wp_seqE (by kernel_rfl) ?_
  refine wp_regE (by kernel_rfl) ?_
  refine seg [.bx, .p] [1] (fun K => ∀ g1, K [⟨1, none, .pointer (some ⟨g1, 0, none⟩)⟩] [.box g1 23 [.int .i64 l.h, .int .i64 l.m, .int .i64 l.s, .int .i64 l.f, .bool l.d]]) (fun K => by kernel_rfl) hF hH ?_
  intro g1
  clear hF hH; intro a w hF hH
  refine wl_end (by kernel_rfl) ?_
  refine then_n ?_
  refine wp_seqE (by kernel_rfl) ?_
  refine wp_seqE (by kernel_rfl) ?_
  refine wp_regE (by kernel_rfl) ?_
  refine seg [.p, .ld (.r 0), .p, .p, .p, .ld (.r 0), .p, .pk, .p, .p, .ld (.r 0), .p, .pk, .p, .p, .ld (.r 0), .p, .pk, .p, .p, .ld (.r 0), .p, .pk, .p, .p, .ld (.r 0), .p, .pk, .p, .p, .ld (.r 0), .p, .pk, .p, .p, .ld (.r 0), .p, .pk] [40] (fun K => ((g1 : Nat) = g1 ∧ (none : Option Nat) = none) ∧ ((g1 : Nat) = g1 ∧ (none : Option Nat) = none) ∧ ((g1 : Nat) = g1 ∧ (none : Option Nat) = none) ∧ ((g1 : Nat) = g1 ∧ (none : Option Nat) = none) ∧ ((g1 : Nat) = g1 ∧ (none : Option Nat) = none) ∧ ((g1 : Nat) = g1 ∧ (none : Option Nat) = none) ∧ ((g1 : Nat) = g1 ∧ (none : Option Nat) = none) ∧ ((g1 : Nat) = g1 ∧ (none : Option Nat) = none) ∧ K [⟨40, none, .bool ((((((((decide (l.h < 0)) || (decide (23 < l.h))) || (decide (l.m < 0))) || (decide (59 < l.m))) || (decide (l.s < 0))) || (decide (59 < l.s))) || (decide (l.f < 0))) || (decide (29 < l.f)))⟩] [.box g1 23 [.int .i64 l.h, .int .i64 l.m, .int .i64 l.s, .int .i64 l.f, .bool l.d]]) (fun K => by kernel_rfl) hF hH ?_
  refine ⟨⟨rfl, rfl⟩, ?_⟩
  refine ⟨⟨rfl, rfl⟩, ?_⟩
  refine ⟨⟨rfl, rfl⟩, ?_⟩
  refine ⟨⟨rfl, rfl⟩, ?_⟩
  refine ⟨⟨rfl, rfl⟩, ?_⟩
  refine ⟨⟨rfl, rfl⟩, ?_⟩
  refine ⟨⟨rfl, rfl⟩, ?_⟩
  refine ⟨⟨rfl, rfl⟩, ?_⟩
  clear hF hH; intro a w hF hH
  refine wl_end (by kernel_rfl) ?_
  refine then_n ?_
  refine wp_condE (b := (((((((decide (l.h < 0)) || (decide (23 < l.h))) || (decide (l.m < 0))) || (decide (59 < l.m))) || (decide (l.s < 0))) || (decide (59 < l.s))) || (decide (l.f < 0))) || (decide (29 < l.f))) (by kernel_rfl) (by kernel_rfl) hF (fun hb1 => ?_) (fun hb1 => ?_)
  · skip
    refine wp_seqE (by kernel_rfl) ?_
    refine wp_regE (by kernel_rfl) ?_
    refine seg [.p] [2] (fun K => K [⟨2, none, .int .i64 2⟩] [.box g1 23 [.int .i64 l.h, .int .i64 l.m, .int .i64 l.s, .int .i64 l.f, .bool l.d]]) (fun K => by kernel_rfl) hF hH ?_
    clear hF hH; intro a w hF hH
    refine wl_end (by kernel_rfl) ?_
    refine then_n ?_
    refine wp_retE (by kernel_rfl) ?_
    refine then_ret ?_
    refine retE (vs := [.int .i64 2]) (p := True) (v := .int .i64 2) [] (by kernel_rfl) trivial (by kernel_rfl) hF hH ?_
    exact fin0 (by simp only [timedV, lblBad, hb1]; rfl) hH
  · skip
    refine wp_skipE (by kernel_rfl) ?_
    refine then_n ?_
    refine wp_seqE (by kernel_rfl) ?_
    refine wp_regE (by kernel_rfl) ?_
    refine seg [.p] [2] (fun K => K [⟨2, none, .int .i64 0⟩] [.box g1 23 [.int .i64 l.h, .int .i64 l.m, .int .i64 l.s, .int .i64 l.f, .bool l.d]]) (fun K => by kernel_rfl) hF hH ?_
    clear hF hH; intro a w hF hH
    refine wl_end (by kernel_rfl) ?_
    refine then_n ?_
    refine wp_retE (by kernel_rfl) ?_
    refine retE (vs := [.int .i64 0]) (p := True) (v := .int .i64 0) [] (by kernel_rfl) trivial (by kernel_rfl) hF hH ?_
    exact fin0 (by simp only [timedV, lblBad, hb1]; rfl) hH

theorem indexByte_c (A : Option Addr) (n c : Nat) (bs : List UInt8) (hl : bs.length = n) (x : Int) : CallOk Try.prog 24 [.slice A n c, .int .u8 x] [.view A n c 1 (byE bs)] (U := Unit) (fun _ => .int .i64 (ixV bs (Int.toNat x).toUInt8)) (fun _ => []) (fun _ => True) := by
  intro w0 hn
  refine enterE (N := 8) Try.func24 (by kernel_rfl) (by kernel_rfl) (by kernel_rfl) ?_
  intro a hF
  have hH := Hp.start w0 hn
  refine wp_seqE (by kernel_rfl) ?_
  refine wp_regE (by kernel_rfl) ?_
  refine seg [.p] [0, 1] (fun K => K [⟨0, none, .slice A n c⟩, ⟨1, none, .int .u8 x⟩] []) (fun K => by kernel_rfl) hF hH ?_
  clear hF hH; intro a w hF hH
  refine wl_end (by kernel_rfl) ?_
  refine then_n ?_
  refine wp_seqE (by kernel_rfl) ?_
  refine wp_regE (by kernel_rfl) ?_
  refine seg [.p, .p, .ex [.n 0] (.int .i64 (ixV bs (Int.toNat x).toUInt8)), .p] [4] (fun K => (∀ w, (∀ r ∈ ([.view A n c 1 (byE bs)] : List Res), r.ok w) → (callFunc 38 #[.slice A n c, .int .u8 x]).run Try.prog w = .ok (.value (.int .i64 (ixV bs (Int.toNat x).toUInt8))) w) ∧ K [⟨4, none, .int .i64 (ixV bs (Int.toNat x).toUInt8)⟩] []) (fun K => by kernel_rfl) hF hH ?_
  refine ⟨call_indexByte Try.func38 (by kernel_rfl) (by kernel_rfl) (by kernel_rfl) (by kernel_rfl) _ _ _ _ (by first | rfl | assumption | (simp; done) | (simp; omega)) _, ?_⟩
  clear hF hH; intro a w hF hH
  refine wl_end (by kernel_rfl) ?_
  refine then_n ?_
  refine wp_retE (by kernel_rfl) ?_
  refine retE (vs := [.int .i64 (ixV bs (Int.toNat x).toUInt8)]) (p := True) (v := .int .i64 (ixV bs (Int.toNat x).toUInt8)) [] (by kernel_rfl) trivial (by kernel_rfl) hF hH ?_
  exact fin0 rfl hH

theorem check_c (b : Blk) (A : Option Addr) (n c : Nat) (bs : List UInt8) (hl : bs.length = n) : CallOk Try.prog 20 [.agg #[.int .i64 b.g, .int .i64 b.n, .int .u8 b.e, .int .u8 b.t, .int .i64 b.i.h, .int .i64 b.i.m, .int .i64 b.i.s, .int .i64 b.i.f, .bool b.i.d, .int .i64 b.o.h, .int .i64 b.o.m, .int .i64 b.o.s, .int .i64 b.o.f, .bool b.o.d, .int .i64 b.r, .int .u8 b.a, .bool b.c, .slice A n c]] [.view A n c 1 (byE bs)] (U := Unit) (fun _ => .int .i64 (checkV b bs)) (fun _ => []) (fun _ => True) := by
  intro w0 hn
  refine enterE (N := 84) Try.func20 (by kernel_rfl) (by kernel_rfl) (by kernel_rfl) ?_
  intro a hF
  have hH := Hp.start w0 hn
  refine wp_seqE (by kernel_rfl) ?_
  refine wp_regE (by kernel_rfl) ?_
  refine seg [.bx, .p] [1] (fun K => ∀ g1, K [⟨1, none, .pointer (some ⟨g1, 0, none⟩)⟩] [.box g1 27 [.int .i64 b.g, .int .i64 b.n, .int .u8 b.e, .int .u8 b.t, .int .i64 b.i.h, .int .i64 b.i.m, .int .i64 b.i.s, .int .i64 b.i.f, .bool b.i.d, .int .i64 b.o.h, .int .i64 b.o.m, .int .i64 b.o.s, .int .i64 b.o.f, .bool b.o.d, .int .i64 b.r, .int .u8 b.a, .bool b.c, .slice A n c]]) (fun K => by kernel_rfl) hF hH ?_
  intro g1
  clear hF hH; intro a w hF hH
  refine wl_end (by kernel_rfl) ?_
  refine then_n ?_
  refine wp_seqE (by kernel_rfl) ?_
  refine wp_blockE (id := 0) (by kernel_rfl) ?_
  refine wp_seqE (by kernel_rfl) ?_
  refine wp_regE (by kernel_rfl) ?_
  refine seg [.p, .ld (.r 0), .p, .p, .p, .ld (.r 0), .p, .pk, .p, .p, .ld (.r 0), .p, .pk, .p, .p, .ld (.r 0), .p, .pk, .p] [1, 3] (fun K => ((g1 : Nat) = g1 ∧ (none : Option Nat) = none) ∧ ((g1 : Nat) = g1 ∧ (none : Option Nat) = none) ∧ ((g1 : Nat) = g1 ∧ (none : Option Nat) = none) ∧ ((g1 : Nat) = g1 ∧ (none : Option Nat) = none) ∧ K [⟨1, none, .pointer (some ⟨g1, 0, none⟩)⟩, ⟨3, none, .bool ((((decide (b.g < 0)) || (decide (255 < b.g))) || (decide (b.n < 0))) || (decide (65535 < b.n)))⟩] [.box g1 27 [.int .i64 b.g, .int .i64 b.n, .int .u8 b.e, .int .u8 b.t, .int .i64 b.i.h, .int .i64 b.i.m, .int .i64 b.i.s, .int .i64 b.i.f, .bool b.i.d, .int .i64 b.o.h, .int .i64 b.o.m, .int .i64 b.o.s, .int .i64 b.o.f, .bool b.o.d, .int .i64 b.r, .int .u8 b.a, .bool b.c, .slice A n c]]) (fun K => by kernel_rfl) hF hH ?_
  refine ⟨⟨rfl, rfl⟩, ?_⟩
  refine ⟨⟨rfl, rfl⟩, ?_⟩
  refine ⟨⟨rfl, rfl⟩, ?_⟩
  refine ⟨⟨rfl, rfl⟩, ?_⟩
  clear hF hH; intro a w hF hH
  refine wl_end (by kernel_rfl) ?_
  refine then_n ?_
  refine wp_condE (b := (((decide (b.g < 0)) || (decide (255 < b.g))) || (decide (b.n < 0))) || (decide (65535 < b.n))) (by kernel_rfl) (by kernel_rfl) hF (fun hb1 => ?_) (fun hb1 => ?_)
  · skip
    refine wp_seqE (by kernel_rfl) ?_
    refine wp_regE (by kernel_rfl) ?_
    refine seg [.p] [2] (fun K => K [⟨2, none, .int .i64 2⟩] [.box g1 27 [.int .i64 b.g, .int .i64 b.n, .int .u8 b.e, .int .u8 b.t, .int .i64 b.i.h, .int .i64 b.i.m, .int .i64 b.i.s, .int .i64 b.i.f, .bool b.i.d, .int .i64 b.o.h, .int .i64 b.o.m, .int .i64 b.o.s, .int .i64 b.o.f, .bool b.o.d, .int .i64 b.r, .int .u8 b.a, .bool b.c, .slice A n c]]) (fun K => by kernel_rfl) hF hH ?_
    clear hF hH; intro a w hF hH
    refine wl_end (by kernel_rfl) ?_
    refine then_n ?_
    refine wp_retE (by kernel_rfl) ?_
    refine block_ret ?_
    refine then_ret ?_
    refine retE (vs := [.int .i64 2]) (p := True) (v := .int .i64 2) [] (by kernel_rfl) trivial (by kernel_rfl) hF hH ?_
    subst hl
    exact fin0 (by simp only [checkV, hb1]; rfl) hH
  · skip
    refine wp_seqE (by kernel_rfl) ?_
    refine wp_regE (by kernel_rfl) ?_
    refine seg [.p, .ld (.r 0), .p, .p, .p, .ld (.r 0), .p, .pk, .p, .p, .ld (.r 0), .p, .pk, .p] [1, 22] (fun K => ((g1 : Nat) = g1 ∧ (none : Option Nat) = none) ∧ ((g1 : Nat) = g1 ∧ (none : Option Nat) = none) ∧ ((g1 : Nat) = g1 ∧ (none : Option Nat) = none) ∧ K [⟨1, none, .pointer (some ⟨g1, 0, none⟩)⟩, ⟨22, none, .bool (((decide (240 ≤ b.e)) && (decide (b.e < 255))) || (decide (3 < b.t)))⟩] [.box g1 27 [.int .i64 b.g, .int .i64 b.n, .int .u8 b.e, .int .u8 b.t, .int .i64 b.i.h, .int .i64 b.i.m, .int .i64 b.i.s, .int .i64 b.i.f, .bool b.i.d, .int .i64 b.o.h, .int .i64 b.o.m, .int .i64 b.o.s, .int .i64 b.o.f, .bool b.o.d, .int .i64 b.r, .int .u8 b.a, .bool b.c, .slice A n c]]) (fun K => by kernel_rfl) hF hH ?_
    refine ⟨⟨rfl, rfl⟩, ?_⟩
    refine ⟨⟨rfl, rfl⟩, ?_⟩
    refine ⟨⟨rfl, rfl⟩, ?_⟩
    clear hF hH; intro a w hF hH
    refine wl_end (by kernel_rfl) ?_
    refine then_n ?_
    refine wp_condE (b := ((decide (240 ≤ b.e)) && (decide (b.e < 255))) || (decide (3 < b.t))) (by kernel_rfl) (by kernel_rfl) hF (fun hb2 => ?_) (fun hb2 => ?_)
    · skip
      refine wp_seqE (by kernel_rfl) ?_
      refine wp_regE (by kernel_rfl) ?_
      refine seg [.p] [2] (fun K => K [⟨2, none, .int .i64 3⟩] [.box g1 27 [.int .i64 b.g, .int .i64 b.n, .int .u8 b.e, .int .u8 b.t, .int .i64 b.i.h, .int .i64 b.i.m, .int .i64 b.i.s, .int .i64 b.i.f, .bool b.i.d, .int .i64 b.o.h, .int .i64 b.o.m, .int .i64 b.o.s, .int .i64 b.o.f, .bool b.o.d, .int .i64 b.r, .int .u8 b.a, .bool b.c, .slice A n c]]) (fun K => by kernel_rfl) hF hH ?_
      clear hF hH; intro a w hF hH
      refine wl_end (by kernel_rfl) ?_
      refine then_n ?_
      refine wp_retE (by kernel_rfl) ?_
      refine block_ret ?_
      refine then_ret ?_
      refine retE (vs := [.int .i64 3]) (p := True) (v := .int .i64 3) [] (by kernel_rfl) trivial (by kernel_rfl) hF hH ?_
      subst hl
      exact fin0 (by simp only [checkV, hb1, hb2]; rfl) hH
    · skip
      refine wp_seqE (by kernel_rfl) ?_
      refine wp_regE (by kernel_rfl) ?_
      refine seg [.p, .ld (.r 0)] [1, 38] (fun K => ((g1 : Nat) = g1 ∧ (none : Option Nat) = none) ∧ K [⟨1, none, .pointer (some ⟨g1, 0, none⟩)⟩, ⟨38, none, .agg #[.int .i64 b.i.h, .int .i64 b.i.m, .int .i64 b.i.s, .int .i64 b.i.f, .bool b.i.d]⟩] [.box g1 27 [.int .i64 b.g, .int .i64 b.n, .int .u8 b.e, .int .u8 b.t, .int .i64 b.i.h, .int .i64 b.i.m, .int .i64 b.i.s, .int .i64 b.i.f, .bool b.i.d, .int .i64 b.o.h, .int .i64 b.o.m, .int .i64 b.o.s, .int .i64 b.o.f, .bool b.o.d, .int .i64 b.r, .int .u8 b.a, .bool b.c, .slice A n c]]) (fun K => by kernel_rfl) hF hH ?_
      refine ⟨⟨rfl, rfl⟩, ?_⟩
      clear hF hH; intro a w hF hH
      refine callE (d := 39) (timed_c b.i) [] (by kernel_rfl) (by kernel_rfl) hF hH ?_
      clear hF hH; rintro ⟨⟩ - a w hF hH
      refine seg [.p, .p] [1, 41] (fun K => K [⟨1, none, .pointer (some ⟨g1, 0, none⟩)⟩, ⟨41, none, .bool ((timedV b.i) != 0)⟩] [.box g1 27 [.int .i64 b.g, .int .i64 b.n, .int .u8 b.e, .int .u8 b.t, .int .i64 b.i.h, .int .i64 b.i.m, .int .i64 b.i.s, .int .i64 b.i.f, .bool b.i.d, .int .i64 b.o.h, .int .i64 b.o.m, .int .i64 b.o.s, .int .i64 b.o.f, .bool b.o.d, .int .i64 b.r, .int .u8 b.a, .bool b.c, .slice A n c]]) (fun K => by kernel_rfl) hF hH ?_
      clear hF hH; intro a w hF hH
      rcases Bool.eq_false_or_eq_true ((timedV b.i) != 0) with hx1 | hx1
      · rw [hx1] at hF
        refine seg [.sk, .sk, .sk, .sk, .p, .p] [1, 36] (fun K => (true = !false) ∧ (true = !false) ∧ (true = !false) ∧ (true = !false) ∧ K [⟨1, none, .pointer (some ⟨g1, 0, none⟩)⟩, ⟨36, none, .bool true⟩] [.box g1 27 [.int .i64 b.g, .int .i64 b.n, .int .u8 b.e, .int .u8 b.t, .int .i64 b.i.h, .int .i64 b.i.m, .int .i64 b.i.s, .int .i64 b.i.f, .bool b.i.d, .int .i64 b.o.h, .int .i64 b.o.m, .int .i64 b.o.s, .int .i64 b.o.f, .bool b.o.d, .int .i64 b.r, .int .u8 b.a, .bool b.c, .slice A n c]]) (fun K => by kernel_rfl) hF hH ?_
        refine ⟨rfl, ?_⟩
        refine ⟨rfl, ?_⟩
        refine ⟨rfl, ?_⟩
        refine ⟨rfl, ?_⟩
        clear hF hH; intro a w hF hH
        refine wl_end (by kernel_rfl) ?_
        refine then_n ?_
        refine wp_condE (b := true) (by kernel_rfl) (by kernel_rfl) hF (fun _ => ?_) (fun h => by cases h)
        refine wp_seqE (by kernel_rfl) ?_
        refine wp_regE (by kernel_rfl) ?_
        refine seg [.p] [2] (fun K => K [⟨2, none, .int .i64 2⟩] [.box g1 27 [.int .i64 b.g, .int .i64 b.n, .int .u8 b.e, .int .u8 b.t, .int .i64 b.i.h, .int .i64 b.i.m, .int .i64 b.i.s, .int .i64 b.i.f, .bool b.i.d, .int .i64 b.o.h, .int .i64 b.o.m, .int .i64 b.o.s, .int .i64 b.o.f, .bool b.o.d, .int .i64 b.r, .int .u8 b.a, .bool b.c, .slice A n c]]) (fun K => by kernel_rfl) hF hH ?_
        clear hF hH; intro a w hF hH
        refine wl_end (by kernel_rfl) ?_
        refine then_n ?_
        refine wp_retE (by kernel_rfl) ?_
        refine block_ret ?_
        refine then_ret ?_
        refine retE (vs := [.int .i64 2]) (p := True) (v := .int .i64 2) [] (by kernel_rfl) trivial (by kernel_rfl) hF hH ?_
        subst hl
        exact fin0 (by simp only [checkV, hb1, hb2, hx1]; rfl) hH
      · rw [hx1] at hF
        refine seg [.gt (.p), .gt (.ld (.r 0))] [1, 41, 43] (fun K => (false = false) ∧ (false = false) ∧ ((g1 : Nat) = g1 ∧ (none : Option Nat) = none) ∧ K [⟨1, none, .pointer (some ⟨g1, 0, none⟩)⟩, ⟨41, none, .bool false⟩, ⟨43, none, .agg #[.int .i64 b.o.h, .int .i64 b.o.m, .int .i64 b.o.s, .int .i64 b.o.f, .bool b.o.d]⟩] [.box g1 27 [.int .i64 b.g, .int .i64 b.n, .int .u8 b.e, .int .u8 b.t, .int .i64 b.i.h, .int .i64 b.i.m, .int .i64 b.i.s, .int .i64 b.i.f, .bool b.i.d, .int .i64 b.o.h, .int .i64 b.o.m, .int .i64 b.o.s, .int .i64 b.o.f, .bool b.o.d, .int .i64 b.r, .int .u8 b.a, .bool b.c, .slice A n c]]) (fun K => by kernel_rfl) hF hH ?_
        refine ⟨rfl, ?_⟩
        refine ⟨rfl, ?_⟩
        refine ⟨⟨rfl, rfl⟩, ?_⟩
        clear hF hH; intro a w hF hH
        refine callE (d := 44) (timed_c b.o) [] (by kernel_rfl) (by kernel_rfl) hF hH ?_
        clear hF hH; rintro ⟨⟩ - a w hF hH
        refine seg [.gt (.p), .p, .p] [1, 36] (fun K => (false = false) ∧ K [⟨1, none, .pointer (some ⟨g1, 0, none⟩)⟩, ⟨36, none, .bool ((timedV b.o) != 0)⟩] [.box g1 27 [.int .i64 b.g, .int .i64 b.n, .int .u8 b.e, .int .u8 b.t, .int .i64 b.i.h, .int .i64 b.i.m, .int .i64 b.i.s, .int .i64 b.i.f, .bool b.i.d, .int .i64 b.o.h, .int .i64 b.o.m, .int .i64 b.o.s, .int .i64 b.o.f, .bool b.o.d, .int .i64 b.r, .int .u8 b.a, .bool b.c, .slice A n c]]) (fun K => by kernel_rfl) hF hH ?_
        refine ⟨rfl, ?_⟩
        clear hF hH; intro a w hF hH
        refine wl_end (by kernel_rfl) ?_
        refine then_n ?_
        refine wp_condE (b := (timedV b.o) != 0) (by kernel_rfl) (by kernel_rfl) hF (fun hb3 => ?_) (fun hb3 => ?_)
        · skip
          have hb3p := ne_of_bne hb3
          refine wp_seqE (by kernel_rfl) ?_
          refine wp_regE (by kernel_rfl) ?_
          refine seg [.p] [2] (fun K => K [⟨2, none, .int .i64 2⟩] [.box g1 27 [.int .i64 b.g, .int .i64 b.n, .int .u8 b.e, .int .u8 b.t, .int .i64 b.i.h, .int .i64 b.i.m, .int .i64 b.i.s, .int .i64 b.i.f, .bool b.i.d, .int .i64 b.o.h, .int .i64 b.o.m, .int .i64 b.o.s, .int .i64 b.o.f, .bool b.o.d, .int .i64 b.r, .int .u8 b.a, .bool b.c, .slice A n c]]) (fun K => by kernel_rfl) hF hH ?_
          clear hF hH; intro a w hF hH
          refine wl_end (by kernel_rfl) ?_
          refine then_n ?_
          refine wp_retE (by kernel_rfl) ?_
          refine block_ret ?_
          refine then_ret ?_
          refine retE (vs := [.int .i64 2]) (p := True) (v := .int .i64 2) [] (by kernel_rfl) trivial (by kernel_rfl) hF hH ?_
          subst hl
          exact fin0 (by simp only [checkV, hb1, hb2, hx1, hb3]; rfl) hH
        · skip
          have hb3p := eq_of_bne_false hb3
          refine wp_seqE (by kernel_rfl) ?_
          refine wp_regE (by kernel_rfl) ?_
          refine seg [.p, .p, .ld (.r 0), .p, .p, .p, .ld (.r 0), .pk, .p] [1, 47] (fun K => ((g1 : Nat) = g1 ∧ (none : Option Nat) = none) ∧ ((g1 : Nat) = g1 ∧ (none : Option Nat) = none) ∧ K [⟨1, none, .pointer (some ⟨g1, 0, none⟩)⟩, ⟨47, none, .bool (b.i.d || b.o.d)⟩] [.box g1 27 [.int .i64 b.g, .int .i64 b.n, .int .u8 b.e, .int .u8 b.t, .int .i64 b.i.h, .int .i64 b.i.m, .int .i64 b.i.s, .int .i64 b.i.f, .bool b.i.d, .int .i64 b.o.h, .int .i64 b.o.m, .int .i64 b.o.s, .int .i64 b.o.f, .bool b.o.d, .int .i64 b.r, .int .u8 b.a, .bool b.c, .slice A n c]]) (fun K => by kernel_rfl) hF hH ?_
          refine ⟨⟨rfl, rfl⟩, ?_⟩
          refine ⟨⟨rfl, rfl⟩, ?_⟩
          clear hF hH; intro a w hF hH
          refine wl_end (by kernel_rfl) ?_
          refine then_n ?_
          refine wp_condE (b := b.i.d || b.o.d) (by kernel_rfl) (by kernel_rfl) hF (fun hb4 => ?_) (fun hb4 => ?_)
          · skip
            refine wp_seqE (by kernel_rfl) ?_
            refine wp_regE (by kernel_rfl) ?_
            refine seg [.p] [2] (fun K => K [⟨2, none, .int .i64 13⟩] [.box g1 27 [.int .i64 b.g, .int .i64 b.n, .int .u8 b.e, .int .u8 b.t, .int .i64 b.i.h, .int .i64 b.i.m, .int .i64 b.i.s, .int .i64 b.i.f, .bool b.i.d, .int .i64 b.o.h, .int .i64 b.o.m, .int .i64 b.o.s, .int .i64 b.o.f, .bool b.o.d, .int .i64 b.r, .int .u8 b.a, .bool b.c, .slice A n c]]) (fun K => by kernel_rfl) hF hH ?_
            clear hF hH; intro a w hF hH
            refine wl_end (by kernel_rfl) ?_
            refine then_n ?_
            refine wp_retE (by kernel_rfl) ?_
            refine block_ret ?_
            refine then_ret ?_
            refine retE (vs := [.int .i64 13]) (p := True) (v := .int .i64 13) [] (by kernel_rfl) trivial (by kernel_rfl) hF hH ?_
            subst hl
            exact fin0 (by simp only [checkV, hb1, hb2, hx1, hb3, hb4]; rfl) hH
          · skip
            refine wp_seqE (by kernel_rfl) ?_
            refine wp_regE (by kernel_rfl) ?_
            refine seg [.p, .ld (.r 0), .p, .p, .p, .ld (.r 0), .p, .pk, .p] [1, 56] (fun K => ((g1 : Nat) = g1 ∧ (none : Option Nat) = none) ∧ ((g1 : Nat) = g1 ∧ (none : Option Nat) = none) ∧ K [⟨1, none, .pointer (some ⟨g1, 0, none⟩)⟩, ⟨56, none, .bool ((decide (b.r < 0)) || (decide (15 ≤ b.r)))⟩] [.box g1 27 [.int .i64 b.g, .int .i64 b.n, .int .u8 b.e, .int .u8 b.t, .int .i64 b.i.h, .int .i64 b.i.m, .int .i64 b.i.s, .int .i64 b.i.f, .bool b.i.d, .int .i64 b.o.h, .int .i64 b.o.m, .int .i64 b.o.s, .int .i64 b.o.f, .bool b.o.d, .int .i64 b.r, .int .u8 b.a, .bool b.c, .slice A n c]]) (fun K => by kernel_rfl) hF hH ?_
            refine ⟨⟨rfl, rfl⟩, ?_⟩
            refine ⟨⟨rfl, rfl⟩, ?_⟩
            clear hF hH; intro a w hF hH
            refine wl_end (by kernel_rfl) ?_
            refine then_n ?_
            refine wp_condE (b := (decide (b.r < 0)) || (decide (15 ≤ b.r))) (by kernel_rfl) (by kernel_rfl) hF (fun hb5 => ?_) (fun hb5 => ?_)
            · skip
              refine wp_seqE (by kernel_rfl) ?_
              refine wp_regE (by kernel_rfl) ?_
              refine seg [.p] [2] (fun K => K [⟨2, none, .int .i64 2⟩] [.box g1 27 [.int .i64 b.g, .int .i64 b.n, .int .u8 b.e, .int .u8 b.t, .int .i64 b.i.h, .int .i64 b.i.m, .int .i64 b.i.s, .int .i64 b.i.f, .bool b.i.d, .int .i64 b.o.h, .int .i64 b.o.m, .int .i64 b.o.s, .int .i64 b.o.f, .bool b.o.d, .int .i64 b.r, .int .u8 b.a, .bool b.c, .slice A n c]]) (fun K => by kernel_rfl) hF hH ?_
              clear hF hH; intro a w hF hH
              refine wl_end (by kernel_rfl) ?_
              refine then_n ?_
              refine wp_retE (by kernel_rfl) ?_
              refine block_ret ?_
              refine then_ret ?_
              refine retE (vs := [.int .i64 2]) (p := True) (v := .int .i64 2) [] (by kernel_rfl) trivial (by kernel_rfl) hF hH ?_
              subst hl
              exact fin0 (by simp only [checkV, hb1, hb2, hx1, hb3, hb4, hb5]; rfl) hH
            · skip
              refine wp_seqE (by kernel_rfl) ?_
              refine wp_regE (by kernel_rfl) ?_
              refine seg [.p, .ld (.r 0), .p, .p, .p, .ld (.r 0), .p, .pk, .p] [1, 65] (fun K => ((g1 : Nat) = g1 ∧ (none : Option Nat) = none) ∧ ((g1 : Nat) = g1 ∧ (none : Option Nat) = none) ∧ K [⟨1, none, .pointer (some ⟨g1, 0, none⟩)⟩, ⟨65, none, .bool ((decide (b.a < 1)) || (decide (3 < b.a)))⟩] [.box g1 27 [.int .i64 b.g, .int .i64 b.n, .int .u8 b.e, .int .u8 b.t, .int .i64 b.i.h, .int .i64 b.i.m, .int .i64 b.i.s, .int .i64 b.i.f, .bool b.i.d, .int .i64 b.o.h, .int .i64 b.o.m, .int .i64 b.o.s, .int .i64 b.o.f, .bool b.o.d, .int .i64 b.r, .int .u8 b.a, .bool b.c, .slice A n c]]) (fun K => by kernel_rfl) hF hH ?_
              refine ⟨⟨rfl, rfl⟩, ?_⟩
              refine ⟨⟨rfl, rfl⟩, ?_⟩
              clear hF hH; intro a w hF hH
              refine wl_end (by kernel_rfl) ?_
              refine then_n ?_
              refine wp_condE (b := (decide (b.a < 1)) || (decide (3 < b.a))) (by kernel_rfl) (by kernel_rfl) hF (fun hb6 => ?_) (fun hb6 => ?_)
              · skip
                refine wp_seqE (by kernel_rfl) ?_
                refine wp_regE (by kernel_rfl) ?_
                refine seg [.p] [2] (fun K => K [⟨2, none, .int .i64 3⟩] [.box g1 27 [.int .i64 b.g, .int .i64 b.n, .int .u8 b.e, .int .u8 b.t, .int .i64 b.i.h, .int .i64 b.i.m, .int .i64 b.i.s, .int .i64 b.i.f, .bool b.i.d, .int .i64 b.o.h, .int .i64 b.o.m, .int .i64 b.o.s, .int .i64 b.o.f, .bool b.o.d, .int .i64 b.r, .int .u8 b.a, .bool b.c, .slice A n c]]) (fun K => by kernel_rfl) hF hH ?_
                clear hF hH; intro a w hF hH
                refine wl_end (by kernel_rfl) ?_
                refine then_n ?_
                refine wp_retE (by kernel_rfl) ?_
                refine block_ret ?_
                refine then_ret ?_
                refine retE (vs := [.int .i64 3]) (p := True) (v := .int .i64 3) [] (by kernel_rfl) trivial (by kernel_rfl) hF hH ?_
                subst hl
                exact fin0 (by simp only [checkV, hb1, hb2, hx1, hb3, hb4, hb5, hb6]; rfl) hH
              · skip
                refine wp_seqE (by kernel_rfl) ?_
                refine wp_regE (by kernel_rfl) ?_
                refine seg [.p, .ld (.r 0), .p, .p, .p] [1, 74] (fun K => ((g1 : Nat) = g1 ∧ (none : Option Nat) = none) ∧ K [⟨1, none, .pointer (some ⟨g1, 0, none⟩)⟩, ⟨74, none, .bool (decide (112 < ((n : Nat) : Int)))⟩] [.box g1 27 [.int .i64 b.g, .int .i64 b.n, .int .u8 b.e, .int .u8 b.t, .int .i64 b.i.h, .int .i64 b.i.m, .int .i64 b.i.s, .int .i64 b.i.f, .bool b.i.d, .int .i64 b.o.h, .int .i64 b.o.m, .int .i64 b.o.s, .int .i64 b.o.f, .bool b.o.d, .int .i64 b.r, .int .u8 b.a, .bool b.c, .slice A n c]]) (fun K => by kernel_rfl) hF hH ?_
                refine ⟨⟨rfl, rfl⟩, ?_⟩
                clear hF hH; intro a w hF hH
                refine wl_end (by kernel_rfl) ?_
                refine then_n ?_
                refine wp_condE (b := decide (112 < ((n : Nat) : Int))) (by kernel_rfl) (by kernel_rfl) hF (fun hb7 => ?_) (fun hb7 => ?_)
                · skip
                  have hb7p := of_decide_eq_true hb7
                  refine wp_seqE (by kernel_rfl) ?_
                  refine wp_regE (by kernel_rfl) ?_
                  refine seg [.p] [2] (fun K => K [⟨2, none, .int .i64 9⟩] [.box g1 27 [.int .i64 b.g, .int .i64 b.n, .int .u8 b.e, .int .u8 b.t, .int .i64 b.i.h, .int .i64 b.i.m, .int .i64 b.i.s, .int .i64 b.i.f, .bool b.i.d, .int .i64 b.o.h, .int .i64 b.o.m, .int .i64 b.o.s, .int .i64 b.o.f, .bool b.o.d, .int .i64 b.r, .int .u8 b.a, .bool b.c, .slice A n c]]) (fun K => by kernel_rfl) hF hH ?_
                  clear hF hH; intro a w hF hH
                  refine wl_end (by kernel_rfl) ?_
                  refine then_n ?_
                  refine wp_retE (by kernel_rfl) ?_
                  refine block_ret ?_
                  refine then_ret ?_
                  refine retE (vs := [.int .i64 9]) (p := True) (v := .int .i64 9) [] (by kernel_rfl) trivial (by kernel_rfl) hF hH ?_
                  subst hl
                  exact fin0 (by simp only [checkV, hb1, hb2, hx1, hb3, hb4, hb5, hb6, hb7]; rfl) hH
                · skip
                  have hb7p := of_decide_eq_false hb7
                  refine wp_seqE (by kernel_rfl) ?_
                  refine wp_regE (by kernel_rfl) ?_
                  refine seg [.p, .ld (.r 0)] [81] (fun K => ((g1 : Nat) = g1 ∧ (none : Option Nat) = none) ∧ K [⟨81, none, .slice A n c⟩] [.box g1 27 [.int .i64 b.g, .int .i64 b.n, .int .u8 b.e, .int .u8 b.t, .int .i64 b.i.h, .int .i64 b.i.m, .int .i64 b.i.s, .int .i64 b.i.f, .bool b.i.d, .int .i64 b.o.h, .int .i64 b.o.m, .int .i64 b.o.s, .int .i64 b.o.f, .bool b.o.d, .int .i64 b.r, .int .u8 b.a, .bool b.c, .slice A n c]]) (fun K => by kernel_rfl) hF hH ?_
                  refine ⟨⟨rfl, rfl⟩, ?_⟩
                  clear hF hH; intro a w hF hH
                  refine callE (d := 82) (indexByte_c A n c bs (by first | rfl | assumption | (simp; done) | (simp; omega)) 143) [.n 0] (by kernel_rfl) (by kernel_rfl) hF hH ?_
                  clear hF hH; rintro ⟨⟩ - a w hF hH
                  refine seg [.p, .p] [79] (fun K => K [⟨79, none, .bool (decide (0 ≤ (ixV bs 143)))⟩] [.box g1 27 [.int .i64 b.g, .int .i64 b.n, .int .u8 b.e, .int .u8 b.t, .int .i64 b.i.h, .int .i64 b.i.m, .int .i64 b.i.s, .int .i64 b.i.f, .bool b.i.d, .int .i64 b.o.h, .int .i64 b.o.m, .int .i64 b.o.s, .int .i64 b.o.f, .bool b.o.d, .int .i64 b.r, .int .u8 b.a, .bool b.c, .slice A n c]]) (fun K => by kernel_rfl) hF hH ?_
                  clear hF hH; intro a w hF hH
                  refine wl_end (by kernel_rfl) ?_
                  refine then_n ?_
                  refine wp_condE (b := decide (0 ≤ (ixV bs 143))) (by kernel_rfl) (by kernel_rfl) hF (fun hb8 => ?_) (fun hb8 => ?_)
                  · skip
                    have hb8p := of_decide_eq_true hb8
                    refine wp_seqE (by kernel_rfl) ?_
                    refine wp_regE (by kernel_rfl) ?_
                    refine seg [.p] [2] (fun K => K [⟨2, none, .int .i64 4⟩] [.box g1 27 [.int .i64 b.g, .int .i64 b.n, .int .u8 b.e, .int .u8 b.t, .int .i64 b.i.h, .int .i64 b.i.m, .int .i64 b.i.s, .int .i64 b.i.f, .bool b.i.d, .int .i64 b.o.h, .int .i64 b.o.m, .int .i64 b.o.s, .int .i64 b.o.f, .bool b.o.d, .int .i64 b.r, .int .u8 b.a, .bool b.c, .slice A n c]]) (fun K => by kernel_rfl) hF hH ?_
                    clear hF hH; intro a w hF hH
                    refine wl_end (by kernel_rfl) ?_
                    refine then_n ?_
                    refine wp_retE (by kernel_rfl) ?_
                    refine block_ret ?_
                    refine then_ret ?_
                    refine retE (vs := [.int .i64 4]) (p := True) (v := .int .i64 4) [] (by kernel_rfl) trivial (by kernel_rfl) hF hH ?_
                    subst hl
                    exact fin0 (by simp only [checkV, hb1, hb2, hx1, hb3, hb4, hb5, hb6, hb7, hb8]; rfl) hH
                  · skip
                    have hb8p := of_decide_eq_false hb8
                    refine wp_skipE (by kernel_rfl) ?_
                    refine block_n ?_
                    refine then_n ?_
                    refine wp_seqE (by kernel_rfl) ?_
                    refine wp_regE (by kernel_rfl) ?_
                    refine seg [.p] [2] (fun K => K [⟨2, none, .int .i64 0⟩] [.box g1 27 [.int .i64 b.g, .int .i64 b.n, .int .u8 b.e, .int .u8 b.t, .int .i64 b.i.h, .int .i64 b.i.m, .int .i64 b.i.s, .int .i64 b.i.f, .bool b.i.d, .int .i64 b.o.h, .int .i64 b.o.m, .int .i64 b.o.s, .int .i64 b.o.f, .bool b.o.d, .int .i64 b.r, .int .u8 b.a, .bool b.c, .slice A n c]]) (fun K => by kernel_rfl) hF hH ?_
                    clear hF hH; intro a w hF hH
                    refine wl_end (by kernel_rfl) ?_
                    refine then_n ?_
                    refine wp_retE (by kernel_rfl) ?_
                    refine retE (vs := [.int .i64 0]) (p := True) (v := .int .i64 0) [] (by kernel_rfl) trivial (by kernel_rfl) hF hH ?_
                    subst hl
                    exact fin0 (by simp only [checkV, hb1, hb2, hx1, hb3, hb4, hb5, hb6, hb7, hb8]; rfl) hH

theorem clone_none (c : Nat) : CallOk Try.prog 25 [.slice none 0 c] [.view none 0 c 1 (byE [])] (U := Option Addr × Nat) (fun u => .slice u.1 0 u.2) (fun u => [.row u.1 u.2 5 1 0 []]) (fun _ => True) := by
  intro w0 hn
  refine enterE (N := 8) Try.func25 (by kernel_rfl) (by kernel_rfl) (by kernel_rfl) ?_
  intro a hF
  have hH := Hp.start w0 hn
  refine wp_seqE (by kernel_rfl) ?_
  refine wp_regE (by kernel_rfl) ?_
  refine seg [.p] [0] (fun K => K [⟨0, none, .slice none 0 c⟩] []) (fun K => by kernel_rfl) hF hH ?_
  clear hF hH; intro a w hF hH
  refine wl_end (by kernel_rfl) ?_
  refine then_n ?_
  refine wp_seqE (by kernel_rfl) ?_
  refine wp_seqE (by kernel_rfl) ?_
  refine wp_regE (by kernel_rfl) ?_
  refine seg [.p, .p] [0, 4] (fun K => K [⟨0, none, .slice none 0 c⟩, ⟨4, none, .bool true⟩] []) (fun K => by kernel_rfl) hF hH ?_
  clear hF hH; intro a w hF hH
  refine wl_end (by kernel_rfl) ?_
  refine then_n ?_
  refine wp_condE (b := true) (by kernel_rfl) (by kernel_rfl) hF (fun _ => ?_) (fun h => by cases h)
  refine wp_seqE (by kernel_rfl) ?_
  refine wp_regE (by kernel_rfl) ?_
  refine seg [.p] [2] (fun K => K [⟨2, none, .slice none 0 0⟩] []) (fun K => by kernel_rfl) hF hH ?_
  clear hF hH; intro a w hF hH
  refine wl_end (by kernel_rfl) ?_
  refine then_n ?_
  refine wp_retE (by kernel_rfl) ?_
  refine then_ret ?_
  refine retE (vs := [.slice none 0 0]) (p := True) (v := .slice none 0 0) [] (by kernel_rfl) trivial (by kernel_rfl) hF hH ?_
  exact ⟨(none, 0), rfl, hH.below, trivial, newRow1 (by simp [rowOk]) (fun _ h => by cases h)⟩

theorem clone_some (ad : Addr) (n c : Nat) (bs : List UInt8) (hl : bs.length = n) (hb : n ≤ 140737488355328) : CallOk Try.prog 25 [.slice (some ad) n c] [.view (some ad) n c 1 (byE bs)] (U := Option Addr × Nat) (fun u => .slice u.1 n u.2) (fun u => [.row u.1 u.2 5 1 n (byC bs)]) (fun _ => True) := by
  intro w0 hn
  refine enterE (N := 8) Try.func25 (by kernel_rfl) (by kernel_rfl) (by kernel_rfl) ?_
  intro a hF
  have hH := Hp.start w0 hn
  refine wp_seqE (by kernel_rfl) ?_
  refine wp_regE (by kernel_rfl) ?_
  refine seg [.p] [0] (fun K => K [⟨0, none, .slice (some ad) n c⟩] []) (fun K => by kernel_rfl) hF hH ?_
  clear hF hH; intro a w hF hH
  refine wl_end (by kernel_rfl) ?_
  refine then_n ?_
  refine wp_seqE (by kernel_rfl) ?_
  refine wp_seqE (by kernel_rfl) ?_
  refine wp_regE (by kernel_rfl) ?_
  refine seg [.p, .p] [0, 4] (fun K => K [⟨0, none, .slice (some ad) n c⟩, ⟨4, none, .bool false⟩] []) (fun K => by kernel_rfl) hF hH ?_
  clear hF hH; intro a w hF hH
  refine wl_end (by kernel_rfl) ?_
  refine then_n ?_
  refine wp_condE (b := false) (by kernel_rfl) (by kernel_rfl) hF (fun h => by cases h) (fun _ => ?_)
  refine wp_skipE (by kernel_rfl) ?_
  refine then_n ?_
  refine wp_seqE (by kernel_rfl) ?_
  refine wp_regE (by kernel_rfl) ?_
  refine seg [.bs, .p] [5, 6] (fun K => ∀ g1, K [⟨5, none, .slice (some ⟨g1, 0, none⟩) 0 0⟩, ⟨6, none, .slice (some ad) n c⟩] [.box g1 5 []]) (fun K => by kernel_rfl) hF hH ?_
  intro g1
  clear hF hH; intro a w hF hH
  have hH := hH.boxRow (k := 0) rfl 1 0 0 (by omega) (by unfold maxLen; omega) rfl
  refine seg [.ap 0 (.n 0) (byC bs), .p] [2] (fun K => (((some ⟨g1, 0, none⟩) : Option Addr) = (some ⟨g1, 0, none⟩) ∧ (0 : Nat) = 0 ∧ (0 : Nat) = 0 ∧ srcP (.view (some ad) n c 1 (byE bs)) (some ad) n 1 (byC bs) ∧ (∀ u ∈ (byC bs : List Value), u.oneCell' = true) ∧ 0 + n ≤ maxLen ∧ (0 + n) * 1 ≤ 140737488355328) ∧ ∀ A1 c1, K [⟨2, none, .slice A1 (0 + n) c1⟩] [.row A1 c1 5 1 (0 + n) (([]) ++ (byC bs))]) (fun K => by kernel_rfl) hF hH ?_
  refine ⟨⟨rfl, rfl, rfl, ⟨rfl, rfl, rfl, by_flatN bs (by first | rfl | assumption | (simp; done) | (simp; omega))⟩, (by_one bs), by (unfold maxLen; omega), by omega⟩, ?_⟩
  intro A1 c1
  clear hF hH; intro a w hF hH
  refine wl_end (by kernel_rfl) ?_
  refine then_n ?_
  refine wp_retE (by kernel_rfl) ?_
  refine retE (vs := [.slice A1 (0 + n) c1]) (p := True) (v := .slice A1 (0 + n) c1) [] (by kernel_rfl) trivial (by kernel_rfl) hF hH ?_
  exact ⟨(A1, c1), by simp, hH.below, trivial, newRowOf hH (k := 0) rfl (by simp)⟩

theorem clone_c (A : Option Addr) (n c : Nat) (bs : List UInt8) (hl : bs.length = n) (hb : n ≤ 140737488355328) : CallOk Try.prog 25 [.slice A n c] [.view A n c 1 (byE bs)] (U := Option Addr × Nat) (fun u => .slice u.1 n u.2) (fun u => [.row u.1 u.2 5 1 n (byC bs)]) (fun _ => True) := by
  cases A with
  | none =>
    intro w hn
    subst hl
    have := byV_none (hn _ (List.mem_singleton.2 rfl)).1
    subst this
    exact clone_none c w hn
  | some ad => exact clone_some ad n c bs hl hb

end Go.Proofs.Ytcccboodapgejaa
