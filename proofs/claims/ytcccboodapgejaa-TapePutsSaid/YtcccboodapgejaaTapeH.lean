/-
  The reference's within, clock, filled, Check, fill and Put; same; Equal of the package bytes: walked once each.
-/
import Derived.Test.YtcccboodapgejaaTapeF
import Derived.Test.YtcccboodapgejaaDatE
namespace Go.Proofs.Ytcccboodapgejaa
open Go.Sym

theorem within_c (x lo hi : Int) : CallOk Try.prog 39 [.int .i64 x, .int .i64 lo, .int .i64 hi] [] (U := Unit) (fun _ => .bool (withinV x lo hi)) (fun _ => []) (fun _ => True) := by
  intro w0 hn
  refine enterE (N := 15) Try.func39 (by kernel_rfl) (by kernel_rfl) (by kernel_rfl) ?_
  intro a hF
  have hH := Hp.start w0 hn
  refine wp_seqE (by kernel_rfl) ?_
  refine wp_regE (by kernel_rfl) ?_
  refine seg [.p] [0, 1, 2] (fun K => K [⟨0, none, .int .i64 x⟩, ⟨1, none, .int .i64 lo⟩, ⟨2, none, .int .i64 hi⟩] []) (fun K => by kernel_rfl) hF hH ?_
  clear hF hH; intro a w hF hH
  refine wl_end (by kernel_rfl) ?_
  refine then_n ?_
  refine wp_seqE (by kernel_rfl) ?_
  refine wp_regE (by kernel_rfl) ?_
  refine seg [.p, .p, .p, .p, .p, .p, .p, .pk, .p] [6] (fun K => K [⟨6, none, .bool ((decide (lo ≤ x)) && (decide (x ≤ hi)))⟩] []) (fun K => by kernel_rfl) hF hH ?_
  clear hF hH; intro a w hF hH
  refine wl_end (by kernel_rfl) ?_
  refine then_n ?_
  refine wp_retE (by kernel_rfl) ?_
  refine retE (vs := [.bool ((decide (lo ≤ x)) && (decide (x ≤ hi)))]) (p := True) (v := .bool ((decide (lo ≤ x)) && (decide (x ≤ hi)))) [] (by kernel_rfl) trivial (by kernel_rfl) hF hH ?_
  exact fin0 rfl hH

theorem clock_c (l : Lbl) : CallOk Try.prog 40 [.agg #[.int .i64 l.h, .int .i64 l.m, .int .i64 l.s, .int .i64 l.f, .bool l.d]] [] (U := Unit) (fun _ => .bool (clockV l)) (fun _ => []) (fun _ => True) := by
  intro w0 hn
  refine enterE (N := 21) Try.func40 (by kernel_rfl) (by kernel_rfl) (by kernel_rfl) ?_
  intro a hF
  have hH := Hp.start w0 hn
  refine wp_seqE (by kernel_rfl) ?_
  refine wp_regE (by kernel_rfl) ?_
  refine seg [.bx, .p] [1] (fun K => ∀ g1, K [⟨1, none, .pointer (some ⟨g1, 0, none⟩)⟩] [.box g1 23 [.int .i64 l.h, .int .i64 l.m, .int .i64 l.s, .int .i64 l.f, .bool l.d]]) (fun K => by kernel_rfl) hF hH ?_
  intro g1
  clear hF hH; intro a w hF hH
  refine wl_end (by kernel_rfl) ?_
  refine then_n ?_
  refine wp_seqE (by kernel_rfl) ?_
  refine wp_regE (by kernel_rfl) ?_
  refine seg [.p, .ld (.r 0)] [1, 4] (fun K => ((g1 : Nat) = g1 ∧ (none : Option Nat) = none) ∧ K [⟨1, none, .pointer (some ⟨g1, 0, none⟩)⟩, ⟨4, none, .int .i64 l.h⟩] [.box g1 23 [.int .i64 l.h, .int .i64 l.m, .int .i64 l.s, .int .i64 l.f, .bool l.d]]) (fun K => by kernel_rfl) hF hH ?_
  refine ⟨⟨rfl, rfl⟩, ?_⟩
  clear hF hH; intro a w hF hH
  refine callE (d := 5) (within_c l.h 0 23) [] (by kernel_rfl) (by kernel_rfl) hF hH ?_
  clear hF hH; rintro ⟨⟩ - a w hF hH
  refine seg [.p] [1, 6] (fun K => K [⟨1, none, .pointer (some ⟨g1, 0, none⟩)⟩, ⟨6, none, .bool (withinV l.h 0 23)⟩] [.box g1 23 [.int .i64 l.h, .int .i64 l.m, .int .i64 l.s, .int .i64 l.f, .bool l.d]]) (fun K => by kernel_rfl) hF hH ?_
  clear hF hH; intro a w hF hH
  rcases Bool.eq_false_or_eq_true (withinV l.h 0 23) with hx1 | hx1
  · rw [hx1] at hF
    refine seg [.gt (.p), .gt (.ld (.r 0))] [1, 6, 8] (fun K => (true = true) ∧ (true = true) ∧ ((g1 : Nat) = g1 ∧ (none : Option Nat) = none) ∧ K [⟨1, none, .pointer (some ⟨g1, 0, none⟩)⟩, ⟨6, none, .bool true⟩, ⟨8, none, .int .i64 l.m⟩] [.box g1 23 [.int .i64 l.h, .int .i64 l.m, .int .i64 l.s, .int .i64 l.f, .bool l.d]]) (fun K => by kernel_rfl) hF hH ?_
    refine ⟨rfl, ?_⟩
    refine ⟨rfl, ?_⟩
    refine ⟨⟨rfl, rfl⟩, ?_⟩
    clear hF hH; intro a w hF hH
    refine callE (d := 9) (within_c l.m 0 59) [] (by kernel_rfl) (by kernel_rfl) hF hH ?_
    clear hF hH; rintro ⟨⟩ - a w hF hH
    refine seg [.p, .p] [1, 11] (fun K => K [⟨1, none, .pointer (some ⟨g1, 0, none⟩)⟩, ⟨11, none, .bool (withinV l.m 0 59)⟩] [.box g1 23 [.int .i64 l.h, .int .i64 l.m, .int .i64 l.s, .int .i64 l.f, .bool l.d]]) (fun K => by kernel_rfl) hF hH ?_
    clear hF hH; intro a w hF hH
    rcases Bool.eq_false_or_eq_true (withinV l.m 0 59) with hx2 | hx2
    · rw [hx2] at hF
      refine seg [.gt (.p), .gt (.ld (.r 0))] [1, 11, 13] (fun K => (true = true) ∧ (true = true) ∧ ((g1 : Nat) = g1 ∧ (none : Option Nat) = none) ∧ K [⟨1, none, .pointer (some ⟨g1, 0, none⟩)⟩, ⟨11, none, .bool true⟩, ⟨13, none, .int .i64 l.s⟩] [.box g1 23 [.int .i64 l.h, .int .i64 l.m, .int .i64 l.s, .int .i64 l.f, .bool l.d]]) (fun K => by kernel_rfl) hF hH ?_
      refine ⟨rfl, ?_⟩
      refine ⟨rfl, ?_⟩
      refine ⟨⟨rfl, rfl⟩, ?_⟩
      clear hF hH; intro a w hF hH
      refine callE (d := 14) (within_c l.s 0 59) [] (by kernel_rfl) (by kernel_rfl) hF hH ?_
      clear hF hH; rintro ⟨⟩ - a w hF hH
      refine seg [.p, .p] [1, 16] (fun K => K [⟨1, none, .pointer (some ⟨g1, 0, none⟩)⟩, ⟨16, none, .bool (withinV l.s 0 59)⟩] [.box g1 23 [.int .i64 l.h, .int .i64 l.m, .int .i64 l.s, .int .i64 l.f, .bool l.d]]) (fun K => by kernel_rfl) hF hH ?_
      clear hF hH; intro a w hF hH
      rcases Bool.eq_false_or_eq_true (withinV l.s 0 59) with hx3 | hx3
      · rw [hx3] at hF
        refine seg [.gt (.p), .gt (.ld (.r 0))] [16, 18] (fun K => (true = true) ∧ (true = true) ∧ ((g1 : Nat) = g1 ∧ (none : Option Nat) = none) ∧ K [⟨16, none, .bool true⟩, ⟨18, none, .int .i64 l.f⟩] [.box g1 23 [.int .i64 l.h, .int .i64 l.m, .int .i64 l.s, .int .i64 l.f, .bool l.d]]) (fun K => by kernel_rfl) hF hH ?_
        refine ⟨rfl, ?_⟩
        refine ⟨rfl, ?_⟩
        refine ⟨⟨rfl, rfl⟩, ?_⟩
        clear hF hH; intro a w hF hH
        refine callE (d := 19) (within_c l.f 0 29) [] (by kernel_rfl) (by kernel_rfl) hF hH ?_
        clear hF hH; rintro ⟨⟩ - a w hF hH
        refine seg [.p, .p] [2] (fun K => K [⟨2, none, .bool (withinV l.f 0 29)⟩] [.box g1 23 [.int .i64 l.h, .int .i64 l.m, .int .i64 l.s, .int .i64 l.f, .bool l.d]]) (fun K => by kernel_rfl) hF hH ?_
        clear hF hH; intro a w hF hH
        refine wl_end (by kernel_rfl) ?_
        refine then_n ?_
        refine wp_retE (by kernel_rfl) ?_
        refine retE (vs := [.bool (withinV l.f 0 29)]) (p := True) (v := .bool (withinV l.f 0 29)) [] (by kernel_rfl) trivial (by kernel_rfl) hF hH ?_
        exact fin0 (by simp only [clockV, hx1, hx2, hx3]; rfl) hH
      · rw [hx3] at hF
        refine seg [.sk, .sk, .sk, .p, .p] [2] (fun K => (false = !true) ∧ (false = !true) ∧ (false = !true) ∧ K [⟨2, none, .bool false⟩] [.box g1 23 [.int .i64 l.h, .int .i64 l.m, .int .i64 l.s, .int .i64 l.f, .bool l.d]]) (fun K => by kernel_rfl) hF hH ?_
        refine ⟨rfl, ?_⟩
        refine ⟨rfl, ?_⟩
        refine ⟨rfl, ?_⟩
        clear hF hH; intro a w hF hH
        refine wl_end (by kernel_rfl) ?_
        refine then_n ?_
        refine wp_retE (by kernel_rfl) ?_
        refine retE (vs := [.bool false]) (p := True) (v := .bool false) [] (by kernel_rfl) trivial (by kernel_rfl) hF hH ?_
        exact fin0 (by simp only [clockV, hx1, hx2, hx3]; rfl) hH
    · rw [hx2] at hF
      refine seg [.sk, .sk, .sk, .p, .p, .sk, .sk, .sk, .p, .p] [2] (fun K => (false = !true) ∧ (false = !true) ∧ (false = !true) ∧ (false = !true) ∧ (false = !true) ∧ (false = !true) ∧ K [⟨2, none, .bool false⟩] [.box g1 23 [.int .i64 l.h, .int .i64 l.m, .int .i64 l.s, .int .i64 l.f, .bool l.d]]) (fun K => by kernel_rfl) hF hH ?_
      refine ⟨rfl, ?_⟩
      refine ⟨rfl, ?_⟩
      refine ⟨rfl, ?_⟩
      refine ⟨rfl, ?_⟩
      refine ⟨rfl, ?_⟩
      refine ⟨rfl, ?_⟩
      clear hF hH; intro a w hF hH
      refine wl_end (by kernel_rfl) ?_
      refine then_n ?_
      refine wp_retE (by kernel_rfl) ?_
      refine retE (vs := [.bool false]) (p := True) (v := .bool false) [] (by kernel_rfl) trivial (by kernel_rfl) hF hH ?_
      exact fin0 (by simp only [clockV, hx1, hx2]; rfl) hH
  · rw [hx1] at hF
    refine seg [.sk, .sk, .sk, .p, .p, .sk, .sk, .sk, .p, .p, .sk, .sk, .sk, .p, .p] [2] (fun K => (false = !true) ∧ (false = !true) ∧ (false = !true) ∧ (false = !true) ∧ (false = !true) ∧ (false = !true) ∧ (false = !true) ∧ (false = !true) ∧ (false = !true) ∧ K [⟨2, none, .bool false⟩] [.box g1 23 [.int .i64 l.h, .int .i64 l.m, .int .i64 l.s, .int .i64 l.f, .bool l.d]]) (fun K => by kernel_rfl) hF hH ?_
    refine ⟨rfl, ?_⟩
    refine ⟨rfl, ?_⟩
    refine ⟨rfl, ?_⟩
    refine ⟨rfl, ?_⟩
    refine ⟨rfl, ?_⟩
    refine ⟨rfl, ?_⟩
    refine ⟨rfl, ?_⟩
    refine ⟨rfl, ?_⟩
    refine ⟨rfl, ?_⟩
    clear hF hH; intro a w hF hH
    refine wl_end (by kernel_rfl) ?_
    refine then_n ?_
    refine wp_retE (by kernel_rfl) ?_
    refine retE (vs := [.bool false]) (p := True) (v := .bool false) [] (by kernel_rfl) trivial (by kernel_rfl) hF hH ?_
    exact fin0 (by simp only [clockV, hx1]; rfl) hH

theorem filled_c (A : Option Addr) (n c : Nat) (bs : List UInt8) (hl : bs.length = n) : CallOk Try.prog 27 [.slice A n c] [.view A n c 1 (byE bs)] (U := Unit) (fun _ => .bool (bs.contains 143)) (fun _ => []) (fun _ => True) := by
  intro w0 hn
  have hnc : n ≤ c := (hn _ (List.mem_cons_self ..)).1.1
  have hcm : c ≤ 9223372036854775807 := (hn _ (List.mem_cons_self ..)).1.2.1
  refine enterE (N := 14) Try.func27 (by kernel_rfl) (by kernel_rfl) (by kernel_rfl) ?_
  intro a hF
  have hH := Hp.start w0 hn
  refine wp_seqE (by kernel_rfl) ?_
  refine wp_regE (by kernel_rfl) ?_
  refine seg [.p] [0] (fun K => K [⟨0, none, .slice A n c⟩] []) (fun K => by kernel_rfl) hF hH ?_
  clear hF hH; intro a w hF hH
  refine wl_end (by kernel_rfl) ?_
  refine then_n ?_
  refine wp_seqE (by kernel_rfl) ?_
  refine wp_seqE (by kernel_rfl) ?_
  refine wp_regE (by kernel_rfl) ?_
  refine seg [.p, .p, .p] [5, 6, 7] (fun K => K [⟨5, none, .slice A n c⟩, ⟨6, none, .int .i64 ((n : Nat) : Int)⟩, ⟨7, none, .int .i64 0⟩] []) (fun K => by kernel_rfl) hF hH ?_
  clear hF hH; intro a w hF hH
  refine wl_end (by kernel_rfl) ?_
  refine then_n ?_
  refine wp_blockE (id := 0) (by kernel_rfl) ?_
  refine wp_loopE (by kernel_rfl) (fun msr a w => ∃ (k : Nat), msr = n - k ∧ (k ≤ n) ∧ (∀ j, j < k → bs.getD j 0 ≠ 143) ∧ Fr 14 [⟨5, none, .slice A n c⟩, ⟨6, none, .int .i64 ((n : Nat) : Int)⟩, ⟨7, none, .int .i64 ((k : Nat) : Int)⟩] a ∧ Hp w0 [.view A n c 1 (byE bs)] [] w) _ ⟨0, rfl, Nat.zero_le _, fun j hj => absurd hj (by omega), frK hF [5, 6, 7] (by kernel_rfl), hpKN hH [0] [] (by kernel_rfl) (by kernel_rfl) (by kernel_rfl)⟩ ?_
  clear hF hH; rintro msr a w ⟨k, rfl, hk, he, hF, hH⟩
  refine wp_seqE (by kernel_rfl) ?_
  refine wp_regE (by kernel_rfl) ?_
  refine seg [.p] [5, 6, 7, 8] (fun K => K [⟨5, none, .slice A n c⟩, ⟨6, none, .int .i64 ((n : Nat) : Int)⟩, ⟨7, none, .int .i64 ((k : Nat) : Int)⟩, ⟨8, none, .bool (decide (((k : Nat) : Int) < ((n : Nat) : Int)))⟩] []) (fun K => by kernel_rfl) hF hH ?_
  clear hF hH; intro a w hF hH
  refine wl_end (by kernel_rfl) ?_
  refine then_n ?_
  refine wp_seqE (by kernel_rfl) ?_
  refine wp_condE (b := decide (((k : Nat) : Int) < ((n : Nat) : Int))) (by kernel_rfl) (by kernel_rfl) hF (fun hb1 => ?_) (fun hb1 => ?_)
  · skip
    have hb1p := of_decide_eq_true hb1
    refine wp_skipE (by kernel_rfl) ?_
    refine then_n ?_
    refine wp_seqE (by kernel_rfl) ?_
    refine wp_blockE (id := 1) (by kernel_rfl) ?_
    refine wp_seqE (by kernel_rfl) ?_
    refine wp_regE (by kernel_rfl) ?_
    refine seg [.ia (.n 0) k, .lv (.n 0) k 0, .p] [5, 6, 7, 4] (fun K => (((A) : Option Addr) = A ∧ (n : Nat) = n ∧ (1 : Nat) = 1 ∧ (((k : Nat) : Int) : Int) = ((k : Nat) : Int) ∧ k < n) ∧ ((A.getD nilA).add (k * 1) = ((A.getD nilA).add (k * 1)).add 0 ∧ k < n) ∧ K [⟨5, none, .slice A n c⟩, ⟨6, none, .int .i64 ((n : Nat) : Int)⟩, ⟨7, none, .int .i64 ((k : Nat) : Int)⟩, ⟨4, none, .int .u8 ((bs.getD k 0).toNat : Int)⟩] []) (fun K => by kernel_rfl) hF hH ?_
    refine ⟨⟨rfl, rfl, rfl, by omega, by omega⟩, ?_⟩
    refine ⟨⟨rfl, by omega⟩, ?_⟩
    clear hF hH; intro a w hF hH
    refine wl_end (by kernel_rfl) ?_
    refine then_n ?_
    refine wp_seqE (by kernel_rfl) ?_
    refine wp_regE (by kernel_rfl) ?_
    refine seg [.p, .p] [5, 6, 7, 12] (fun K => K [⟨5, none, .slice A n c⟩, ⟨6, none, .int .i64 ((n : Nat) : Int)⟩, ⟨7, none, .int .i64 ((k : Nat) : Int)⟩, ⟨12, none, .bool (((bs.getD k 0).toNat : Int) == 143)⟩] []) (fun K => by kernel_rfl) hF hH ?_
    clear hF hH; intro a w hF hH
    refine wl_end (by kernel_rfl) ?_
    refine then_n ?_
    refine wp_condE (b := ((bs.getD k 0).toNat : Int) == 143) (by kernel_rfl) (by kernel_rfl) hF (fun hb2 => ?_) (fun hb2 => ?_)
    · skip
      have hb2p := eq_of_beq hb2
      refine wp_seqE (by kernel_rfl) ?_
      refine wp_regE (by kernel_rfl) ?_
      refine seg [.p] [2] (fun K => K [⟨2, none, .bool true⟩] []) (fun K => by kernel_rfl) hF hH ?_
      clear hF hH; intro a w hF hH
      refine wl_end (by kernel_rfl) ?_
      refine then_n ?_
      refine wp_retE (by kernel_rfl) ?_
      refine block_ret ?_
      refine then_ret ?_
      refine then_ret ?_
      refine block_ret ?_
      refine then_ret ?_
      refine retE (vs := [.bool true]) (p := True) (v := .bool true) [] (by kernel_rfl) trivial (by kernel_rfl) hF hH ?_
      exact fin0 (by rw [no_found hl (by omega) hb2p]) hH
    · skip
      have hb2p := ne_of_beq_false hb2
      refine wp_skipE (by kernel_rfl) ?_
      refine block_n ?_
      refine then_n ?_
      refine wp_regE (by kernel_rfl) ?_
      refine seg [.pv (.int .i64 ((k + 1 : Nat) : Int)), .p] [5, 6, 7] (fun K => (Value.int .i64 (IntKind.wrap .i64 (((k : Nat) : Int) + ((1 : Nat) : Int))) = .int .i64 ((k + 1 : Nat) : Int)) ∧ K [⟨5, none, .slice A n c⟩, ⟨6, none, .int .i64 ((n : Nat) : Int)⟩, ⟨7, none, .int .i64 ((k + 1 : Nat) : Int)⟩] []) (fun K => by kernel_rfl) hF hH ?_
      refine ⟨natadd (by omega), ?_⟩
      clear hF hH; intro a w hF hH
      refine wl_end (by kernel_rfl) ?_
      refine then_n ?_
      exact ⟨_, by omega, k + 1, rfl, by omega, no_more he hb2p, frK hF [5, 6, 7] (by kernel_rfl), hpKN hH [0] [] (by kernel_rfl) (by kernel_rfl) (by kernel_rfl)⟩
  · skip
    have hb1p := of_decide_eq_false hb1
    refine wp_exitE (id := 0) (by kernel_rfl) ?_
    refine then_exit ?_
    refine then_exit ?_
    refine block_exit ?_
    refine then_n ?_
    refine wp_seqE (by kernel_rfl) ?_
    refine wp_regE (by kernel_rfl) ?_
    refine seg [.p] [2] (fun K => K [⟨2, none, .bool false⟩] []) (fun K => by kernel_rfl) hF hH ?_
    clear hF hH; intro a w hF hH
    refine wl_end (by kernel_rfl) ?_
    refine then_n ?_
    refine wp_retE (by kernel_rfl) ?_
    refine retE (vs := [.bool false]) (p := True) (v := .bool false) [] (by kernel_rfl) trivial (by kernel_rfl) hF hH ?_
    have hkn : k = n := by omega
    subst hkn
    exact fin0 (by rw [no_all hl he]) hH

theorem refCheck_c (b : Blk) (A : Option Addr) (n c : Nat) (bs : List UInt8) (hl : bs.length = n) : CallOk Try.prog 26 [.agg #[.int .i64 b.g, .int .i64 b.n, .int .u8 b.e, .int .u8 b.t, .int .i64 b.i.h, .int .i64 b.i.m, .int .i64 b.i.s, .int .i64 b.i.f, .bool b.i.d, .int .i64 b.o.h, .int .i64 b.o.m, .int .i64 b.o.s, .int .i64 b.o.f, .bool b.o.d, .int .i64 b.r, .int .u8 b.a, .bool b.c, .slice A n c]] [.view A n c 1 (byE bs)] (U := Unit) (fun _ => .int .i64 (checkV b bs)) (fun _ => []) (fun _ => True) := by
  intro w0 hn
  refine enterE (N := 71) Try.func26 (by kernel_rfl) (by kernel_rfl) (by kernel_rfl) ?_
  intro a hF
  have hH := Hp.start w0 hn
  refine wp_seqE (by kernel_rfl) ?_
  refine wp_regE (by kernel_rfl) ?_
  refine seg [.bx, .p] [1] (fun K => ∀ g1, K [⟨1, none, .pointer (some ⟨g1, 0, none⟩)⟩] [.box g1 27 [.int .i64 b.g, .int .i64 b.n, .int .u8 b.e, .int .u8 b.t, .int .i64 b.i.h, .int .i64 b.i.m, .int .i64 b.i.s, .int .i64 b.i.f, .bool b.i.d, .int .i64 b.o.h, .int .i64 b.o.m, .int .i64 b.o.s, .int .i64 b.o.f, .bool b.o.d, .int .i64 b.r, .int .u8 b.a, .bool b.c, .slice A n c]]) (fun K => by kernel_rfl) hF hH ?_
  intro g1
  clear hF hH; intro a w hF hH
  refine wl_end (by kernel_rfl) ?_
  refine then_n ?_
  refine wp_seqE (by kernel_rfl) ?_
  refine wp_blockE (id := 0) (by kernel_rfl) ?_
  refine wp_seqE (by kernel_rfl) ?_
  refine wp_regE (by kernel_rfl) ?_
  refine seg [.p, .ld (.r 0)] [1, 5] (fun K => ((g1 : Nat) = g1 ∧ (none : Option Nat) = none) ∧ K [⟨1, none, .pointer (some ⟨g1, 0, none⟩)⟩, ⟨5, none, .int .i64 b.g⟩] [.box g1 27 [.int .i64 b.g, .int .i64 b.n, .int .u8 b.e, .int .u8 b.t, .int .i64 b.i.h, .int .i64 b.i.m, .int .i64 b.i.s, .int .i64 b.i.f, .bool b.i.d, .int .i64 b.o.h, .int .i64 b.o.m, .int .i64 b.o.s, .int .i64 b.o.f, .bool b.o.d, .int .i64 b.r, .int .u8 b.a, .bool b.c, .slice A n c]]) (fun K => by kernel_rfl) hF hH ?_
  refine ⟨⟨rfl, rfl⟩, ?_⟩
  clear hF hH; intro a w hF hH
  refine callE (d := 6) (within_c b.g 0 255) [] (by kernel_rfl) (by kernel_rfl) hF hH ?_
  clear hF hH; rintro ⟨⟩ - a w hF hH
  refine seg [.p, .p] [1, 8] (fun K => K [⟨1, none, .pointer (some ⟨g1, 0, none⟩)⟩, ⟨8, none, .bool (!(withinV b.g 0 255))⟩] [.box g1 27 [.int .i64 b.g, .int .i64 b.n, .int .u8 b.e, .int .u8 b.t, .int .i64 b.i.h, .int .i64 b.i.m, .int .i64 b.i.s, .int .i64 b.i.f, .bool b.i.d, .int .i64 b.o.h, .int .i64 b.o.m, .int .i64 b.o.s, .int .i64 b.o.f, .bool b.o.d, .int .i64 b.r, .int .u8 b.a, .bool b.c, .slice A n c]]) (fun K => by kernel_rfl) hF hH ?_
  clear hF hH; intro a w hF hH
  rcases Bool.eq_false_or_eq_true (!(withinV b.g 0 255)) with hx1 | hx1
  · rw [hx1] at hF
    refine seg [.sk, .sk, .sk, .sk, .p, .p] [1, 3] (fun K => (true = !false) ∧ (true = !false) ∧ (true = !false) ∧ (true = !false) ∧ K [⟨1, none, .pointer (some ⟨g1, 0, none⟩)⟩, ⟨3, none, .bool true⟩] [.box g1 27 [.int .i64 b.g, .int .i64 b.n, .int .u8 b.e, .int .u8 b.t, .int .i64 b.i.h, .int .i64 b.i.m, .int .i64 b.i.s, .int .i64 b.i.f, .bool b.i.d, .int .i64 b.o.h, .int .i64 b.o.m, .int .i64 b.o.s, .int .i64 b.o.f, .bool b.o.d, .int .i64 b.r, .int .u8 b.a, .bool b.c, .slice A n c]]) (fun K => by kernel_rfl) hF hH ?_
    refine ⟨rfl, ?_⟩
    refine ⟨rfl, ?_⟩
    refine ⟨rfl, ?_⟩
    refine ⟨rfl, ?_⟩
    clear hF hH; intro a w hF hH
    refine wl_end (by kernel_rfl) ?_
    refine then_n ?_
    refine wp_condE (b := true) (by kernel_rfl) (by kernel_rfl) hF (fun _ => ?_) (fun h => by cases h)
    refine wp_seqE (by kernel_rfl) ?_
    refine wp_regE (by kernel_rfl) ?_
    refine seg [.p] [2] (fun K => K [⟨2, none, .int .i64 2⟩] [.box g1 27 [.int .i64 b.g, .int .i64 b.n, .int .u8 b.e, .int .u8 b.t, .int .i64 b.i.h, .int .i64 b.i.m, .int .i64 b.i.s, .int .i64 b.i.f, .bool b.i.d, .int .i64 b.o.h, .int .i64 b.o.m, .int .i64 b.o.s, .int .i64 b.o.f, .bool b.o.d, .int .i64 b.r, .int .u8 b.a, .bool b.c, .slice A n c]]) (fun K => by kernel_rfl) hF hH ?_
    clear hF hH; intro a w hF hH
    refine wl_end (by kernel_rfl) ?_
    refine then_n ?_
    refine wp_retE (by kernel_rfl) ?_
    refine block_ret ?_
    refine then_ret ?_
    refine retE (vs := [.int .i64 2]) (p := True) (v := .int .i64 2) [] (by kernel_rfl) trivial (by kernel_rfl) hF hH ?_
    subst hl
    exact fin0 (by rw [← refCheck_eq]; simp only [refCheckV, hx1]; rfl) hH
  · rw [hx1] at hF
    refine seg [.gt (.p), .gt (.ld (.r 0))] [1, 8, 10] (fun K => (false = false) ∧ (false = false) ∧ ((g1 : Nat) = g1 ∧ (none : Option Nat) = none) ∧ K [⟨1, none, .pointer (some ⟨g1, 0, none⟩)⟩, ⟨8, none, .bool false⟩, ⟨10, none, .int .i64 b.n⟩] [.box g1 27 [.int .i64 b.g, .int .i64 b.n, .int .u8 b.e, .int .u8 b.t, .int .i64 b.i.h, .int .i64 b.i.m, .int .i64 b.i.s, .int .i64 b.i.f, .bool b.i.d, .int .i64 b.o.h, .int .i64 b.o.m, .int .i64 b.o.s, .int .i64 b.o.f, .bool b.o.d, .int .i64 b.r, .int .u8 b.a, .bool b.c, .slice A n c]]) (fun K => by kernel_rfl) hF hH ?_
    refine ⟨rfl, ?_⟩
    refine ⟨rfl, ?_⟩
    refine ⟨⟨rfl, rfl⟩, ?_⟩
    clear hF hH; intro a w hF hH
    refine callE (d := 11) (within_c b.n 0 65535) [] (by kernel_rfl) (by kernel_rfl) hF hH ?_
    clear hF hH; rintro ⟨⟩ - a w hF hH
    refine seg [.gt (.p), .p, .p] [1, 3] (fun K => (false = false) ∧ K [⟨1, none, .pointer (some ⟨g1, 0, none⟩)⟩, ⟨3, none, .bool (!(withinV b.n 0 65535))⟩] [.box g1 27 [.int .i64 b.g, .int .i64 b.n, .int .u8 b.e, .int .u8 b.t, .int .i64 b.i.h, .int .i64 b.i.m, .int .i64 b.i.s, .int .i64 b.i.f, .bool b.i.d, .int .i64 b.o.h, .int .i64 b.o.m, .int .i64 b.o.s, .int .i64 b.o.f, .bool b.o.d, .int .i64 b.r, .int .u8 b.a, .bool b.c, .slice A n c]]) (fun K => by kernel_rfl) hF hH ?_
    refine ⟨rfl, ?_⟩
    clear hF hH; intro a w hF hH
    refine wl_end (by kernel_rfl) ?_
    refine then_n ?_
    refine wp_condE (b := !(withinV b.n 0 65535)) (by kernel_rfl) (by kernel_rfl) hF (fun hb1 => ?_) (fun hb1 => ?_)
    · skip
      refine wp_seqE (by kernel_rfl) ?_
      refine wp_regE (by kernel_rfl) ?_
      refine seg [.p] [2] (fun K => K [⟨2, none, .int .i64 2⟩] [.box g1 27 [.int .i64 b.g, .int .i64 b.n, .int .u8 b.e, .int .u8 b.t, .int .i64 b.i.h, .int .i64 b.i.m, .int .i64 b.i.s, .int .i64 b.i.f, .bool b.i.d, .int .i64 b.o.h, .int .i64 b.o.m, .int .i64 b.o.s, .int .i64 b.o.f, .bool b.o.d, .int .i64 b.r, .int .u8 b.a, .bool b.c, .slice A n c]]) (fun K => by kernel_rfl) hF hH ?_
      clear hF hH; intro a w hF hH
      refine wl_end (by kernel_rfl) ?_
      refine then_n ?_
      refine wp_retE (by kernel_rfl) ?_
      refine block_ret ?_
      refine then_ret ?_
      refine retE (vs := [.int .i64 2]) (p := True) (v := .int .i64 2) [] (by kernel_rfl) trivial (by kernel_rfl) hF hH ?_
      subst hl
      exact fin0 (by rw [← refCheck_eq]; simp only [refCheckV, hx1, hb1]; rfl) hH
    · skip
      refine wp_seqE (by kernel_rfl) ?_
      refine wp_regE (by kernel_rfl) ?_
      refine seg [.p, .ld (.r 0), .p, .p, .p, .ld (.r 0), .p, .pk, .p, .p, .ld (.r 0), .p, .pk, .p] [1, 14] (fun K => ((g1 : Nat) = g1 ∧ (none : Option Nat) = none) ∧ ((g1 : Nat) = g1 ∧ (none : Option Nat) = none) ∧ ((g1 : Nat) = g1 ∧ (none : Option Nat) = none) ∧ K [⟨1, none, .pointer (some ⟨g1, 0, none⟩)⟩, ⟨14, none, .bool (((decide (240 ≤ b.e)) && (decide (b.e ≤ 254))) || (decide (3 < b.t)))⟩] [.box g1 27 [.int .i64 b.g, .int .i64 b.n, .int .u8 b.e, .int .u8 b.t, .int .i64 b.i.h, .int .i64 b.i.m, .int .i64 b.i.s, .int .i64 b.i.f, .bool b.i.d, .int .i64 b.o.h, .int .i64 b.o.m, .int .i64 b.o.s, .int .i64 b.o.f, .bool b.o.d, .int .i64 b.r, .int .u8 b.a, .bool b.c, .slice A n c]]) (fun K => by kernel_rfl) hF hH ?_
      refine ⟨⟨rfl, rfl⟩, ?_⟩
      refine ⟨⟨rfl, rfl⟩, ?_⟩
      refine ⟨⟨rfl, rfl⟩, ?_⟩
      clear hF hH; intro a w hF hH
      refine wl_end (by kernel_rfl) ?_
      refine then_n ?_
      refine wp_condE (b := ((decide (240 ≤ b.e)) && (decide (b.e ≤ 254))) || (decide (3 < b.t))) (by kernel_rfl) (by kernel_rfl) hF (fun hb2 => ?_) (fun hb2 => ?_)
      · skip
        refine wp_seqE (by kernel_rfl) ?_
        refine wp_regE (by kernel_rfl) ?_
        refine seg [.p] [2] (fun K => K [⟨2, none, .int .i64 3⟩] [.box g1 27 [.int .i64 b.g, .int .i64 b.n, .int .u8 b.e, .int .u8 b.t, .int .i64 b.i.h, .int .i64 b.i.m, .int .i64 b.i.s, .int .i64 b.i.f, .bool b.i.d, .int .i64 b.o.h, .int .i64 b.o.m, .int .i64 b.o.s, .int .i64 b.o.f, .bool b.o.d, .int .i64 b.r, .int .u8 b.a, .bool b.c, .slice A n c]]) (fun K => by kernel_rfl) hF hH ?_
        clear hF hH; intro a w hF hH
        refine wl_end (by kernel_rfl) ?_
        refine then_n ?_
        refine wp_retE (by kernel_rfl) ?_
        refine block_ret ?_
        refine then_ret ?_
        refine retE (vs := [.int .i64 3]) (p := True) (v := .int .i64 3) [] (by kernel_rfl) trivial (by kernel_rfl) hF hH ?_
        subst hl
        exact fin0 (by rw [← refCheck_eq]; simp only [refCheckV, hx1, hb1, hb2]; rfl) hH
      · skip
        refine wp_seqE (by kernel_rfl) ?_
        refine wp_regE (by kernel_rfl) ?_
        refine seg [.p, .ld (.r 0)] [1, 30] (fun K => ((g1 : Nat) = g1 ∧ (none : Option Nat) = none) ∧ K [⟨1, none, .pointer (some ⟨g1, 0, none⟩)⟩, ⟨30, none, .agg #[.int .i64 b.i.h, .int .i64 b.i.m, .int .i64 b.i.s, .int .i64 b.i.f, .bool b.i.d]⟩] [.box g1 27 [.int .i64 b.g, .int .i64 b.n, .int .u8 b.e, .int .u8 b.t, .int .i64 b.i.h, .int .i64 b.i.m, .int .i64 b.i.s, .int .i64 b.i.f, .bool b.i.d, .int .i64 b.o.h, .int .i64 b.o.m, .int .i64 b.o.s, .int .i64 b.o.f, .bool b.o.d, .int .i64 b.r, .int .u8 b.a, .bool b.c, .slice A n c]]) (fun K => by kernel_rfl) hF hH ?_
        refine ⟨⟨rfl, rfl⟩, ?_⟩
        clear hF hH; intro a w hF hH
        refine callE (d := 31) (clock_c b.i) [] (by kernel_rfl) (by kernel_rfl) hF hH ?_
        clear hF hH; rintro ⟨⟩ - a w hF hH
        refine seg [.p, .p] [1, 33] (fun K => K [⟨1, none, .pointer (some ⟨g1, 0, none⟩)⟩, ⟨33, none, .bool (!(clockV b.i))⟩] [.box g1 27 [.int .i64 b.g, .int .i64 b.n, .int .u8 b.e, .int .u8 b.t, .int .i64 b.i.h, .int .i64 b.i.m, .int .i64 b.i.s, .int .i64 b.i.f, .bool b.i.d, .int .i64 b.o.h, .int .i64 b.o.m, .int .i64 b.o.s, .int .i64 b.o.f, .bool b.o.d, .int .i64 b.r, .int .u8 b.a, .bool b.c, .slice A n c]]) (fun K => by kernel_rfl) hF hH ?_
        clear hF hH; intro a w hF hH
        rcases Bool.eq_false_or_eq_true (!(clockV b.i)) with hx2 | hx2
        · rw [hx2] at hF
          refine seg [.sk, .sk, .sk, .sk, .p, .p] [1, 28] (fun K => (true = !false) ∧ (true = !false) ∧ (true = !false) ∧ (true = !false) ∧ K [⟨1, none, .pointer (some ⟨g1, 0, none⟩)⟩, ⟨28, none, .bool true⟩] [.box g1 27 [.int .i64 b.g, .int .i64 b.n, .int .u8 b.e, .int .u8 b.t, .int .i64 b.i.h, .int .i64 b.i.m, .int .i64 b.i.s, .int .i64 b.i.f, .bool b.i.d, .int .i64 b.o.h, .int .i64 b.o.m, .int .i64 b.o.s, .int .i64 b.o.f, .bool b.o.d, .int .i64 b.r, .int .u8 b.a, .bool b.c, .slice A n c]]) (fun K => by kernel_rfl) hF hH ?_
          refine ⟨rfl, ?_⟩
          refine ⟨rfl, ?_⟩
          refine ⟨rfl, ?_⟩
          refine ⟨rfl, ?_⟩
          clear hF hH; intro a w hF hH
          refine wl_end (by kernel_rfl) ?_
          refine then_n ?_
          refine wp_condE (b := true) (by kernel_rfl) (by kernel_rfl) hF (fun _ => ?_) (fun h => by cases h)
          refine wp_seqE (by kernel_rfl) ?_
          refine wp_regE (by kernel_rfl) ?_
          refine seg [.p] [2] (fun K => K [⟨2, none, .int .i64 2⟩] [.box g1 27 [.int .i64 b.g, .int .i64 b.n, .int .u8 b.e, .int .u8 b.t, .int .i64 b.i.h, .int .i64 b.i.m, .int .i64 b.i.s, .int .i64 b.i.f, .bool b.i.d, .int .i64 b.o.h, .int .i64 b.o.m, .int .i64 b.o.s, .int .i64 b.o.f, .bool b.o.d, .int .i64 b.r, .int .u8 b.a, .bool b.c, .slice A n c]]) (fun K => by kernel_rfl) hF hH ?_
          clear hF hH; intro a w hF hH
          refine wl_end (by kernel_rfl) ?_
          refine then_n ?_
          refine wp_retE (by kernel_rfl) ?_
          refine block_ret ?_
          refine then_ret ?_
          refine retE (vs := [.int .i64 2]) (p := True) (v := .int .i64 2) [] (by kernel_rfl) trivial (by kernel_rfl) hF hH ?_
          subst hl
          exact fin0 (by rw [← refCheck_eq]; simp only [refCheckV, hx1, hb1, hb2, hx2]; rfl) hH
        · rw [hx2] at hF
          refine seg [.gt (.p), .gt (.ld (.r 0))] [1, 33, 35] (fun K => (false = false) ∧ (false = false) ∧ ((g1 : Nat) = g1 ∧ (none : Option Nat) = none) ∧ K [⟨1, none, .pointer (some ⟨g1, 0, none⟩)⟩, ⟨33, none, .bool false⟩, ⟨35, none, .agg #[.int .i64 b.o.h, .int .i64 b.o.m, .int .i64 b.o.s, .int .i64 b.o.f, .bool b.o.d]⟩] [.box g1 27 [.int .i64 b.g, .int .i64 b.n, .int .u8 b.e, .int .u8 b.t, .int .i64 b.i.h, .int .i64 b.i.m, .int .i64 b.i.s, .int .i64 b.i.f, .bool b.i.d, .int .i64 b.o.h, .int .i64 b.o.m, .int .i64 b.o.s, .int .i64 b.o.f, .bool b.o.d, .int .i64 b.r, .int .u8 b.a, .bool b.c, .slice A n c]]) (fun K => by kernel_rfl) hF hH ?_
          refine ⟨rfl, ?_⟩
          refine ⟨rfl, ?_⟩
          refine ⟨⟨rfl, rfl⟩, ?_⟩
          clear hF hH; intro a w hF hH
          refine callE (d := 36) (clock_c b.o) [] (by kernel_rfl) (by kernel_rfl) hF hH ?_
          clear hF hH; rintro ⟨⟩ - a w hF hH
          refine seg [.gt (.p), .p, .p] [1, 28] (fun K => (false = false) ∧ K [⟨1, none, .pointer (some ⟨g1, 0, none⟩)⟩, ⟨28, none, .bool (!(clockV b.o))⟩] [.box g1 27 [.int .i64 b.g, .int .i64 b.n, .int .u8 b.e, .int .u8 b.t, .int .i64 b.i.h, .int .i64 b.i.m, .int .i64 b.i.s, .int .i64 b.i.f, .bool b.i.d, .int .i64 b.o.h, .int .i64 b.o.m, .int .i64 b.o.s, .int .i64 b.o.f, .bool b.o.d, .int .i64 b.r, .int .u8 b.a, .bool b.c, .slice A n c]]) (fun K => by kernel_rfl) hF hH ?_
          refine ⟨rfl, ?_⟩
          clear hF hH; intro a w hF hH
          refine wl_end (by kernel_rfl) ?_
          refine then_n ?_
          refine wp_condE (b := !(clockV b.o)) (by kernel_rfl) (by kernel_rfl) hF (fun hb3 => ?_) (fun hb3 => ?_)
          · skip
            refine wp_seqE (by kernel_rfl) ?_
            refine wp_regE (by kernel_rfl) ?_
            refine seg [.p] [2] (fun K => K [⟨2, none, .int .i64 2⟩] [.box g1 27 [.int .i64 b.g, .int .i64 b.n, .int .u8 b.e, .int .u8 b.t, .int .i64 b.i.h, .int .i64 b.i.m, .int .i64 b.i.s, .int .i64 b.i.f, .bool b.i.d, .int .i64 b.o.h, .int .i64 b.o.m, .int .i64 b.o.s, .int .i64 b.o.f, .bool b.o.d, .int .i64 b.r, .int .u8 b.a, .bool b.c, .slice A n c]]) (fun K => by kernel_rfl) hF hH ?_
            clear hF hH; intro a w hF hH
            refine wl_end (by kernel_rfl) ?_
            refine then_n ?_
            refine wp_retE (by kernel_rfl) ?_
            refine block_ret ?_
            refine then_ret ?_
            refine retE (vs := [.int .i64 2]) (p := True) (v := .int .i64 2) [] (by kernel_rfl) trivial (by kernel_rfl) hF hH ?_
            subst hl
            exact fin0 (by rw [← refCheck_eq]; simp only [refCheckV, hx1, hb1, hb2, hx2, hb3]; rfl) hH
          · skip
            refine wp_seqE (by kernel_rfl) ?_
            refine wp_regE (by kernel_rfl) ?_
            refine seg [.p, .p, .ld (.r 0), .p, .p, .p, .ld (.r 0), .pk, .p] [1, 39] (fun K => ((g1 : Nat) = g1 ∧ (none : Option Nat) = none) ∧ ((g1 : Nat) = g1 ∧ (none : Option Nat) = none) ∧ K [⟨1, none, .pointer (some ⟨g1, 0, none⟩)⟩, ⟨39, none, .bool (b.i.d || b.o.d)⟩] [.box g1 27 [.int .i64 b.g, .int .i64 b.n, .int .u8 b.e, .int .u8 b.t, .int .i64 b.i.h, .int .i64 b.i.m, .int .i64 b.i.s, .int .i64 b.i.f, .bool b.i.d, .int .i64 b.o.h, .int .i64 b.o.m, .int .i64 b.o.s, .int .i64 b.o.f, .bool b.o.d, .int .i64 b.r, .int .u8 b.a, .bool b.c, .slice A n c]]) (fun K => by kernel_rfl) hF hH ?_
            refine ⟨⟨rfl, rfl⟩, ?_⟩
            refine ⟨⟨rfl, rfl⟩, ?_⟩
            clear hF hH; intro a w hF hH
            refine wl_end (by kernel_rfl) ?_
            refine then_n ?_
            refine wp_condE (b := b.i.d || b.o.d) (by kernel_rfl) (by kernel_rfl) hF (fun hb4 => ?_) (fun hb4 => ?_)
            · skip
              refine wp_seqE (by kernel_rfl) ?_
              refine wp_regE (by kernel_rfl) ?_
              refine seg [.p] [2] (fun K => K [⟨2, none, .int .i64 13⟩] [.box g1 27 [.int .i64 b.g, .int .i64 b.n, .int .u8 b.e, .int .u8 b.t, .int .i64 b.i.h, .int .i64 b.i.m, .int .i64 b.i.s, .int .i64 b.i.f, .bool b.i.d, .int .i64 b.o.h, .int .i64 b.o.m, .int .i64 b.o.s, .int .i64 b.o.f, .bool b.o.d, .int .i64 b.r, .int .u8 b.a, .bool b.c, .slice A n c]]) (fun K => by kernel_rfl) hF hH ?_
              clear hF hH; intro a w hF hH
              refine wl_end (by kernel_rfl) ?_
              refine then_n ?_
              refine wp_retE (by kernel_rfl) ?_
              refine block_ret ?_
              refine then_ret ?_
              refine retE (vs := [.int .i64 13]) (p := True) (v := .int .i64 13) [] (by kernel_rfl) trivial (by kernel_rfl) hF hH ?_
              subst hl
              exact fin0 (by rw [← refCheck_eq]; simp only [refCheckV, hx1, hb1, hb2, hx2, hb3, hb4]; rfl) hH
            · skip
              refine wp_seqE (by kernel_rfl) ?_
              refine wp_regE (by kernel_rfl) ?_
              refine seg [.p, .ld (.r 0)] [1, 50] (fun K => ((g1 : Nat) = g1 ∧ (none : Option Nat) = none) ∧ K [⟨1, none, .pointer (some ⟨g1, 0, none⟩)⟩, ⟨50, none, .int .i64 b.r⟩] [.box g1 27 [.int .i64 b.g, .int .i64 b.n, .int .u8 b.e, .int .u8 b.t, .int .i64 b.i.h, .int .i64 b.i.m, .int .i64 b.i.s, .int .i64 b.i.f, .bool b.i.d, .int .i64 b.o.h, .int .i64 b.o.m, .int .i64 b.o.s, .int .i64 b.o.f, .bool b.o.d, .int .i64 b.r, .int .u8 b.a, .bool b.c, .slice A n c]]) (fun K => by kernel_rfl) hF hH ?_
              refine ⟨⟨rfl, rfl⟩, ?_⟩
              clear hF hH; intro a w hF hH
              refine callE (d := 51) (within_c b.r 0 14) [] (by kernel_rfl) (by kernel_rfl) hF hH ?_
              clear hF hH; rintro ⟨⟩ - a w hF hH
              refine seg [.p, .p] [1, 48] (fun K => K [⟨1, none, .pointer (some ⟨g1, 0, none⟩)⟩, ⟨48, none, .bool (!(withinV b.r 0 14))⟩] [.box g1 27 [.int .i64 b.g, .int .i64 b.n, .int .u8 b.e, .int .u8 b.t, .int .i64 b.i.h, .int .i64 b.i.m, .int .i64 b.i.s, .int .i64 b.i.f, .bool b.i.d, .int .i64 b.o.h, .int .i64 b.o.m, .int .i64 b.o.s, .int .i64 b.o.f, .bool b.o.d, .int .i64 b.r, .int .u8 b.a, .bool b.c, .slice A n c]]) (fun K => by kernel_rfl) hF hH ?_
              clear hF hH; intro a w hF hH
              refine wl_end (by kernel_rfl) ?_
              refine then_n ?_
              refine wp_condE (b := !(withinV b.r 0 14)) (by kernel_rfl) (by kernel_rfl) hF (fun hb5 => ?_) (fun hb5 => ?_)
              · skip
                refine wp_seqE (by kernel_rfl) ?_
                refine wp_regE (by kernel_rfl) ?_
                refine seg [.p] [2] (fun K => K [⟨2, none, .int .i64 2⟩] [.box g1 27 [.int .i64 b.g, .int .i64 b.n, .int .u8 b.e, .int .u8 b.t, .int .i64 b.i.h, .int .i64 b.i.m, .int .i64 b.i.s, .int .i64 b.i.f, .bool b.i.d, .int .i64 b.o.h, .int .i64 b.o.m, .int .i64 b.o.s, .int .i64 b.o.f, .bool b.o.d, .int .i64 b.r, .int .u8 b.a, .bool b.c, .slice A n c]]) (fun K => by kernel_rfl) hF hH ?_
                clear hF hH; intro a w hF hH
                refine wl_end (by kernel_rfl) ?_
                refine then_n ?_
                refine wp_retE (by kernel_rfl) ?_
                refine block_ret ?_
                refine then_ret ?_
                refine retE (vs := [.int .i64 2]) (p := True) (v := .int .i64 2) [] (by kernel_rfl) trivial (by kernel_rfl) hF hH ?_
                subst hl
                exact fin0 (by rw [← refCheck_eq]; simp only [refCheckV, hx1, hb1, hb2, hx2, hb3, hb4, hb5]; rfl) hH
              · skip
                refine wp_seqE (by kernel_rfl) ?_
                refine wp_regE (by kernel_rfl) ?_
                refine seg [.p, .ld (.r 0), .p, .p, .p, .ld (.r 0), .p, .pk, .p] [1, 53] (fun K => ((g1 : Nat) = g1 ∧ (none : Option Nat) = none) ∧ ((g1 : Nat) = g1 ∧ (none : Option Nat) = none) ∧ K [⟨1, none, .pointer (some ⟨g1, 0, none⟩)⟩, ⟨53, none, .bool ((decide (b.a < 1)) || (decide (3 < b.a)))⟩] [.box g1 27 [.int .i64 b.g, .int .i64 b.n, .int .u8 b.e, .int .u8 b.t, .int .i64 b.i.h, .int .i64 b.i.m, .int .i64 b.i.s, .int .i64 b.i.f, .bool b.i.d, .int .i64 b.o.h, .int .i64 b.o.m, .int .i64 b.o.s, .int .i64 b.o.f, .bool b.o.d, .int .i64 b.r, .int .u8 b.a, .bool b.c, .slice A n c]]) (fun K => by kernel_rfl) hF hH ?_
                refine ⟨⟨rfl, rfl⟩, ?_⟩
                refine ⟨⟨rfl, rfl⟩, ?_⟩
                clear hF hH; intro a w hF hH
                refine wl_end (by kernel_rfl) ?_
                refine then_n ?_
                refine wp_condE (b := (decide (b.a < 1)) || (decide (3 < b.a))) (by kernel_rfl) (by kernel_rfl) hF (fun hb6 => ?_) (fun hb6 => ?_)
                · skip
                  refine wp_seqE (by kernel_rfl) ?_
                  refine wp_regE (by kernel_rfl) ?_
                  refine seg [.p] [2] (fun K => K [⟨2, none, .int .i64 3⟩] [.box g1 27 [.int .i64 b.g, .int .i64 b.n, .int .u8 b.e, .int .u8 b.t, .int .i64 b.i.h, .int .i64 b.i.m, .int .i64 b.i.s, .int .i64 b.i.f, .bool b.i.d, .int .i64 b.o.h, .int .i64 b.o.m, .int .i64 b.o.s, .int .i64 b.o.f, .bool b.o.d, .int .i64 b.r, .int .u8 b.a, .bool b.c, .slice A n c]]) (fun K => by kernel_rfl) hF hH ?_
                  clear hF hH; intro a w hF hH
                  refine wl_end (by kernel_rfl) ?_
                  refine then_n ?_
                  refine wp_retE (by kernel_rfl) ?_
                  refine block_ret ?_
                  refine then_ret ?_
                  refine retE (vs := [.int .i64 3]) (p := True) (v := .int .i64 3) [] (by kernel_rfl) trivial (by kernel_rfl) hF hH ?_
                  subst hl
                  exact fin0 (by rw [← refCheck_eq]; simp only [refCheckV, hx1, hb1, hb2, hx2, hb3, hb4, hb5, hb6]; rfl) hH
                · skip
                  refine wp_seqE (by kernel_rfl) ?_
                  refine wp_regE (by kernel_rfl) ?_
                  refine seg [.p, .ld (.r 0), .p, .p, .p] [1, 62] (fun K => ((g1 : Nat) = g1 ∧ (none : Option Nat) = none) ∧ K [⟨1, none, .pointer (some ⟨g1, 0, none⟩)⟩, ⟨62, none, .bool (decide (112 < ((n : Nat) : Int)))⟩] [.box g1 27 [.int .i64 b.g, .int .i64 b.n, .int .u8 b.e, .int .u8 b.t, .int .i64 b.i.h, .int .i64 b.i.m, .int .i64 b.i.s, .int .i64 b.i.f, .bool b.i.d, .int .i64 b.o.h, .int .i64 b.o.m, .int .i64 b.o.s, .int .i64 b.o.f, .bool b.o.d, .int .i64 b.r, .int .u8 b.a, .bool b.c, .slice A n c]]) (fun K => by kernel_rfl) hF hH ?_
                  refine ⟨⟨rfl, rfl⟩, ?_⟩
                  clear hF hH; intro a w hF hH
                  refine wl_end (by kernel_rfl) ?_
                  refine then_n ?_
                  refine wp_condE (b := decide (112 < ((n : Nat) : Int))) (by kernel_rfl) (by kernel_rfl) hF (fun hb7 => ?_) (fun hb7 => ?_)
                  · skip
                    have hb7p := of_decide_eq_true hb7
                    refine wp_seqE (by kernel_rfl) ?_
                    refine wp_regE (by kernel_rfl) ?_
                    refine seg [.p] [2] (fun K => K [⟨2, none, .int .i64 9⟩] [.box g1 27 [.int .i64 b.g, .int .i64 b.n, .int .u8 b.e, .int .u8 b.t, .int .i64 b.i.h, .int .i64 b.i.m, .int .i64 b.i.s, .int .i64 b.i.f, .bool b.i.d, .int .i64 b.o.h, .int .i64 b.o.m, .int .i64 b.o.s, .int .i64 b.o.f, .bool b.o.d, .int .i64 b.r, .int .u8 b.a, .bool b.c, .slice A n c]]) (fun K => by kernel_rfl) hF hH ?_
                    clear hF hH; intro a w hF hH
                    refine wl_end (by kernel_rfl) ?_
                    refine then_n ?_
                    refine wp_retE (by kernel_rfl) ?_
                    refine block_ret ?_
                    refine then_ret ?_
                    refine retE (vs := [.int .i64 9]) (p := True) (v := .int .i64 9) [] (by kernel_rfl) trivial (by kernel_rfl) hF hH ?_
                    subst hl
                    exact fin0 (by rw [← refCheck_eq]; simp only [refCheckV, hx1, hb1, hb2, hx2, hb3, hb4, hb5, hb6, hb7]; rfl) hH
                  · skip
                    have hb7p := of_decide_eq_false hb7
                    refine wp_seqE (by kernel_rfl) ?_
                    refine wp_regE (by kernel_rfl) ?_
                    refine seg [.p, .ld (.r 0)] [69] (fun K => ((g1 : Nat) = g1 ∧ (none : Option Nat) = none) ∧ K [⟨69, none, .slice A n c⟩] [.box g1 27 [.int .i64 b.g, .int .i64 b.n, .int .u8 b.e, .int .u8 b.t, .int .i64 b.i.h, .int .i64 b.i.m, .int .i64 b.i.s, .int .i64 b.i.f, .bool b.i.d, .int .i64 b.o.h, .int .i64 b.o.m, .int .i64 b.o.s, .int .i64 b.o.f, .bool b.o.d, .int .i64 b.r, .int .u8 b.a, .bool b.c, .slice A n c]]) (fun K => by kernel_rfl) hF hH ?_
                    refine ⟨⟨rfl, rfl⟩, ?_⟩
                    clear hF hH; intro a w hF hH
                    refine callE (d := 70) (filled_c A n c bs (by first | rfl | assumption | (simp; done) | (simp; omega))) [.n 0] (by kernel_rfl) (by kernel_rfl) hF hH ?_
                    clear hF hH; rintro ⟨⟩ - a w hF hH
                    refine seg [.p] [67] (fun K => K [⟨67, none, .bool (bs.contains 143)⟩] [.box g1 27 [.int .i64 b.g, .int .i64 b.n, .int .u8 b.e, .int .u8 b.t, .int .i64 b.i.h, .int .i64 b.i.m, .int .i64 b.i.s, .int .i64 b.i.f, .bool b.i.d, .int .i64 b.o.h, .int .i64 b.o.m, .int .i64 b.o.s, .int .i64 b.o.f, .bool b.o.d, .int .i64 b.r, .int .u8 b.a, .bool b.c, .slice A n c]]) (fun K => by kernel_rfl) hF hH ?_
                    clear hF hH; intro a w hF hH
                    refine wl_end (by kernel_rfl) ?_
                    refine then_n ?_
                    refine wp_condE (b := bs.contains 143) (by kernel_rfl) (by kernel_rfl) hF (fun hb8 => ?_) (fun hb8 => ?_)
                    · skip
                      refine wp_seqE (by kernel_rfl) ?_
                      refine wp_regE (by kernel_rfl) ?_
                      refine seg [.p] [2] (fun K => K [⟨2, none, .int .i64 4⟩] [.box g1 27 [.int .i64 b.g, .int .i64 b.n, .int .u8 b.e, .int .u8 b.t, .int .i64 b.i.h, .int .i64 b.i.m, .int .i64 b.i.s, .int .i64 b.i.f, .bool b.i.d, .int .i64 b.o.h, .int .i64 b.o.m, .int .i64 b.o.s, .int .i64 b.o.f, .bool b.o.d, .int .i64 b.r, .int .u8 b.a, .bool b.c, .slice A n c]]) (fun K => by kernel_rfl) hF hH ?_
                      clear hF hH; intro a w hF hH
                      refine wl_end (by kernel_rfl) ?_
                      refine then_n ?_
                      refine wp_retE (by kernel_rfl) ?_
                      refine block_ret ?_
                      refine then_ret ?_
                      refine retE (vs := [.int .i64 4]) (p := True) (v := .int .i64 4) [] (by kernel_rfl) trivial (by kernel_rfl) hF hH ?_
                      subst hl
                      exact fin0 (by rw [← refCheck_eq]; simp only [refCheckV, hx1, hb1, hb2, hx2, hb3, hb4, hb5, hb6, hb7, hb8]; rfl) hH
                    · skip
                      refine wp_skipE (by kernel_rfl) ?_
                      refine block_n ?_
                      refine then_n ?_
                      refine wp_seqE (by kernel_rfl) ?_
                      refine wp_regE (by kernel_rfl) ?_
                      refine seg [.p] [2] (fun K => K [⟨2, none, .int .i64 0⟩] [.box g1 27 [.int .i64 b.g, .int .i64 b.n, .int .u8 b.e, .int .u8 b.t, .int .i64 b.i.h, .int .i64 b.i.m, .int .i64 b.i.s, .int .i64 b.i.f, .bool b.i.d, .int .i64 b.o.h, .int .i64 b.o.m, .int .i64 b.o.s, .int .i64 b.o.f, .bool b.o.d, .int .i64 b.r, .int .u8 b.a, .bool b.c, .slice A n c]]) (fun K => by kernel_rfl) hF hH ?_
                      clear hF hH; intro a w hF hH
                      refine wl_end (by kernel_rfl) ?_
                      refine then_n ?_
                      refine wp_retE (by kernel_rfl) ?_
                      refine retE (vs := [.int .i64 0]) (p := True) (v := .int .i64 0) [] (by kernel_rfl) trivial (by kernel_rfl) hF hH ?_
                      subst hl
                      exact fin0 (by rw [← refCheck_eq]; simp only [refCheckV, hx1, hb1, hb2, hx2, hb3, hb4, hb5, hb6, hb7, hb8]; rfl) hH

theorem fill_c (A : Option Addr) (n c : Nat) (bs : List UInt8) (hl : bs.length = n) (p : UInt8) (m : Nat) (hm : n ≤ 65536 ∧ m ≤ 65536) : CallOk Try.prog 31 [.slice A n c, .int .i64 ((m : Nat) : Int), .int .u8 (p.toNat : Int)] [.view A n c 1 (byE bs)] (U := Option Addr × Nat) (fun u => .slice u.1 (fillB bs m p).length u.2) (fun u => [.row u.1 u.2 5 1 (fillB bs m p).length (byC (fillB bs m p))]) (fun _ => True) := by
  intro w0 hn
  refine enterE (N := 20) Try.func31 (by kernel_rfl) (by kernel_rfl) (by kernel_rfl) ?_
  intro a hF
  have hH := Hp.start w0 hn
  refine wp_seqE (by kernel_rfl) ?_
  refine wp_regE (by kernel_rfl) ?_
  refine seg [.p] [0, 1, 2] (fun K => K [⟨0, none, .slice A n c⟩, ⟨1, none, .int .i64 ((m : Nat) : Int)⟩, ⟨2, none, .int .u8 (p.toNat : Int)⟩] []) (fun K => by kernel_rfl) hF hH ?_
  clear hF hH; intro a w hF hH
  refine wl_end (by kernel_rfl) ?_
  refine then_n ?_
  refine wp_seqE (by kernel_rfl) ?_
  refine wp_regE (by kernel_rfl) ?_
  refine seg [.bs, .p] [1, 2, 8, 9] (fun K => ∀ g1, K [⟨1, none, .int .i64 ((m : Nat) : Int)⟩, ⟨2, none, .int .u8 (p.toNat : Int)⟩, ⟨8, none, .slice (some ⟨g1, 0, none⟩) 0 0⟩, ⟨9, none, .slice A n c⟩] [.box g1 5 []]) (fun K => by kernel_rfl) hF hH ?_
  intro g1
  clear hF hH; intro a w hF hH
  have hH := hH.boxRow (k := 0) rfl 1 0 0 (by omega) (by unfold maxLen; omega) rfl
  refine seg [.ap 0 (.n 0) (byC bs)] [1, 2, 10] (fun K => (((some ⟨g1, 0, none⟩) : Option Addr) = (some ⟨g1, 0, none⟩) ∧ (0 : Nat) = 0 ∧ (0 : Nat) = 0 ∧ srcP (.view A n c 1 (byE bs)) A n 1 (byC bs) ∧ (∀ u ∈ (byC bs : List Value), u.oneCell' = true) ∧ 0 + n ≤ maxLen ∧ (0 + n) * 1 ≤ 140737488355328) ∧ ∀ A1 c1, K [⟨1, none, .int .i64 ((m : Nat) : Int)⟩, ⟨2, none, .int .u8 (p.toNat : Int)⟩, ⟨10, none, .slice A1 (0 + n) c1⟩] [.row A1 c1 5 1 (0 + n) (([]) ++ (byC bs))]) (fun K => by kernel_rfl) hF hH ?_
  refine ⟨⟨rfl, rfl, rfl, ⟨rfl, rfl, rfl, by_flatN bs (by first | rfl | assumption | (simp; done) | (simp; omega))⟩, (by_one bs), by (unfold maxLen; omega), by omega⟩, ?_⟩
  intro A1 c1
  clear hF hH; intro a w hF hH
  rw [Nat.zero_add] at hF hH
  refine seg [.p] [1, 2, 7] (fun K => K [⟨1, none, .int .i64 ((m : Nat) : Int)⟩, ⟨2, none, .int .u8 (p.toNat : Int)⟩, ⟨7, none, .slice A1 n c1⟩] [.row A1 c1 5 1 n (([]) ++ (byC bs))]) (fun K => by kernel_rfl) hF hH ?_
  clear hF hH; intro a w hF hH
  refine wl_end (by kernel_rfl) ?_
  refine then_n ?_
  refine wp_seqE (by kernel_rfl) ?_
  refine wp_blockE (id := 0) (by kernel_rfl) ?_
  refine wp_loopE (by kernel_rfl) (fun msr a w => ∃ (k : Nat), ∃ (Ao : Option Addr), ∃ (co : Nat), ∃ (xs : List Value), msr = m - k ∧ (n ≤ k ∧ k ≤ max n m) ∧ (xs = byC (bs ++ List.replicate (k - bs.length) p)) ∧ Fr 20 [⟨1, none, .int .i64 ((m : Nat) : Int)⟩, ⟨2, none, .int .u8 (p.toNat : Int)⟩, ⟨7, none, .slice Ao k co⟩] a ∧ Hp w0 [.view A n c 1 (byE bs)] [.row Ao co 5 1 k xs] w) _ ⟨n, A1, c1, (([]) ++ (byC bs)), rfl, ⟨Nat.le_refl _, by omega⟩, by rw [hl]; simp, frK hF [1, 2, 7] (by kernel_rfl), hpKN hH [0] [0] (by kernel_rfl) (by kernel_rfl) (by kernel_rfl)⟩ ?_
  clear hF hH; rintro msr a w ⟨k, Ao, co, xs, rfl, hk, hx, hF, hH⟩
  refine wp_seqE (by kernel_rfl) ?_
  refine wp_seqE (by kernel_rfl) ?_
  refine wp_regE (by kernel_rfl) ?_
  refine seg [.p, .p, .p, .p] [1, 2, 7, 14] (fun K => K [⟨1, none, .int .i64 ((m : Nat) : Int)⟩, ⟨2, none, .int .u8 (p.toNat : Int)⟩, ⟨7, none, .slice Ao k co⟩, ⟨14, none, .bool (decide (((k : Nat) : Int) < ((m : Nat) : Int)))⟩] [.row Ao co 5 1 k xs]) (fun K => by kernel_rfl) hF hH ?_
  clear hF hH; intro a w hF hH
  refine wl_end (by kernel_rfl) ?_
  refine then_n ?_
  refine wp_condE (b := decide (((k : Nat) : Int) < ((m : Nat) : Int))) (by kernel_rfl) (by kernel_rfl) hF (fun hb1 => ?_) (fun hb1 => ?_)
  · skip
    have hb1p := of_decide_eq_true hb1
    refine wp_skipE (by kernel_rfl) ?_
    refine then_n ?_
    refine wp_blockE (id := 1) (by kernel_rfl) ?_
    refine wp_regE (by kernel_rfl) ?_
    refine seg [.p, .p, .bs, .ap 0 (.r 1) ([.int .u8 (p.toNat : Int)]), .p] [1, 2, 7] (fun K => ∀ g2, (((Ao) : Option Addr) = Ao ∧ (co : Nat) = co ∧ (k : Nat) = k ∧ srcP (.box g2 5 [.int .u8 (p.toNat : Int)]) (some ⟨g2, 0, none⟩) 1 1 ([.int .u8 (p.toNat : Int)]) ∧ (∀ u ∈ ([.int .u8 (p.toNat : Int)] : List Value), u.oneCell' = true) ∧ k + 1 ≤ maxLen ∧ (k + 1) * 1 ≤ 140737488355328) ∧ ∀ A2 c2, K [⟨1, none, .int .i64 ((m : Nat) : Int)⟩, ⟨2, none, .int .u8 (p.toNat : Int)⟩, ⟨7, none, .slice A2 (k + 1) c2⟩] [.row A2 c2 5 1 (k + 1) (xs ++ ([.int .u8 (p.toNat : Int)])), .box g2 5 [.int .u8 (p.toNat : Int)]]) (fun K => by kernel_rfl) hF hH ?_
    intro g2
    refine ⟨⟨rfl, rfl, rfl, ⟨rfl, rfl, rfl⟩, (by intro u hu; simp only [List.mem_cons, List.not_mem_nil, or_false] at hu; subst hu; rfl), by (unfold maxLen; omega), by omega⟩, ?_⟩
    intro A2 c2
    clear hF hH; intro a w hF hH
    refine wl_end (by kernel_rfl) ?_
    refine block_n ?_
    refine then_n ?_
    exact ⟨_, by omega, k + 1, A2, c2, xs ++ ([.int .u8 (p.toNat : Int)]), rfl, by omega, by rw [hx]; exact fill_step (by omega), frK hF [1, 2, 7] (by kernel_rfl), hpKN hH [0] [0] (by kernel_rfl) (by kernel_rfl) (by kernel_rfl)⟩
  · skip
    have hb1p := of_decide_eq_false hb1
    refine wp_exitE (id := 0) (by kernel_rfl) ?_
    refine then_exit ?_
    refine then_exit ?_
    refine block_exit ?_
    refine then_n ?_
    refine wp_seqE (by kernel_rfl) ?_
    refine wp_regE (by kernel_rfl) ?_
    refine seg [.p, .p] [6] (fun K => K [⟨6, none, .slice Ao k co⟩] [.row Ao co 5 1 k xs]) (fun K => by kernel_rfl) hF hH ?_
    clear hF hH; intro a w hF hH
    refine wl_end (by kernel_rfl) ?_
    refine then_n ?_
    refine wp_retE (by kernel_rfl) ?_
    refine retE (vs := [.slice Ao k co]) (p := True) (v := .slice Ao k co) [] (by kernel_rfl) trivial (by kernel_rfl) hF hH ?_
    have hkk : k = max n m := by omega
    have e1 : (fillB bs m p).length = k := by unfold fillB; rw [List.length_append, List.length_replicate, hl]; omega
    have e2 : byC (fillB bs m p) = xs := by rw [hx]; unfold fillB; rw [show m - bs.length = k - bs.length from by omega]
    refine ⟨(Ao, co), by rw [e1], hH.below, trivial, ?_⟩
    rw [e1, e2]
    exact newOf hH (k := 0) rfl

end Go.Proofs.Ytcccboodapgejaa
