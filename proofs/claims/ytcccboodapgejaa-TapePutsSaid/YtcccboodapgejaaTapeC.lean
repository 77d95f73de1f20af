/-
  Mul64, Mul and Repeat for one byte, walked once each: for a count of at most 8192.
-/
import Derived.Test.YtcccboodapgejaaTapeB
import Derived.Test.YtcccboodapgejaaSymMore
namespace Go.Proofs.Ytcccboodapgejaa
open Go.Sym

theorem mul64_c (n : Nat) (hn1 : n ≤ 65536) : CallOk Try.prog 45 [.int .u64 1, .int .u64 ((n : Nat) : Int)] [] (U := Unit) (fun _ => .tuple #[.int .u64 0, .int .u64 ((n : Nat) : Int)]) (fun _ => []) (fun _ => True) := by
  intro w0 hn
  refine enterE (N := 51) Try.func45 (by kernel_rfl) (by kernel_rfl) (by kernel_rfl) ?_
  intro a hF
  have hH := Hp.start w0 hn
  refine wp_seqE (by kernel_rfl) ?_
  refine wp_regE (by kernel_rfl) ?_
  refine seg [.p, .p] [0, 1] (fun K => K [⟨0, none, .int .u64 1⟩, ⟨1, none, .int .u64 ((n : Nat) : Int)⟩] []) (fun K => by kernel_rfl) hF hH ?_
  clear hF hH; intro a w hF hH
  refine wl_end (by kernel_rfl) ?_
  refine then_n ?_
  refine wp_seqE (by kernel_rfl) ?_
  refine wp_regE (by kernel_rfl) ?_
  refine seg [.p, .p, .p] [0, 1, 6] (fun K => K [⟨0, none, .int .u64 1⟩, ⟨1, none, .int .u64 ((n : Nat) : Int)⟩, ⟨6, none, .int .u64 1⟩] []) (fun K => by kernel_rfl) hF hH ?_
  clear hF hH; intro a w hF hH
  refine wl_end (by kernel_rfl) ?_
  refine then_n ?_
  refine wp_seqE (by kernel_rfl) ?_
  refine wp_regE (by kernel_rfl) ?_
  refine seg [.p, .p, .p] [0, 1, 6, 7] (fun K => K [⟨0, none, .int .u64 1⟩, ⟨1, none, .int .u64 ((n : Nat) : Int)⟩, ⟨6, none, .int .u64 1⟩, ⟨7, none, .int .u64 0⟩] []) (fun K => by kernel_rfl) hF hH ?_
  clear hF hH; intro a w hF hH
  refine wl_end (by kernel_rfl) ?_
  refine then_n ?_
  refine wp_seqE (by kernel_rfl) ?_
  refine wp_regE (by kernel_rfl) ?_
  refine seg [.p, .pv (.int .u64 ((n : Nat) : Int)), .p] [0, 1, 6, 7, 8] (fun K => (Value.int .u64 (bits .and .u64 ((n : Nat) : Int) 4294967295) = .int .u64 ((n : Nat) : Int)) ∧ K [⟨0, none, .int .u64 1⟩, ⟨1, none, .int .u64 ((n : Nat) : Int)⟩, ⟨6, none, .int .u64 1⟩, ⟨7, none, .int .u64 0⟩, ⟨8, none, .int .u64 ((n : Nat) : Int)⟩] []) (fun K => by kernel_rfl) hF hH ?_
  refine ⟨mask32 (by omega), ?_⟩
  clear hF hH; intro a w hF hH
  refine wl_end (by kernel_rfl) ?_
  refine then_n ?_
  refine wp_seqE (by kernel_rfl) ?_
  refine wp_regE (by kernel_rfl) ?_
  refine seg [.p, .pv (.int .u64 0), .p] [0, 1, 6, 7, 8, 9] (fun K => (Value.int .u64 (Int.fdiv ((n : Nat) : Int) (2 ^ 32)) = .int .u64 0) ∧ K [⟨0, none, .int .u64 1⟩, ⟨1, none, .int .u64 ((n : Nat) : Int)⟩, ⟨6, none, .int .u64 1⟩, ⟨7, none, .int .u64 0⟩, ⟨8, none, .int .u64 ((n : Nat) : Int)⟩, ⟨9, none, .int .u64 0⟩] []) (fun K => by kernel_rfl) hF hH ?_
  refine ⟨shr0 (by omega), ?_⟩
  clear hF hH; intro a w hF hH
  refine wl_end (by kernel_rfl) ?_
  refine then_n ?_
  refine wp_seqE (by kernel_rfl) ?_
  refine wp_regE (by kernel_rfl) ?_
  refine seg [.p, .p, .pv (.int .u64 ((n : Nat) : Int)), .p] [0, 1, 6, 7, 8, 9, 10] (fun K => (Value.int .u64 (IntKind.wrap .u64 (1 * ((n : Nat) : Int))) = .int .u64 ((n : Nat) : Int)) ∧ K [⟨0, none, .int .u64 1⟩, ⟨1, none, .int .u64 ((n : Nat) : Int)⟩, ⟨6, none, .int .u64 1⟩, ⟨7, none, .int .u64 0⟩, ⟨8, none, .int .u64 ((n : Nat) : Int)⟩, ⟨9, none, .int .u64 0⟩, ⟨10, none, .int .u64 ((n : Nat) : Int)⟩] []) (fun K => by kernel_rfl) hF hH ?_
  refine ⟨wv_u64 (by omega) (by omega), ?_⟩
  clear hF hH; intro a w hF hH
  refine wl_end (by kernel_rfl) ?_
  refine then_n ?_
  refine wp_seqE (by kernel_rfl) ?_
  refine wp_regE (by kernel_rfl) ?_
  refine seg [.p, .p, .pv (.int .u64 0), .p, .pv (.int .u64 0), .p, .p] [0, 1, 6, 7, 9, 11] (fun K => (Value.int .u64 (IntKind.wrap .u64 (0 * ((n : Nat) : Int))) = .int .u64 0) ∧ (Value.int .u64 (Int.fdiv ((n : Nat) : Int) (2 ^ 32)) = .int .u64 0) ∧ K [⟨0, none, .int .u64 1⟩, ⟨1, none, .int .u64 ((n : Nat) : Int)⟩, ⟨6, none, .int .u64 1⟩, ⟨7, none, .int .u64 0⟩, ⟨9, none, .int .u64 0⟩, ⟨11, none, .int .u64 0⟩] []) (fun K => by kernel_rfl) hF hH ?_
  refine ⟨wv_u64 (by omega) (by omega), ?_⟩
  refine ⟨shr0 (by omega), ?_⟩
  clear hF hH; intro a w hF hH
  refine wl_end (by kernel_rfl) ?_
  refine then_n ?_
  refine wp_seqE (by kernel_rfl) ?_
  refine wp_regE (by kernel_rfl) ?_
  refine seg [.p, .p, .p] [0, 1, 6, 7, 9, 11, 12] (fun K => K [⟨0, none, .int .u64 1⟩, ⟨1, none, .int .u64 ((n : Nat) : Int)⟩, ⟨6, none, .int .u64 1⟩, ⟨7, none, .int .u64 0⟩, ⟨9, none, .int .u64 0⟩, ⟨11, none, .int .u64 0⟩, ⟨12, none, .int .u64 0⟩] []) (fun K => by kernel_rfl) hF hH ?_
  clear hF hH; intro a w hF hH
  refine wl_end (by kernel_rfl) ?_
  refine then_n ?_
  refine wp_seqE (by kernel_rfl) ?_
  refine wp_regE (by kernel_rfl) ?_
  refine seg [.p, .p, .p] [0, 1, 6, 7, 9, 12, 13] (fun K => K [⟨0, none, .int .u64 1⟩, ⟨1, none, .int .u64 ((n : Nat) : Int)⟩, ⟨6, none, .int .u64 1⟩, ⟨7, none, .int .u64 0⟩, ⟨9, none, .int .u64 0⟩, ⟨12, none, .int .u64 0⟩, ⟨13, none, .int .u64 0⟩] []) (fun K => by kernel_rfl) hF hH ?_
  clear hF hH; intro a w hF hH
  refine wl_end (by kernel_rfl) ?_
  refine then_n ?_
  refine wp_seqE (by kernel_rfl) ?_
  refine wp_regE (by kernel_rfl) ?_
  refine seg [.p, .p, .p, .p, .p, .p] [0, 1, 7, 9, 13, 12] (fun K => K [⟨0, none, .int .u64 1⟩, ⟨1, none, .int .u64 ((n : Nat) : Int)⟩, ⟨7, none, .int .u64 0⟩, ⟨9, none, .int .u64 0⟩, ⟨13, none, .int .u64 0⟩, ⟨12, none, .int .u64 0⟩] []) (fun K => by kernel_rfl) hF hH ?_
  clear hF hH; intro a w hF hH
  refine wl_end (by kernel_rfl) ?_
  refine then_n ?_
  refine wp_seqE (by kernel_rfl) ?_
  refine wp_regE (by kernel_rfl) ?_
  refine seg [.p, .p, .p, .p, .p, .p, .p, .p, .p] [0, 1, 4] (fun K => K [⟨0, none, .int .u64 1⟩, ⟨1, none, .int .u64 ((n : Nat) : Int)⟩, ⟨4, none, .int .u64 0⟩] []) (fun K => by kernel_rfl) hF hH ?_
  clear hF hH; intro a w hF hH
  refine wl_end (by kernel_rfl) ?_
  refine then_n ?_
  refine wp_seqE (by kernel_rfl) ?_
  refine wp_regE (by kernel_rfl) ?_
  refine seg [.p, .p, .pv (.int .u64 ((n : Nat) : Int)), .p] [4, 5] (fun K => (Value.int .u64 (IntKind.wrap .u64 (1 * ((n : Nat) : Int))) = .int .u64 ((n : Nat) : Int)) ∧ K [⟨4, none, .int .u64 0⟩, ⟨5, none, .int .u64 ((n : Nat) : Int)⟩] []) (fun K => by kernel_rfl) hF hH ?_
  refine ⟨wv_u64 (by omega) (by omega), ?_⟩
  clear hF hH; intro a w hF hH
  refine wl_end (by kernel_rfl) ?_
  refine then_n ?_
  refine wp_retE (by kernel_rfl) ?_
  refine retE (vs := [.int .u64 0, .int .u64 ((n : Nat) : Int)]) (p := True) (v := .tuple #[.int .u64 0, .int .u64 ((n : Nat) : Int)]) [] (by kernel_rfl) trivial (by kernel_rfl) hF hH ?_
  exact fin0 rfl hH

theorem mul_c (n : Nat) (hn1 : n ≤ 65536) : CallOk Try.prog 41 [.int .u64 1, .int .u64 ((n : Nat) : Int)] [] (U := Unit) (fun _ => .tuple #[.int .u64 0, .int .u64 ((n : Nat) : Int)]) (fun _ => []) (fun _ => True) := by
  intro w0 hn
  refine enterE (N := 30) Try.func41 (by kernel_rfl) (by kernel_rfl) (by kernel_rfl) ?_
  intro a hF
  have hH := Hp.start w0 hn
  refine wp_seqE (by kernel_rfl) ?_
  refine wp_regE (by kernel_rfl) ?_
  refine seg [.p, .p] [0, 1] (fun K => K [⟨0, none, .int .u64 1⟩, ⟨1, none, .int .u64 ((n : Nat) : Int)⟩] []) (fun K => by kernel_rfl) hF hH ?_
  clear hF hH; intro a w hF hH
  refine wl_end (by kernel_rfl) ?_
  refine then_n ?_
  refine wp_seqE (by kernel_rfl) ?_
  refine wp_condE (b := false) (by kernel_rfl) (by kernel_rfl) hF (fun h => by cases h) (fun _ => ?_)
  refine wp_skipE (by kernel_rfl) ?_
  refine then_n ?_
  refine wp_seqE (by kernel_rfl) ?_
  refine wp_regE (by kernel_rfl) ?_
  refine seg [.p, .p] [23, 24] (fun K => K [⟨23, none, .int .u64 1⟩, ⟨24, none, .int .u64 ((n : Nat) : Int)⟩] []) (fun K => by kernel_rfl) hF hH ?_
  clear hF hH; intro a w hF hH
  refine callE (d := 25) (mul64_c n hn1) [] (by kernel_rfl) (by kernel_rfl) hF hH ?_
  clear hF hH; rintro ⟨⟩ - a w hF hH
  refine seg [.p, .p, .p, .p, .p] [8, 9] (fun K => K [⟨8, none, .int .u64 0⟩, ⟨9, none, .int .u64 ((n : Nat) : Int)⟩] []) (fun K => by kernel_rfl) hF hH ?_
  clear hF hH; intro a w hF hH
  refine wl_end (by kernel_rfl) ?_
  refine then_n ?_
  refine wp_seqE (by kernel_rfl) ?_
  refine wp_regE (by kernel_rfl) ?_
  refine seg [.p, .p, .p, .p] [4, 5] (fun K => K [⟨4, none, .int .u64 0⟩, ⟨5, none, .int .u64 ((n : Nat) : Int)⟩] []) (fun K => by kernel_rfl) hF hH ?_
  clear hF hH; intro a w hF hH
  refine wl_end (by kernel_rfl) ?_
  refine then_n ?_
  refine wp_retE (by kernel_rfl) ?_
  refine retE (vs := [.int .u64 0, .int .u64 ((n : Nat) : Int)]) (p := True) (v := .tuple #[.int .u64 0, .int .u64 ((n : Nat) : Int)]) [] (by kernel_rfl) trivial (by kernel_rfl) hF hH ?_
  exact fin0 rfl hH

theorem repeat_c (A : Option Addr) (c : Nat) (x : UInt8) (n : Nat) (hn1 : n ≤ 8192) : CallOk Try.prog 30 [.slice A 1 c, .int .i64 ((n : Nat) : Int)] [.view A 1 c 1 (byE ([x]))] (U := Option Addr × Nat) (fun u => .slice u.1 n u.2) (fun u => [.row u.1 u.2 5 1 n (byC (List.replicate n x))]) (fun _ => True) := by
  intro w0 hn
  refine enterE (N := 77) Try.func30 (by kernel_rfl) (by kernel_rfl) (by kernel_rfl) ?_
  intro a hF
  have hH := Hp.start w0 hn
  refine wp_seqE (by kernel_rfl) ?_
  refine wp_regE (by kernel_rfl) ?_
  refine seg [.p] [0, 1] (fun K => K [⟨0, none, .slice A 1 c⟩, ⟨1, none, .int .i64 ((n : Nat) : Int)⟩] []) (fun K => by kernel_rfl) hF hH ?_
  clear hF hH; intro a w hF hH
  refine wl_end (by kernel_rfl) ?_
  refine then_n ?_
  refine wp_seqE (by kernel_rfl) ?_
  refine wp_seqE (by kernel_rfl) ?_
  refine wp_regE (by kernel_rfl) ?_
  refine seg [.p, .p] [0, 1, 13] (fun K => K [⟨0, none, .slice A 1 c⟩, ⟨1, none, .int .i64 ((n : Nat) : Int)⟩, ⟨13, none, .bool (((n : Nat) : Int) == 0)⟩] []) (fun K => by kernel_rfl) hF hH ?_
  clear hF hH; intro a w hF hH
  refine wl_end (by kernel_rfl) ?_
  refine then_n ?_
  refine wp_condE (b := ((n : Nat) : Int) == 0) (by kernel_rfl) (by kernel_rfl) hF (fun hb1 => ?_) (fun hb1 => ?_)
  · skip
    have hb1p := eq_of_beq hb1
    refine wp_seqE (by kernel_rfl) ?_
    refine wp_regE (by kernel_rfl) ?_
    refine seg [.bs, .p] [4] (fun K => ∀ g1, K [⟨4, none, .slice (some ⟨g1, 0, none⟩) 0 0⟩] [.box g1 5 []]) (fun K => by kernel_rfl) hF hH ?_
    intro g1
    clear hF hH; intro a w hF hH
    refine wl_end (by kernel_rfl) ?_
    refine then_n ?_
    refine wp_retE (by kernel_rfl) ?_
    refine then_ret ?_
    refine retE (vs := [.slice (some ⟨g1, 0, none⟩) 0 0]) (p := True) (v := .slice (some ⟨g1, 0, none⟩) 0 0) [] (by kernel_rfl) trivial (by kernel_rfl) hF hH ?_
    have hn0 : n = 0 := by omega
    subst hn0
    have hH := hH.boxRow (k := 0) rfl 1 0 0 (by omega) (by unfold maxLen; omega) rfl
    exact ⟨(some ⟨g1, 0, none⟩, 0), rfl, hH.below, trivial, newRowOf hH (k := 0) rfl rfl⟩
  · skip
    have hb1p := ne_of_beq_false hb1
    refine wp_skipE (by kernel_rfl) ?_
    refine then_n ?_
    refine wp_seqE (by kernel_rfl) ?_
    refine wp_seqE (by kernel_rfl) ?_
    refine wp_regE (by kernel_rfl) ?_
    refine seg [.p, .p] [0, 1, 16] (fun K => K [⟨0, none, .slice A 1 c⟩, ⟨1, none, .int .i64 ((n : Nat) : Int)⟩, ⟨16, none, .bool (decide (((n : Nat) : Int) < 0))⟩] []) (fun K => by kernel_rfl) hF hH ?_
    clear hF hH; intro a w hF hH
    refine wl_end (by kernel_rfl) ?_
    refine then_n ?_
    refine wp_condE (b := decide (((n : Nat) : Int) < 0)) (by kernel_rfl) (by kernel_rfl) hF (fun hb2 => ?_) (fun hb2 => ?_)
    · skip
      have hb2p := of_decide_eq_true hb2
      exact False.elim (by omega)
    · skip
      have hb2p := of_decide_eq_false hb2
      refine wp_skipE (by kernel_rfl) ?_
      refine then_n ?_
      refine wp_seqE (by kernel_rfl) ?_
      refine wp_regE (by kernel_rfl) ?_
      refine seg [.p, .p, .p, .p, .pv (.int .u64 ((n : Nat) : Int))] [0, 21, 23] (fun K => (Value.int .u64 (IntKind.wrap .u64 ((n : Nat) : Int)) = .int .u64 ((n : Nat) : Int)) ∧ K [⟨0, none, .slice A 1 c⟩, ⟨21, none, .int .u64 1⟩, ⟨23, none, .int .u64 ((n : Nat) : Int)⟩] []) (fun K => by kernel_rfl) hF hH ?_
      refine ⟨wr_u64 (by omega), ?_⟩
      clear hF hH; intro a w hF hH
      refine callE (d := 24) (mul_c n (by omega)) [] (by kernel_rfl) (by kernel_rfl) hF hH ?_
      clear hF hH; rintro ⟨⟩ - a w hF hH
      refine seg [.p, .p, .p, .p, .p] [0, 5, 6] (fun K => K [⟨0, none, .slice A 1 c⟩, ⟨5, none, .int .u64 0⟩, ⟨6, none, .int .u64 ((n : Nat) : Int)⟩] []) (fun K => by kernel_rfl) hF hH ?_
      clear hF hH; intro a w hF hH
      refine wl_end (by kernel_rfl) ?_
      refine then_n ?_
      refine wp_seqE (by kernel_rfl) ?_
      refine wp_seqE (by kernel_rfl) ?_
      refine wp_regE (by kernel_rfl) ?_
      refine seg [.p, .p, .p, .gt (.p), .gt (.p), .p] [0, 6, 32] (fun K => (false = false) ∧ (false = false) ∧ K [⟨0, none, .slice A 1 c⟩, ⟨6, none, .int .u64 ((n : Nat) : Int)⟩, ⟨32, none, .bool (decide (9223372036854775807 < ((n : Nat) : Int)))⟩] []) (fun K => by kernel_rfl) hF hH ?_
      refine ⟨rfl, ?_⟩
      refine ⟨rfl, ?_⟩
      clear hF hH; intro a w hF hH
      refine wl_end (by kernel_rfl) ?_
      refine then_n ?_
      refine wp_condE (b := decide (9223372036854775807 < ((n : Nat) : Int))) (by kernel_rfl) (by kernel_rfl) hF (fun hb3 => ?_) (fun hb3 => ?_)
      · skip
        have hb3p := of_decide_eq_true hb3
        exact False.elim (by omega)
      · skip
        have hb3p := of_decide_eq_false hb3
        refine wp_skipE (by kernel_rfl) ?_
        refine then_n ?_
        refine wp_seqE (by kernel_rfl) ?_
        refine wp_regE (by kernel_rfl) ?_
        refine seg [.p, .pv (.int .i64 ((n : Nat) : Int)), .p] [0, 7] (fun K => (Value.int .i64 (IntKind.wrap .i64 ((n : Nat) : Int)) = .int .i64 ((n : Nat) : Int)) ∧ K [⟨0, none, .slice A 1 c⟩, ⟨7, none, .int .i64 ((n : Nat) : Int)⟩] []) (fun K => by kernel_rfl) hF hH ?_
        refine ⟨wr_i64 (by omega), ?_⟩
        clear hF hH; intro a w hF hH
        refine wl_end (by kernel_rfl) ?_
        refine then_n ?_
        refine wp_seqE (by kernel_rfl) ?_
        refine wp_seqE (by kernel_rfl) ?_
        refine wp_regE (by kernel_rfl) ?_
        refine seg [.p, .p, .p] [0, 7, 38] (fun K => K [⟨0, none, .slice A 1 c⟩, ⟨7, none, .int .i64 ((n : Nat) : Int)⟩, ⟨38, none, .bool false⟩] []) (fun K => by kernel_rfl) hF hH ?_
        clear hF hH; intro a w hF hH
        refine wl_end (by kernel_rfl) ?_
        refine then_n ?_
        refine wp_condE (b := false) (by kernel_rfl) (by kernel_rfl) hF (fun h => by cases h) (fun _ => ?_)
        refine wp_skipE (by kernel_rfl) ?_
        refine then_n ?_
        refine wp_seqE (by kernel_rfl) ?_
        refine wp_regE (by kernel_rfl) ?_
        refine seg [.p, .p] [0, 7, 8] (fun K => K [⟨0, none, .slice A 1 c⟩, ⟨7, none, .int .i64 ((n : Nat) : Int)⟩, ⟨8, none, .int .i64 ((n : Nat) : Int)⟩] []) (fun K => by kernel_rfl) hF hH ?_
        clear hF hH; intro a w hF hH
        refine wl_end (by kernel_rfl) ?_
        refine then_n ?_
        refine wp_seqE (by kernel_rfl) ?_
        refine wp_seqE (by kernel_rfl) ?_
        refine wp_regE (by kernel_rfl) ?_
        refine seg [.p, .p] [0, 7, 8, 42] (fun K => K [⟨0, none, .slice A 1 c⟩, ⟨7, none, .int .i64 ((n : Nat) : Int)⟩, ⟨8, none, .int .i64 ((n : Nat) : Int)⟩, ⟨42, none, .bool (decide (8192 < ((n : Nat) : Int)))⟩] []) (fun K => by kernel_rfl) hF hH ?_
        clear hF hH; intro a w hF hH
        refine wl_end (by kernel_rfl) ?_
        refine then_n ?_
        refine wp_condE (b := decide (8192 < ((n : Nat) : Int))) (by kernel_rfl) (by kernel_rfl) hF (fun hb4 => ?_) (fun hb4 => ?_)
        · skip
          have hb4p := of_decide_eq_true hb4
          exact False.elim (by omega)
        · skip
          have hb4p := of_decide_eq_false hb4
          refine wp_skipE (by kernel_rfl) ?_
          refine then_n ?_
          refine wp_seqE (by kernel_rfl) ?_
          refine wp_regE (by kernel_rfl) ?_
          refine seg [.p, .xc (U := Option Addr × Nat × List Value) (fun u => .slice u.1 n u.2.1) (fun u => [.row u.1 u.2.1 5 1 n u.2.2]) (fun u => n ≤ u.2.1 ∧ u.2.2.length = n)] [0, 7, 8, 54] (fun K => ExtOk Try.prog 42 [.int .i64 ((n : Nat) : Int)] (U := Option Addr × Nat × List Value) (fun u => .slice u.1 n u.2.1) (fun u => [.row u.1 u.2.1 5 1 n u.2.2]) (fun u => n ≤ u.2.1 ∧ u.2.2.length = n) ∧ ∀ u : Option Addr × Nat × List Value, (fun u => n ≤ u.2.1 ∧ u.2.2.length = n) u → K [⟨0, none, .slice A 1 c⟩, ⟨7, none, .int .i64 ((n : Nat) : Int)⟩, ⟨8, none, .int .i64 ((n : Nat) : Int)⟩, ⟨54, none, .slice u.1 n u.2.1⟩] [.row u.1 u.2.1 5 1 n u.2.2]) (fun K => by kernel_rfl) hF hH ?_
          refine ⟨ext_makeNoZero (ps := #[3]) (t := 25) Try.func42 (by kernel_rfl) (by kernel_rfl) (by kernel_rfl) (by kernel_rfl) (by kernel_rfl) n (by omega), ?_⟩
          rintro ⟨A1, c1, xs1⟩ ⟨hcap, hxl⟩
          replace hcap : n ≤ c1 := hcap
          replace hxl : xs1.length = n := hxl
          clear hF hH; intro a w hF hH
          refine seg [.p, .p, .s3 n n, .p] [0, 7, 8, 9] (fun K => ((((n : Nat) : Int) : Int) = ((n : Nat) : Int) ∧ (((n : Nat) : Int) : Int) = ((n : Nat) : Int) ∧ n ≤ n ∧ n ≤ c1) ∧ K [⟨0, none, .slice A 1 c⟩, ⟨7, none, .int .i64 ((n : Nat) : Int)⟩, ⟨8, none, .int .i64 ((n : Nat) : Int)⟩, ⟨9, none, .slice A1 n n⟩] [.row A1 c1 5 1 n xs1]) (fun K => by kernel_rfl) hF hH ?_
          refine ⟨⟨by omega, by omega, by omega, by omega⟩, ?_⟩
          clear hF hH; intro a w hF hH
          refine wl_end (by kernel_rfl) ?_
          refine then_n ?_
          refine wp_seqE (by kernel_rfl) ?_
          refine wp_regE (by kernel_rfl) ?_
          have hH := hH.rowCap (k := 0) rfl n n (Nat.le_refl _) (by omega) (Nat.le_refl _) (by omega)
          have htk : xs1.take (n * 1) = xs1 := List.take_of_length_le (by omega)
          rw [htk] at hH
          refine seg [.p, .p, .cp 0 0 true (.n 0) (byC [x]), .p] [7, 8, 9, 10] (fun K => ((A1 : Option Addr) = (if true then A1 else cutA A1 n 0 1) ∧ (true = true → 0 = 0) ∧ 0 + (byC [x]).length ≤ n ∧ (byC [x]).length = Nat.min 1 n ∧ cpyP (.view A 1 c 1 (byE ([x]))) A 1 (byC [x]) ∧ (∀ u ∈ (byC [x] : List Value), u.oneCell' = true)) ∧ K [⟨7, none, .int .i64 ((n : Nat) : Int)⟩, ⟨8, none, .int .i64 ((n : Nat) : Int)⟩, ⟨9, none, .slice A1 n n⟩, ⟨10, none, .int .i64 1⟩] [.row A1 n 5 1 n (xs1.take 0 ++ (byC [x]) ++ xs1.drop (0 + (byC [x]).length))]) (fun K => by kernel_rfl) hF hH ?_
          refine ⟨⟨rfl, fun _ => rfl, by simp [byC]; omega, by show 1 = min 1 n; omega, ⟨rfl, Nat.le_refl _, rfl, rfl⟩, (by_one [x])⟩, ?_⟩
          clear hF hH; intro a w hF hH
          refine wl_end (by kernel_rfl) ?_
          refine then_n ?_
          refine wp_seqE (by kernel_rfl) ?_
          refine wp_blockE (id := 0) (by kernel_rfl) ?_
          refine wp_loopE (by kernel_rfl) (fun msr a w => ∃ (k : Nat), ∃ (xs : List Value), msr = n - k ∧ (1 ≤ k) ∧ (k ≤ n) ∧ (xs.length = n) ∧ (xs.take k = List.replicate k (Value.int .u8 (x.toNat : Int))) ∧ Fr 77 [⟨7, none, .int .i64 ((n : Nat) : Int)⟩, ⟨8, none, .int .i64 ((n : Nat) : Int)⟩, ⟨9, none, .slice A1 n n⟩, ⟨10, none, .int .i64 ((k : Nat) : Int)⟩] a ∧ Hp w0 [.view A 1 c 1 (byE ([x]))] [.row A1 n 5 1 n xs] w) _ ⟨1, (xs1.take 0 ++ (byC [x]) ++ xs1.drop (0 + (byC [x]).length)), rfl, Nat.le_refl _, by omega, by simp [byC]; omega, by simp [byC], frK hF [7, 8, 9, 10] (by kernel_rfl), hpKN hH [0] [0] (by kernel_rfl) (by kernel_rfl) (by kernel_rfl)⟩ ?_
          clear hF hH; rintro msr a w ⟨k, xs, rfl, hk1, hk, hxl2, hrep, hF, hH⟩
          refine wp_seqE (by kernel_rfl) ?_
          refine wp_seqE (by kernel_rfl) ?_
          refine wp_regE (by kernel_rfl) ?_
          refine seg [.p, .p, .p] [7, 8, 9, 10, 63] (fun K => K [⟨7, none, .int .i64 ((n : Nat) : Int)⟩, ⟨8, none, .int .i64 ((n : Nat) : Int)⟩, ⟨9, none, .slice A1 n n⟩, ⟨10, none, .int .i64 ((k : Nat) : Int)⟩, ⟨63, none, .bool (decide (((k : Nat) : Int) < ((n : Nat) : Int)))⟩] [.row A1 n 5 1 n xs]) (fun K => by kernel_rfl) hF hH ?_
          clear hF hH; intro a w hF hH
          refine wl_end (by kernel_rfl) ?_
          refine then_n ?_
          refine wp_condE (b := decide (((k : Nat) : Int) < ((n : Nat) : Int))) (by kernel_rfl) (by kernel_rfl) hF (fun hb5 => ?_) (fun hb5 => ?_)
          · skip
            have hb5p := of_decide_eq_true hb5
            have hlen : (List.replicate (min (min k n) (n - k)) (Value.int .u8 (x.toNat : Int))).length = (min (min k n) (n - k)) := by simp
            refine wp_skipE (by kernel_rfl) ?_
            refine then_n ?_
            refine wp_blockE (id := 1) (by kernel_rfl) ?_
            refine wp_seqE (by kernel_rfl) ?_
            refine wp_regE (by kernel_rfl) ?_
            refine seg [.p, .p, .pv (.int .i64 ((min k n : Nat) : Int)), .p] [7, 8, 9, 10, 11] (fun K => (Value.int .i64 (if ((n : Nat) : Int) < ((k : Nat) : Int) then ((n : Nat) : Int) else ((k : Nat) : Int)) = .int .i64 ((min k n : Nat) : Int)) ∧ K [⟨7, none, .int .i64 ((n : Nat) : Int)⟩, ⟨8, none, .int .i64 ((n : Nat) : Int)⟩, ⟨9, none, .slice A1 n n⟩, ⟨10, none, .int .i64 ((k : Nat) : Int)⟩, ⟨11, none, .int .i64 ((min k n : Nat) : Int)⟩] [.row A1 n 5 1 n xs]) (fun K => by kernel_rfl) hF hH ?_
            refine ⟨natmin _ _, ?_⟩
            clear hF hH; intro a w hF hH
            refine wl_end (by kernel_rfl) ?_
            refine then_n ?_
            refine drawE (n := 10) (by kernel_rfl) (by kernel_rfl) (by kernel_rfl) (by kernel_rfl) [] [7, 8, 9, 10] (.take 0 (.p) (.take 1 (.p) (.take 2 (.p) (.take 3 (.sl k n) (.take 4 (.p) (.take 5 (.p) (.take 6 (.sh (min k n)) (.eff [(7, .cp 0 k false (.r 0) (List.replicate (min (min k n) (n - k)) (Value.int .u8 (x.toNat : Int))))] (fun _ => .take 8 (.pv (.int .i64 ((k + ((List.replicate (min (min k n) (n - k)) (Value.int .u8 (x.toNat : Int))).length) : Nat) : Int))) (.take 9 (.p) ((.done [0])))))))))))) (fun l rs => l = [⟨7, none, .int .i64 ((n : Nat) : Int)⟩, ⟨8, none, .int .i64 ((n : Nat) : Int)⟩, ⟨9, none, .slice A1 n n⟩, ⟨10, none, .int .i64 ((k + ((List.replicate (min (min k n) (n - k)) (Value.int .u8 (x.toNat : Int))).length) : Nat) : Int)⟩] ∧ rs = [.row A1 n 5 1 n (xs.take k ++ (List.replicate (min (min k n) (n - k)) (Value.int .u8 (x.toNat : Int))) ++ xs.drop (k + (List.replicate (min (min k n) (n - k)) (Value.int .u8 (x.toNat : Int))).length))]) (fun K => ((((k : Nat) : Int) : Int) = ((k : Nat) : Int) ∧ (n : Nat) = n ∧ k ≤ n ∧ n ≤ n) ∧ ((((min k n : Nat) : Int) : Int) = ((min k n : Nat) : Int) ∧ min k n ≤ n) ∧ (((cutA A1 n k 1 : Option Addr) = (if false then A1 else cutA A1 n k 1) ∧ (false = true → k = 0) ∧ k + (List.replicate (min (min k n) (n - k)) (Value.int .u8 (x.toNat : Int))).length ≤ n ∧ (List.replicate (min (min k n) (n - k)) (Value.int .u8 (x.toNat : Int))).length = Nat.min (min k n) (n - k) ∧ cpyP (.row A1 n 5 1 n xs) A1 (min k n) (List.replicate (min (min k n) (n - k)) (Value.int .u8 (x.toNat : Int))) ∧ (∀ u ∈ (List.replicate (min (min k n) (n - k)) (Value.int .u8 (x.toNat : Int)) : List Value), u.oneCell' = true)) ∧ (([] : List Res) = []) ∧ (Value.int .i64 (IntKind.wrap .i64 (((k : Nat) : Int) + (((List.replicate (min (min k n) (n - k)) (Value.int .u8 (x.toNat : Int))).length : Nat) : Int))) = .int .i64 ((k + ((List.replicate (min (min k n) (n - k)) (Value.int .u8 (x.toNat : Int))).length) : Nat) : Int)) ∧ K [⟨7, none, .int .i64 ((n : Nat) : Int)⟩, ⟨8, none, .int .i64 ((n : Nat) : Int)⟩, ⟨9, none, .slice A1 n n⟩, ⟨10, none, .int .i64 ((k + ((List.replicate (min (min k n) (n - k)) (Value.int .u8 (x.toNat : Int))).length) : Nat) : Int)⟩] [.row A1 n 5 1 n (xs.take k ++ (List.replicate (min (min k n) (n - k)) (Value.int .u8 (x.toNat : Int))) ++ xs.drop (k + (List.replicate (min (min k n) (n - k)) (Value.int .u8 (x.toNat : Int))).length))])) (fun K => by kernel_rfl) hF hH (⟨⟨by omega, rfl, by omega, by omega⟩, ⟨⟨by omega, by omega⟩, (⟨⟨rfl, (fun h => by cases h), by rw [hlen]; omega, by rw [hlen], ⟨rfl, by omega, rfl, rep_src hrep (by omega)⟩, (fun u hu => by rw [List.eq_of_mem_replicate hu]; rfl)⟩, ⟨rfl, ⟨natadd (by omega), ⟨rfl, rfl⟩⟩⟩⟩)⟩⟩) ?_
            clear hF hH; rintro l rs a w ⟨rfl, rfl⟩ hF hH
            refine block_n ?_
            refine then_n ?_
            simp only [List.length_replicate] at hF
            exact ⟨_, by omega, k + (min (min k n) (n - k)), _, rfl, by omega, by omega, rep_len hxl2 (by omega), rep_step hrep, frK hF [7, 8, 9, 10] (by kernel_rfl), hpKN hH [0] [0] (by kernel_rfl) (by kernel_rfl) (by kernel_rfl)⟩
          · skip
            have hb5p := of_decide_eq_false hb5
            refine wp_exitE (id := 0) (by kernel_rfl) ?_
            refine then_exit ?_
            refine then_exit ?_
            refine block_exit ?_
            refine then_n ?_
            refine wp_seqE (by kernel_rfl) ?_
            refine wp_regE (by kernel_rfl) ?_
            refine seg [.p, .p] [4] (fun K => K [⟨4, none, .slice A1 n n⟩] [.row A1 n 5 1 n xs]) (fun K => by kernel_rfl) hF hH ?_
            clear hF hH; intro a w hF hH
            refine wl_end (by kernel_rfl) ?_
            refine then_n ?_
            refine wp_retE (by kernel_rfl) ?_
            refine retE (vs := [.slice A1 n n]) (p := True) (v := .slice A1 n n) [] (by kernel_rfl) trivial (by kernel_rfl) hF hH ?_
            have hkn : k = n := by omega
            subst hkn
            rw [← hxl2, List.take_length, hxl2] at hrep
            subst hrep
            exact ⟨(A1, k), rfl, hH.below, trivial, newRowOf hH (k := 0) rfl (by rw [byC_replicate])⟩

end Go.Proofs.Ytcccboodapgejaa
