/-
  Index and Cut at one byte, times and Get: walked once each.
-/
import Derived.Test.YtcccboodapgejaaDatF
namespace Go.Proofs.Ytcccboodapgejaa
open Go.Sym

theorem index1_c (A B : Option Addr) (n c d : Nat) (bs : List UInt8) (hl : bs.length = n) (x : UInt8) : CallOk Try.prog 43 [.slice A n c, .slice B 1 d] [.view A n c 1 (byE bs), .view B 1 d 1 (byE [x])] (U := Unit) (fun _ => .int .i64 (ixV bs x)) (fun _ => []) (fun _ => True) := by
  intro w0 hn
  refine enterE (N := 200) Try.func43 (by kernel_rfl) (by kernel_rfl) (by kernel_rfl) ?_
  intro a hF
  have hH := Hp.start w0 hn
  refine wp_seqE (by kernel_rfl) ?_
  refine wp_regE (by kernel_rfl) ?_
  refine seg [.p] [0, 1] (fun K => K [⟨0, none, .slice A n c⟩, ⟨1, none, .slice B 1 d⟩] []) (fun K => by kernel_rfl) hF hH ?_
  clear hF hH; intro a w hF hH
  refine wl_end (by kernel_rfl) ?_
  refine then_n ?_
  refine wp_seqE (by kernel_rfl) ?_
  refine wp_regE (by kernel_rfl) ?_
  refine seg [.p, .p, .p] [0, 1, 5] (fun K => K [⟨0, none, .slice A n c⟩, ⟨1, none, .slice B 1 d⟩, ⟨5, none, .int .i64 1⟩] []) (fun K => by kernel_rfl) hF hH ?_
  clear hF hH; intro a w hF hH
  refine wl_end (by kernel_rfl) ?_
  refine then_n ?_
  refine wp_seqE (by kernel_rfl) ?_
  refine wp_blockE (id := 0) (by kernel_rfl) ?_
  refine wp_seqE (by kernel_rfl) ?_
  refine wp_regE (by kernel_rfl) ?_
  refine seg [.p, .p, .p] [0, 1, 5, 22] (fun K => K [⟨0, none, .slice A n c⟩, ⟨1, none, .slice B 1 d⟩, ⟨5, none, .int .i64 1⟩, ⟨22, none, .bool false⟩] []) (fun K => by kernel_rfl) hF hH ?_
  clear hF hH; intro a w hF hH
  refine wl_end (by kernel_rfl) ?_
  refine then_n ?_
  refine wp_condE (b := false) (by kernel_rfl) (by kernel_rfl) hF (fun h => by cases h) (fun _ => ?_)
  refine wp_seqE (by kernel_rfl) ?_
  refine wp_regE (by kernel_rfl) ?_
  refine seg [.p, .p, .p] [0, 1, 5, 25] (fun K => K [⟨0, none, .slice A n c⟩, ⟨1, none, .slice B 1 d⟩, ⟨5, none, .int .i64 1⟩, ⟨25, none, .bool true⟩] []) (fun K => by kernel_rfl) hF hH ?_
  clear hF hH; intro a w hF hH
  refine wl_end (by kernel_rfl) ?_
  refine then_n ?_
  refine wp_condE (b := true) (by kernel_rfl) (by kernel_rfl) hF (fun _ => ?_) (fun h => by cases h)
  refine wp_seqE (by kernel_rfl) ?_
  refine wp_regE (by kernel_rfl) ?_
  refine seg [.p, .p, .ia (.n 1) 0, .lv (.n 1) 0 0] [28, 31] (fun K => (((B) : Option Addr) = B ∧ (1 : Nat) = 1 ∧ (1 : Nat) = 1 ∧ (0 : Int) = ((0 : Nat) : Int) ∧ 0 < 1) ∧ ((B.getD nilA).add (0 * 1) = ((B.getD nilA).add (0 * 1)).add 0 ∧ 0 < 1) ∧ K [⟨28, none, .slice A n c⟩, ⟨31, none, .int .u8 (x.toNat : Int)⟩] []) (fun K => by kernel_rfl) hF hH ?_
  refine ⟨⟨rfl, rfl, rfl, by omega, by omega⟩, ?_⟩
  refine ⟨⟨rfl, by omega⟩, ?_⟩
  clear hF hH; intro a w hF hH
  refine callE (d := 32) (indexByte_c A n c bs (by first | rfl | assumption | (simp; done) | (simp; omega)) (x.toNat : Int)) [.n 0] (by kernel_rfl) (by kernel_rfl) hF hH ?_
  clear hF hH; rintro ⟨⟩ - a w hF hH
  refine seg [.p] [4] (fun K => K [⟨4, none, .int .i64 (ixV bs (Int.toNat (x.toNat : Int)).toUInt8)⟩] []) (fun K => by kernel_rfl) hF hH ?_
  clear hF hH; intro a w hF hH
  refine wl_end (by kernel_rfl) ?_
  refine then_n ?_
  refine wp_retE (by kernel_rfl) ?_
  refine block_ret ?_
  refine then_ret ?_
  refine retE (vs := [.int .i64 (ixV bs (Int.toNat (x.toNat : Int)).toUInt8)]) (p := True) (v := .int .i64 (ixV bs (Int.toNat (x.toNat : Int)).toUInt8)) [] (by kernel_rfl) trivial (by kernel_rfl) hF hH ?_
  exact fin0 (by rw [byte_back]) hH

theorem cut1_c (A B : Option Addr) (n c d : Nat) (bs : List UInt8) (hl : bs.length = n) (x : UInt8) : CallOk Try.prog 34 [.slice A n c, .slice B 1 d] [.view A n c 1 (byE bs), .view B 1 d 1 (byE [x])] (U := Value × Bool) (fun u => .tuple #[.slice A (cutN bs x) c, u.1, .bool u.2]) (fun _ => []) (fun _ => True) := by
  intro w0 hn
  have hnc : n ≤ c := (hn (.view A n c 1 (byE bs)) (by simp)).1.1
  have hcm : c ≤ 9223372036854775807 := (hn (.view A n c 1 (byE bs)) (by simp)).1.2.1
  have hix := ixV_lt bs x
  refine enterE (N := 23) Try.func34 (by kernel_rfl) (by kernel_rfl) (by kernel_rfl) ?_
  intro a hF
  have hH := Hp.start w0 hn
  refine wp_seqE (by kernel_rfl) ?_
  refine wp_regE (by kernel_rfl) ?_
  refine seg [.p, .p, .p] [0, 1] (fun K => K [⟨0, none, .slice A n c⟩, ⟨1, none, .slice B 1 d⟩] []) (fun K => by kernel_rfl) hF hH ?_
  clear hF hH; intro a w hF hH
  refine wl_end (by kernel_rfl) ?_
  refine then_n ?_
  refine wp_seqE (by kernel_rfl) ?_
  refine wp_seqE (by kernel_rfl) ?_
  refine wp_regE (by kernel_rfl) ?_
  refine seg [.p, .p] [0, 1, 8, 9] (fun K => K [⟨0, none, .slice A n c⟩, ⟨1, none, .slice B 1 d⟩, ⟨8, none, .slice A n c⟩, ⟨9, none, .slice B 1 d⟩] []) (fun K => by kernel_rfl) hF hH ?_
  clear hF hH; intro a w hF hH
  refine callE (d := 10) (index1_c A B n c d bs (by first | rfl | assumption | (simp; done) | (simp; omega)) x) [.n 0, .n 1] (by kernel_rfl) (by kernel_rfl) hF hH ?_
  clear hF hH; rintro ⟨⟩ - a w hF hH
  refine seg [.p] [0, 1, 7] (fun K => K [⟨0, none, .slice A n c⟩, ⟨1, none, .slice B 1 d⟩, ⟨7, none, .int .i64 (ixV bs x)⟩] []) (fun K => by kernel_rfl) hF hH ?_
  clear hF hH; intro a w hF hH
  refine wl_end (by kernel_rfl) ?_
  refine then_n ?_
  refine wp_seqE (by kernel_rfl) ?_
  refine wp_regE (by kernel_rfl) ?_
  refine seg [.p, .p] [0, 1, 7, 12] (fun K => K [⟨0, none, .slice A n c⟩, ⟨1, none, .slice B 1 d⟩, ⟨7, none, .int .i64 (ixV bs x)⟩, ⟨12, none, .bool (decide (0 ≤ (ixV bs x)))⟩] []) (fun K => by kernel_rfl) hF hH ?_
  clear hF hH; intro a w hF hH
  refine wl_end (by kernel_rfl) ?_
  refine then_n ?_
  refine wp_condE (b := decide (0 ≤ (ixV bs x))) (by kernel_rfl) (by kernel_rfl) hF (fun hb1 => ?_) (fun hb1 => ?_)
  · skip
    have hb1p := of_decide_eq_true hb1
    refine wp_seqE (by kernel_rfl) ?_
    refine drawE (n := 12) (by kernel_rfl) (by kernel_rfl) (by kernel_rfl) (by kernel_rfl) [] [4, 5, 6] (.take 0 (.p) (.take 1 (.p) (.take 2 (.sh ((ixV bs x).toNat)) (.take 3 (.p) (.take 4 (.p) (.take 5 (.p) (.take 6 (.p) (.take 7 (.pv (.int .i64 ((ixV bs x) + 1))) (.take 8 (.sl (((ixV bs x) + 1).toNat) n) (.take 9 (.p) (.take 10 (.p) (.take 11 (.p) ((.done [])))))))))))))) (fun l rs => l = [⟨4, none, .slice A ((ixV bs x).toNat) c⟩, ⟨5, none, .slice (cutA A c (((ixV bs x) + 1).toNat) 1) (n - (((ixV bs x) + 1).toNat)) (c - (((ixV bs x) + 1).toNat))⟩, ⟨6, none, .bool true⟩] ∧ rs = []) (fun K => ((ixV bs x : Int) = (((ixV bs x).toNat : Nat) : Int) ∧ (ixV bs x).toNat ≤ c) ∧ (Value.int .i64 (IntKind.wrap .i64 ((ixV bs x) + 1)) = .int .i64 ((ixV bs x) + 1)) ∧ (((ixV bs x) + 1 : Int) = ((((ixV bs x) + 1).toNat : Nat) : Int) ∧ (n : Nat) = n ∧ ((ixV bs x) + 1).toNat ≤ n ∧ n ≤ c) ∧ K [⟨4, none, .slice A ((ixV bs x).toNat) c⟩, ⟨5, none, .slice (cutA A c (((ixV bs x) + 1).toNat) 1) (n - (((ixV bs x) + 1).toNat)) (c - (((ixV bs x) + 1).toNat))⟩, ⟨6, none, .bool true⟩] []) (fun K => by kernel_rfl) hF hH (⟨⟨by omega, by omega⟩, ⟨wr64 (by omega), ⟨⟨by omega, rfl, by omega, by omega⟩, ⟨rfl, rfl⟩⟩⟩⟩) ?_
    clear hF hH; rintro l rs a w ⟨rfl, rfl⟩ hF hH
    refine then_n ?_
    refine wp_retE (by kernel_rfl) ?_
    refine then_ret ?_
    refine retE (vs := [.slice A ((ixV bs x).toNat) c, .slice (cutA A c (((ixV bs x) + 1).toNat) 1) (n - (((ixV bs x) + 1).toNat)) (c - (((ixV bs x) + 1).toNat)), .bool true]) (p := True) (v := .tuple #[.slice A ((ixV bs x).toNat) c, .slice (cutA A c (((ixV bs x) + 1).toNat) 1) (n - (((ixV bs x) + 1).toNat)) (c - (((ixV bs x) + 1).toNat)), .bool true]) [] (by kernel_rfl) trivial (by kernel_rfl) hF hH ?_
    exact ⟨(.slice (cutA A c (((ixV bs x) + 1).toNat) 1) (n - (((ixV bs x) + 1).toNat)) (c - (((ixV bs x) + 1).toNat)), true), by simp only [cutN, hb1]; rfl, hH.below, trivial, newN _ _⟩
  · skip
    have hb1p := of_decide_eq_false hb1
    refine wp_skipE (by kernel_rfl) ?_
    refine then_n ?_
    refine wp_seqE (by kernel_rfl) ?_
    refine wp_regE (by kernel_rfl) ?_
    refine seg [.p, .p, .p, .p] [4, 5, 6] (fun K => K [⟨4, none, .slice A n c⟩, ⟨5, none, .slice none 0 0⟩, ⟨6, none, .bool false⟩] []) (fun K => by kernel_rfl) hF hH ?_
    clear hF hH; intro a w hF hH
    refine wl_end (by kernel_rfl) ?_
    refine then_n ?_
    refine wp_retE (by kernel_rfl) ?_
    refine retE (vs := [.slice A n c, .slice none 0 0, .bool false]) (p := True) (v := .tuple #[.slice A n c, .slice none 0 0, .bool false]) [] (by kernel_rfl) trivial (by kernel_rfl) hF hH ?_
    exact ⟨(.slice none 0 0, false), by simp only [cutN, hb1, hl]; rfl, hH.below, trivial, newN _ _⟩

theorem times_c (A : Option Addr) (n c : Nat) (bs : List UInt8) (h4 : 4 ≤ n) : CallOk Try.prog 33 [.slice A n c] [.view A n c 1 (byE bs)] (U := Unit) (fun _ => .agg #[.int .i64 ((lblOf bs).h), .int .i64 ((lblOf bs).m), .int .i64 ((lblOf bs).s), .int .i64 ((lblOf bs).f), .bool ((lblOf bs).d)]) (fun _ => []) (fun _ => True) := by
  intro w0 hn
  have hb0 := at8_bd bs 0
  have hb1 := at8_bd bs 1
  have hb2 := at8_bd bs 2
  have hb3 := at8_bd bs 3
  refine enterE (N := 20) Try.func33 (by kernel_rfl) (by kernel_rfl) (by kernel_rfl) ?_
  intro a hF
  have hH := Hp.start w0 hn
  refine wp_seqE (by kernel_rfl) ?_
  refine wp_regE (by kernel_rfl) ?_
  refine seg [.al] [0, 2] (fun K => ∀ g1, K [⟨0, none, .slice A n c⟩, ⟨2, none, .pointer (some ⟨g1, 0, none⟩)⟩] [.box g1 23 [.int .i64 0, .int .i64 0, .int .i64 0, .int .i64 0, .bool false]]) (fun K => by kernel_rfl) hF hH ?_
  intro g1
  clear hF hH; intro a w hF hH
  refine wl_end (by kernel_rfl) ?_
  refine then_n ?_
  refine wp_seqE (by kernel_rfl) ?_
  refine drawE (n := 18) (by kernel_rfl) (by kernel_rfl) (by kernel_rfl) (by kernel_rfl) [] [2] (.take 0 (.p) (.take 1 (.ia (.n 0) 0) (.take 2 (.lv (.n 0) 0 0) (.take 3 (.pv (.int .i64 ((bs.getD 0 0).toNat : Int))) (.take 4 (.p) (.take 5 (.ia (.n 0) 1) (.take 6 (.lv (.n 0) 1 0) (.take 7 (.pv (.int .i64 ((bs.getD 1 0).toNat : Int))) (.take 8 (.p) (.take 9 (.ia (.n 0) 2) (.take 10 (.lv (.n 0) 2 0) (.take 11 (.pv (.int .i64 ((bs.getD 2 0).toNat : Int))) (.take 12 (.p) (.take 13 (.ia (.n 0) 3) (.take 14 (.lv (.n 0) 3 0) (.take 15 (.pv (.int .i64 ((bs.getD 3 0).toNat : Int))) (.take 16 (.p) (.eff [(17, .st 0)] (fun _ => (.done [0])))))))))))))))))))) (fun l rs => l = [⟨2, none, .pointer (some ⟨g1, 0, none⟩)⟩] ∧ rs = [.box g1 23 [.int .i64 ((bs.getD 0 0).toNat : Int), .int .i64 ((bs.getD 1 0).toNat : Int), .int .i64 ((bs.getD 2 0).toNat : Int), .int .i64 ((bs.getD 3 0).toNat : Int), .bool false]]) (fun K => (((A) : Option Addr) = A ∧ (n : Nat) = n ∧ (1 : Nat) = 1 ∧ (0 : Int) = ((0 : Nat) : Int) ∧ 0 < n) ∧ ((A.getD nilA).add (0 * 1) = ((A.getD nilA).add (0 * 1)).add 0 ∧ 0 < n) ∧ (Value.int .i64 (IntKind.wrap .i64 ((bs.getD 0 0).toNat : Int)) = .int .i64 ((bs.getD 0 0).toNat : Int)) ∧ (((A) : Option Addr) = A ∧ (n : Nat) = n ∧ (1 : Nat) = 1 ∧ (1 : Int) = ((1 : Nat) : Int) ∧ 1 < n) ∧ ((A.getD nilA).add (1 * 1) = ((A.getD nilA).add (1 * 1)).add 0 ∧ 1 < n) ∧ (Value.int .i64 (IntKind.wrap .i64 ((bs.getD 1 0).toNat : Int)) = .int .i64 ((bs.getD 1 0).toNat : Int)) ∧ (((A) : Option Addr) = A ∧ (n : Nat) = n ∧ (1 : Nat) = 1 ∧ (2 : Int) = ((2 : Nat) : Int) ∧ 2 < n) ∧ ((A.getD nilA).add (2 * 1) = ((A.getD nilA).add (2 * 1)).add 0 ∧ 2 < n) ∧ (Value.int .i64 (IntKind.wrap .i64 ((bs.getD 2 0).toNat : Int)) = .int .i64 ((bs.getD 2 0).toNat : Int)) ∧ (((A) : Option Addr) = A ∧ (n : Nat) = n ∧ (1 : Nat) = 1 ∧ (3 : Int) = ((3 : Nat) : Int) ∧ 3 < n) ∧ ((A.getD nilA).add (3 * 1) = ((A.getD nilA).add (3 * 1)).add 0 ∧ 3 < n) ∧ (Value.int .i64 (IntKind.wrap .i64 ((bs.getD 3 0).toNat : Int)) = .int .i64 ((bs.getD 3 0).toNat : Int)) ∧ (((g1 : Nat) = g1 ∧ (none : Option Nat) = none) ∧ (([] : List Res) = []) ∧ K [⟨2, none, .pointer (some ⟨g1, 0, none⟩)⟩] [.box g1 23 [.int .i64 ((bs.getD 0 0).toNat : Int), .int .i64 ((bs.getD 1 0).toNat : Int), .int .i64 ((bs.getD 2 0).toNat : Int), .int .i64 ((bs.getD 3 0).toNat : Int), .bool false]])) (fun K => by kernel_rfl) hF hH (⟨⟨rfl, rfl, rfl, by omega, by omega⟩, ⟨⟨rfl, by omega⟩, ⟨wr_i64 (by omega), ⟨⟨rfl, rfl, rfl, by omega, by omega⟩, ⟨⟨rfl, by omega⟩, ⟨wr_i64 (by omega), ⟨⟨rfl, rfl, rfl, by omega, by omega⟩, ⟨⟨rfl, by omega⟩, ⟨wr_i64 (by omega), ⟨⟨rfl, rfl, rfl, by omega, by omega⟩, ⟨⟨rfl, by omega⟩, ⟨wr_i64 (by omega), (⟨⟨rfl, rfl⟩, ⟨rfl, ⟨rfl, rfl⟩⟩⟩)⟩⟩⟩⟩⟩⟩⟩⟩⟩⟩⟩⟩) ?_
  clear hF hH; rintro l rs a w ⟨rfl, rfl⟩ hF hH
  refine then_n ?_
  refine wp_retE (by kernel_rfl) ?_
  refine retE (vs := [.agg #[.int .i64 ((bs.getD 0 0).toNat : Int), .int .i64 ((bs.getD 1 0).toNat : Int), .int .i64 ((bs.getD 2 0).toNat : Int), .int .i64 ((bs.getD 3 0).toNat : Int), .bool false]]) (p := ((g1 : Nat) = g1 ∧ (none : Option Nat) = none) ∧ True) (v := .agg #[.int .i64 ((bs.getD 0 0).toNat : Int), .int .i64 ((bs.getD 1 0).toNat : Int), .int .i64 ((bs.getD 2 0).toNat : Int), .int .i64 ((bs.getD 3 0).toNat : Int), .bool false]) [0] (by kernel_rfl) ⟨⟨rfl, rfl⟩, trivial⟩ (by kernel_rfl) hF hH ?_
  exact fin0 rfl hH

theorem get_c (A : Option Addr) (n c : Nat) (bs : List UInt8) (hl : bs.length = n) : CallOk Try.prog 21 [.slice A n c] [.view A n c 1 (byE bs)] (U := Option Addr × Nat) (fun u => .tuple #[.agg #[.int .i64 ((getRB bs).g), .int .i64 ((getRB bs).n), .int .u8 ((getRB bs).e), .int .u8 ((getRB bs).t), .int .i64 ((getRB bs).i.h), .int .i64 ((getRB bs).i.m), .int .i64 ((getRB bs).i.s), .int .i64 ((getRB bs).i.f), .bool ((getRB bs).i.d), .int .i64 ((getRB bs).o.h), .int .i64 ((getRB bs).o.m), .int .i64 ((getRB bs).o.s), .int .i64 ((getRB bs).o.f), .bool ((getRB bs).o.d), .int .i64 ((getRB bs).r), .int .u8 ((getRB bs).a), .bool ((getRB bs).c), .slice u.1 ((getRT bs).length) u.2], .int .i64 (getE bs)]) (fun u => [.view u.1 (getRT bs).length u.2 1 (byE (getRT bs))]) (fun _ => True) := by
  intro w0 hn
  have hnc : n ≤ c := (hn (.view A n c 1 (byE bs)) (by simp)).1.1
  have hcm : c ≤ 9223372036854775807 := (hn (.view A n c 1 (byE bs)) (by simp)).1.2.1
  have hb0 := at8_bd bs 0
  have hb1 := at8_bd bs 1
  have hb2 := at8_bd bs 2
  have hb3 := at8_bd bs 3
  have hb4 := at8_bd bs 4
  have hb5 := at8_bd bs 5
  have hb6 := at8_bd bs 6
  have hb7 := at8_bd bs 7
  have hb8 := at8_bd bs 8
  have hb9 := at8_bd bs 9
  have hb10 := at8_bd bs 10
  have hb11 := at8_bd bs 11
  have hb12 := at8_bd bs 12
  have hb13 := at8_bd bs 13
  have hb14 := at8_bd bs 14
  have hb15 := at8_bd bs 15
  refine enterE (N := 78) Try.func21 (by kernel_rfl) (by kernel_rfl) (by kernel_rfl) ?_
  intro a hF
  have hH := Hp.start w0 hn
  refine wp_seqE (by kernel_rfl) ?_
  refine wp_regE (by kernel_rfl) ?_
  refine seg [.al, .p] [0, 2] (fun K => ∀ g1, K [⟨0, none, .slice A n c⟩, ⟨2, none, .pointer (some ⟨g1, 0, none⟩)⟩] [.box g1 27 [.int .i64 0, .int .i64 0, .int .u8 0, .int .u8 0, .int .i64 0, .int .i64 0, .int .i64 0, .int .i64 0, .bool false, .int .i64 0, .int .i64 0, .int .i64 0, .int .i64 0, .bool false, .int .i64 0, .int .u8 0, .bool false, .slice none 0 0]]) (fun K => by kernel_rfl) hF hH ?_
  intro g1
  clear hF hH; intro a w hF hH
  refine wl_end (by kernel_rfl) ?_
  refine then_n ?_
  refine wp_seqE (by kernel_rfl) ?_
  refine wp_seqE (by kernel_rfl) ?_
  refine wp_regE (by kernel_rfl) ?_
  refine seg [.p, .p, .p] [0, 2, 12] (fun K => K [⟨0, none, .slice A n c⟩, ⟨2, none, .pointer (some ⟨g1, 0, none⟩)⟩, ⟨12, none, .bool (((n : Nat) : Int) != 128)⟩] [.box g1 27 [.int .i64 0, .int .i64 0, .int .u8 0, .int .u8 0, .int .i64 0, .int .i64 0, .int .i64 0, .int .i64 0, .bool false, .int .i64 0, .int .i64 0, .int .i64 0, .int .i64 0, .bool false, .int .i64 0, .int .u8 0, .bool false, .slice none 0 0]]) (fun K => by kernel_rfl) hF hH ?_
  clear hF hH; intro a w hF hH
  refine wl_end (by kernel_rfl) ?_
  refine then_n ?_
  refine wp_condE (b := ((n : Nat) : Int) != 128) (by kernel_rfl) (by kernel_rfl) hF (fun hb1 => ?_) (fun hb1 => ?_)
  · skip
    have hb1p := ne_of_bne hb1
    refine wp_seqE (by kernel_rfl) ?_
    refine wp_regE (by kernel_rfl) ?_
    refine seg [.p, .st 0, .p] [2, 3] (fun K => ((g1 : Nat) = g1 ∧ (none : Option Nat) = none) ∧ K [⟨2, none, .pointer (some ⟨g1, 0, none⟩)⟩, ⟨3, none, .int .i64 4⟩] [.box g1 27 [.int .i64 0, .int .i64 0, .int .u8 0, .int .u8 0, .int .i64 0, .int .i64 0, .int .i64 0, .int .i64 0, .bool false, .int .i64 0, .int .i64 0, .int .i64 0, .int .i64 0, .bool false, .int .i64 0, .int .u8 0, .bool false, .slice none 0 0]]) (fun K => by kernel_rfl) hF hH ?_
    refine ⟨⟨rfl, rfl⟩, ?_⟩
    clear hF hH; intro a w hF hH
    refine wl_end (by kernel_rfl) ?_
    refine then_n ?_
    refine wp_retE (by kernel_rfl) ?_
    refine then_ret ?_
    refine retE (vs := [.agg #[.int .i64 0, .int .i64 0, .int .u8 0, .int .u8 0, .int .i64 0, .int .i64 0, .int .i64 0, .int .i64 0, .bool false, .int .i64 0, .int .i64 0, .int .i64 0, .int .i64 0, .bool false, .int .i64 0, .int .u8 0, .bool false, .slice none 0 0], .int .i64 4]) (p := ((g1 : Nat) = g1 ∧ (none : Option Nat) = none) ∧ True) (v := .tuple #[.agg #[.int .i64 0, .int .i64 0, .int .u8 0, .int .u8 0, .int .i64 0, .int .i64 0, .int .i64 0, .int .i64 0, .bool false, .int .i64 0, .int .i64 0, .int .i64 0, .int .i64 0, .bool false, .int .i64 0, .int .u8 0, .bool false, .slice none 0 0], .int .i64 4]) [0] (by kernel_rfl) ⟨⟨rfl, rfl⟩, trivial⟩ (by kernel_rfl) hF hH ?_
    subst hl
    exact get_fin0 hH bs (by simp only [getE, hb1]; try rfl)
  · skip
    have hb1p := eq_of_bne_false hb1
    refine wp_skipE (by kernel_rfl) ?_
    refine then_n ?_
    refine wp_seqE (by kernel_rfl) ?_
    have hH := hH.cutBN (k := 0) rfl 5 n (by omega) (Nat.le_refl _)
    rw [show (bs.drop 5).take (n - 5) = bs.drop 5 from List.take_of_length_le (by rw [List.length_drop]; omega)] at hH
    have hH := hH.cutBN (k := 0) rfl 9 n (by omega) (Nat.le_refl _)
    rw [show (bs.drop 9).take (n - 9) = bs.drop 9 from List.take_of_length_le (by rw [List.length_drop]; omega)] at hH
    have hH := hH.cutBN (k := 0) rfl 16 n (by omega) (Nat.le_refl _)
    rw [show (bs.drop 16).take (n - 16) = bs.drop 16 from List.take_of_length_le (by rw [List.length_drop]; omega)] at hH
    refine drawE (n := 40) (by kernel_rfl) (by kernel_rfl) (by kernel_rfl) (by kernel_rfl) [0] [0, 2, 4] (.take 0 (.p) (.take 1 (.ia (.n 0) 0) (.take 2 (.lv (.n 0) 0 0) (.take 3 (.pv (.int .i64 ((bs.getD 0 0).toNat : Int))) (.take 4 (.p) (.take 5 (.ia (.n 0) 1) (.take 6 (.lv (.n 0) 1 0) (.take 7 (.pv (.int .i64 ((bs.getD 1 0).toNat : Int))) (.take 8 (.p) (.take 9 (.ia (.n 0) 2) (.take 10 (.lv (.n 0) 2 0) (.take 11 (.pv (.int .i64 ((bs.getD 2 0).toNat : Int))) (.take 12 (.pv (.int .i64 (((bs.getD 2 0).toNat : Int) * 256))) (.take 13 (.p) (.take 14 (.p) (.take 15 (.ia (.n 0) 3) (.take 16 (.lv (.n 0) 3 0) (.take 17 (.p) (.take 18 (.ia (.n 0) 4) (.take 19 (.lv (.n 0) 4 0) (.take 20 (.p) (.take 21 (.sl 5 n) (.take 23 (.p) (.take 24 (.sl 9 n) (.take 26 (.p) (.take 27 (.ia (.n 0) 13) (.take 28 (.lv (.n 0) 13 0) (.take 29 (.pv (.int .i64 ((bs.getD 13 0).toNat : Int))) (.take 30 (.p) (.take 31 (.ia (.n 0) 14) (.take 32 (.lv (.n 0) 14 0) (.take 33 (.p) (.take 34 (.ia (.n 0) 15) (.take 35 (.lv (.n 0) 15 0) (.take 36 (.p) (.eff [(22, .cl (U := Unit) [.n 1] (fun _ => .agg #[.int .i64 ((lblOf (bs.drop 5)).h), .int .i64 ((lblOf (bs.drop 5)).m), .int .i64 ((lblOf (bs.drop 5)).s), .int .i64 ((lblOf (bs.drop 5)).f), .bool ((lblOf (bs.drop 5)).d)]) (fun _ => []) (fun _ => True)), (38, .al)] (fun i => (bif Nat.beq i 22 then .eff [(25, .cl (U := Unit) [.n 2] (fun _ => .agg #[.int .i64 ((lblOf (bs.drop 9)).h), .int .i64 ((lblOf (bs.drop 9)).m), .int .i64 ((lblOf (bs.drop 9)).s), .int .i64 ((lblOf (bs.drop 9)).f), .bool ((lblOf (bs.drop 9)).d)]) (fun _ => []) (fun _ => True)), (38, .al)] (fun i => (bif Nat.beq i 25 then .take 37 (.p) (.eff [(38, .al)] (fun _ => .eff [(39, .st 1)] (fun _ => (.done [0, 1])))) else .eff [(25, .cl (U := Unit) [.n 2] (fun _ => .agg #[.int .i64 ((lblOf (bs.drop 9)).h), .int .i64 ((lblOf (bs.drop 9)).m), .int .i64 ((lblOf (bs.drop 9)).s), .int .i64 ((lblOf (bs.drop 9)).f), .bool ((lblOf (bs.drop 9)).d)]) (fun _ => []) (fun _ => True))] (fun _ => .take 37 (.p) (.eff [(39, .st 1)] (fun _ => (.done [0, 1])))))) else .eff [(22, .cl (U := Unit) [.n 1] (fun _ => .agg #[.int .i64 ((lblOf (bs.drop 5)).h), .int .i64 ((lblOf (bs.drop 5)).m), .int .i64 ((lblOf (bs.drop 5)).s), .int .i64 ((lblOf (bs.drop 5)).f), .bool ((lblOf (bs.drop 5)).d)]) (fun _ => []) (fun _ => True))] (fun _ => .eff [(25, .cl (U := Unit) [.n 2] (fun _ => .agg #[.int .i64 ((lblOf (bs.drop 9)).h), .int .i64 ((lblOf (bs.drop 9)).m), .int .i64 ((lblOf (bs.drop 9)).s), .int .i64 ((lblOf (bs.drop 9)).f), .bool ((lblOf (bs.drop 9)).d)]) (fun _ => []) (fun _ => True))] (fun _ => .take 37 (.p) (.eff [(39, .st 1)] (fun _ => (.done [0, 1]))))))))))))))))))))))))))))))))))))))))))) (fun l rs => ∃ (u1 : Unit), ∃ (u2 : Unit), ∃ (g2 : Nat), l = [⟨0, none, .slice A n c⟩, ⟨2, none, .pointer (some ⟨g1, 0, none⟩)⟩, ⟨4, none, .pointer (some ⟨g2, 0, none⟩)⟩] ∧ rs = [.box g1 27 [.int .i64 0, .int .i64 0, .int .u8 0, .int .u8 0, .int .i64 0, .int .i64 0, .int .i64 0, .int .i64 0, .bool false, .int .i64 0, .int .i64 0, .int .i64 0, .int .i64 0, .bool false, .int .i64 0, .int .u8 0, .bool false, .slice none 0 0], .box g2 27 [.int .i64 ((bs.getD 0 0).toNat : Int), .int .i64 (bits .or .i64 ((bs.getD 1 0).toNat : Int) (((bs.getD 2 0).toNat : Int) * 256)), .int .u8 ((bs.getD 3 0).toNat : Int), .int .u8 ((bs.getD 4 0).toNat : Int), .int .i64 ((lblOf (bs.drop 5)).h), .int .i64 ((lblOf (bs.drop 5)).m), .int .i64 ((lblOf (bs.drop 5)).s), .int .i64 ((lblOf (bs.drop 5)).f), .bool ((lblOf (bs.drop 5)).d), .int .i64 ((lblOf (bs.drop 9)).h), .int .i64 ((lblOf (bs.drop 9)).m), .int .i64 ((lblOf (bs.drop 9)).s), .int .i64 ((lblOf (bs.drop 9)).f), .bool ((lblOf (bs.drop 9)).d), .int .i64 ((bs.getD 13 0).toNat : Int), .int .u8 ((bs.getD 14 0).toNat : Int), .bool (((bs.getD 15 0).toNat : Int) == 1), .slice none 0 0]]) (fun K => (((A) : Option Addr) = A ∧ (n : Nat) = n ∧ (1 : Nat) = 1 ∧ (0 : Int) = ((0 : Nat) : Int) ∧ 0 < n) ∧ ((A.getD nilA).add (0 * 1) = ((A.getD nilA).add (0 * 1)).add 0 ∧ 0 < n) ∧ (Value.int .i64 (IntKind.wrap .i64 ((bs.getD 0 0).toNat : Int)) = .int .i64 ((bs.getD 0 0).toNat : Int)) ∧ (((A) : Option Addr) = A ∧ (n : Nat) = n ∧ (1 : Nat) = 1 ∧ (1 : Int) = ((1 : Nat) : Int) ∧ 1 < n) ∧ ((A.getD nilA).add (1 * 1) = ((A.getD nilA).add (1 * 1)).add 0 ∧ 1 < n) ∧ (Value.int .i64 (IntKind.wrap .i64 ((bs.getD 1 0).toNat : Int)) = .int .i64 ((bs.getD 1 0).toNat : Int)) ∧ (((A) : Option Addr) = A ∧ (n : Nat) = n ∧ (1 : Nat) = 1 ∧ (2 : Int) = ((2 : Nat) : Int) ∧ 2 < n) ∧ ((A.getD nilA).add (2 * 1) = ((A.getD nilA).add (2 * 1)).add 0 ∧ 2 < n) ∧ (Value.int .i64 (IntKind.wrap .i64 ((bs.getD 2 0).toNat : Int)) = .int .i64 ((bs.getD 2 0).toNat : Int)) ∧ (Value.int .i64 (IntKind.wrap .i64 (((bs.getD 2 0).toNat : Int) * 2 ^ 8)) = .int .i64 (((bs.getD 2 0).toNat : Int) * 256)) ∧ (((A) : Option Addr) = A ∧ (n : Nat) = n ∧ (1 : Nat) = 1 ∧ (3 : Int) = ((3 : Nat) : Int) ∧ 3 < n) ∧ ((A.getD nilA).add (3 * 1) = ((A.getD nilA).add (3 * 1)).add 0 ∧ 3 < n) ∧ (((A) : Option Addr) = A ∧ (n : Nat) = n ∧ (1 : Nat) = 1 ∧ (4 : Int) = ((4 : Nat) : Int) ∧ 4 < n) ∧ ((A.getD nilA).add (4 * 1) = ((A.getD nilA).add (4 * 1)).add 0 ∧ 4 < n) ∧ ((5 : Int) = ((5 : Nat) : Int) ∧ (n : Nat) = n ∧ 5 ≤ n ∧ n ≤ c) ∧ ((9 : Int) = ((9 : Nat) : Int) ∧ (n : Nat) = n ∧ 9 ≤ n ∧ n ≤ c) ∧ (((A) : Option Addr) = A ∧ (n : Nat) = n ∧ (1 : Nat) = 1 ∧ (13 : Int) = ((13 : Nat) : Int) ∧ 13 < n) ∧ ((A.getD nilA).add (13 * 1) = ((A.getD nilA).add (13 * 1)).add 0 ∧ 13 < n) ∧ (Value.int .i64 (IntKind.wrap .i64 ((bs.getD 13 0).toNat : Int)) = .int .i64 ((bs.getD 13 0).toNat : Int)) ∧ (((A) : Option Addr) = A ∧ (n : Nat) = n ∧ (1 : Nat) = 1 ∧ (14 : Int) = ((14 : Nat) : Int) ∧ 14 < n) ∧ ((A.getD nilA).add (14 * 1) = ((A.getD nilA).add (14 * 1)).add 0 ∧ 14 < n) ∧ (((A) : Option Addr) = A ∧ (n : Nat) = n ∧ (1 : Nat) = 1 ∧ (15 : Int) = ((15 : Nat) : Int) ∧ 15 < n) ∧ ((A.getD nilA).add (15 * 1) = ((A.getD nilA).add (15 * 1)).add 0 ∧ 15 < n) ∧ (CallOk Try.prog 33 [.slice (cutA A c 5 1) (n - 5) (c - 5)] [.view (cutA A c 5 1) (n - 5) (c - 5) 1 (byE (bs.drop 5))] (U := Unit) (fun _ => .agg #[.int .i64 ((lblOf (bs.drop 5)).h), .int .i64 ((lblOf (bs.drop 5)).m), .int .i64 ((lblOf (bs.drop 5)).s), .int .i64 ((lblOf (bs.drop 5)).f), .bool ((lblOf (bs.drop 5)).d)]) (fun _ => []) (fun _ => True) ∧ ∀ u1 : Unit, (fun _ => True) u1 → (([.box g1 27 [.int .i64 0, .int .i64 0, .int .u8 0, .int .u8 0, .int .i64 0, .int .i64 0, .int .i64 0, .int .i64 0, .bool false, .int .i64 0, .int .i64 0, .int .i64 0, .int .i64 0, .bool false, .int .i64 0, .int .u8 0, .bool false, .slice none 0 0]] : List Res) = [.box g1 27 [.int .i64 0, .int .i64 0, .int .u8 0, .int .u8 0, .int .i64 0, .int .i64 0, .int .i64 0, .int .i64 0, .bool false, .int .i64 0, .int .i64 0, .int .i64 0, .int .i64 0, .bool false, .int .i64 0, .int .u8 0, .bool false, .slice none 0 0]]) ∧ (CallOk Try.prog 33 [.slice (cutA A c 9 1) (n - 9) (c - 9)] [.view (cutA A c 9 1) (n - 9) (c - 9) 1 (byE (bs.drop 9))] (U := Unit) (fun _ => .agg #[.int .i64 ((lblOf (bs.drop 9)).h), .int .i64 ((lblOf (bs.drop 9)).m), .int .i64 ((lblOf (bs.drop 9)).s), .int .i64 ((lblOf (bs.drop 9)).f), .bool ((lblOf (bs.drop 9)).d)]) (fun _ => []) (fun _ => True) ∧ ∀ u2 : Unit, (fun _ => True) u2 → (([.box g1 27 [.int .i64 0, .int .i64 0, .int .u8 0, .int .u8 0, .int .i64 0, .int .i64 0, .int .i64 0, .int .i64 0, .bool false, .int .i64 0, .int .i64 0, .int .i64 0, .int .i64 0, .bool false, .int .i64 0, .int .u8 0, .bool false, .slice none 0 0]] : List Res) = [.box g1 27 [.int .i64 0, .int .i64 0, .int .u8 0, .int .u8 0, .int .i64 0, .int .i64 0, .int .i64 0, .int .i64 0, .bool false, .int .i64 0, .int .i64 0, .int .i64 0, .int .i64 0, .bool false, .int .i64 0, .int .u8 0, .bool false, .slice none 0 0]]) ∧ (∀ g2, (([.box g1 27 [.int .i64 0, .int .i64 0, .int .u8 0, .int .u8 0, .int .i64 0, .int .i64 0, .int .i64 0, .int .i64 0, .bool false, .int .i64 0, .int .i64 0, .int .i64 0, .int .i64 0, .bool false, .int .i64 0, .int .u8 0, .bool false, .slice none 0 0]] : List Res) = [.box g1 27 [.int .i64 0, .int .i64 0, .int .u8 0, .int .u8 0, .int .i64 0, .int .i64 0, .int .i64 0, .int .i64 0, .bool false, .int .i64 0, .int .i64 0, .int .i64 0, .int .i64 0, .bool false, .int .i64 0, .int .u8 0, .bool false, .slice none 0 0]]) ∧ (((g2 : Nat) = g2 ∧ (none : Option Nat) = none) ∧ (([.box g1 27 [.int .i64 0, .int .i64 0, .int .u8 0, .int .u8 0, .int .i64 0, .int .i64 0, .int .i64 0, .int .i64 0, .bool false, .int .i64 0, .int .i64 0, .int .i64 0, .int .i64 0, .bool false, .int .i64 0, .int .u8 0, .bool false, .slice none 0 0]] : List Res) = [.box g1 27 [.int .i64 0, .int .i64 0, .int .u8 0, .int .u8 0, .int .i64 0, .int .i64 0, .int .i64 0, .int .i64 0, .bool false, .int .i64 0, .int .i64 0, .int .i64 0, .int .i64 0, .bool false, .int .i64 0, .int .u8 0, .bool false, .slice none 0 0]]) ∧ K [⟨0, none, .slice A n c⟩, ⟨2, none, .pointer (some ⟨g1, 0, none⟩)⟩, ⟨4, none, .pointer (some ⟨g2, 0, none⟩)⟩] [.box g1 27 [.int .i64 0, .int .i64 0, .int .u8 0, .int .u8 0, .int .i64 0, .int .i64 0, .int .i64 0, .int .i64 0, .bool false, .int .i64 0, .int .i64 0, .int .i64 0, .int .i64 0, .bool false, .int .i64 0, .int .u8 0, .bool false, .slice none 0 0], .box g2 27 [.int .i64 ((bs.getD 0 0).toNat : Int), .int .i64 (bits .or .i64 ((bs.getD 1 0).toNat : Int) (((bs.getD 2 0).toNat : Int) * 256)), .int .u8 ((bs.getD 3 0).toNat : Int), .int .u8 ((bs.getD 4 0).toNat : Int), .int .i64 ((lblOf (bs.drop 5)).h), .int .i64 ((lblOf (bs.drop 5)).m), .int .i64 ((lblOf (bs.drop 5)).s), .int .i64 ((lblOf (bs.drop 5)).f), .bool ((lblOf (bs.drop 5)).d), .int .i64 ((lblOf (bs.drop 9)).h), .int .i64 ((lblOf (bs.drop 9)).m), .int .i64 ((lblOf (bs.drop 9)).s), .int .i64 ((lblOf (bs.drop 9)).f), .bool ((lblOf (bs.drop 9)).d), .int .i64 ((bs.getD 13 0).toNat : Int), .int .u8 ((bs.getD 14 0).toNat : Int), .bool (((bs.getD 15 0).toNat : Int) == 1), .slice none 0 0]]))) ∧ (∀ g3, (([.box g1 27 [.int .i64 0, .int .i64 0, .int .u8 0, .int .u8 0, .int .i64 0, .int .i64 0, .int .i64 0, .int .i64 0, .bool false, .int .i64 0, .int .i64 0, .int .i64 0, .int .i64 0, .bool false, .int .i64 0, .int .u8 0, .bool false, .slice none 0 0]] : List Res) = [.box g1 27 [.int .i64 0, .int .i64 0, .int .u8 0, .int .u8 0, .int .i64 0, .int .i64 0, .int .i64 0, .int .i64 0, .bool false, .int .i64 0, .int .i64 0, .int .i64 0, .int .i64 0, .bool false, .int .i64 0, .int .u8 0, .bool false, .slice none 0 0]]) ∧ (CallOk Try.prog 33 [.slice (cutA A c 9 1) (n - 9) (c - 9)] [.view (cutA A c 9 1) (n - 9) (c - 9) 1 (byE (bs.drop 9))] (U := Unit) (fun _ => .agg #[.int .i64 ((lblOf (bs.drop 9)).h), .int .i64 ((lblOf (bs.drop 9)).m), .int .i64 ((lblOf (bs.drop 9)).s), .int .i64 ((lblOf (bs.drop 9)).f), .bool ((lblOf (bs.drop 9)).d)]) (fun _ => []) (fun _ => True) ∧ ∀ u3 : Unit, (fun _ => True) u3 → (([.box g1 27 [.int .i64 0, .int .i64 0, .int .u8 0, .int .u8 0, .int .i64 0, .int .i64 0, .int .i64 0, .int .i64 0, .bool false, .int .i64 0, .int .i64 0, .int .i64 0, .int .i64 0, .bool false, .int .i64 0, .int .u8 0, .bool false, .slice none 0 0]] : List Res) = [.box g1 27 [.int .i64 0, .int .i64 0, .int .u8 0, .int .u8 0, .int .i64 0, .int .i64 0, .int .i64 0, .int .i64 0, .bool false, .int .i64 0, .int .i64 0, .int .i64 0, .int .i64 0, .bool false, .int .i64 0, .int .u8 0, .bool false, .slice none 0 0]]) ∧ (((g3 : Nat) = g3 ∧ (none : Option Nat) = none) ∧ (([.box g1 27 [.int .i64 0, .int .i64 0, .int .u8 0, .int .u8 0, .int .i64 0, .int .i64 0, .int .i64 0, .int .i64 0, .bool false, .int .i64 0, .int .i64 0, .int .i64 0, .int .i64 0, .bool false, .int .i64 0, .int .u8 0, .bool false, .slice none 0 0]] : List Res) = [.box g1 27 [.int .i64 0, .int .i64 0, .int .u8 0, .int .u8 0, .int .i64 0, .int .i64 0, .int .i64 0, .int .i64 0, .bool false, .int .i64 0, .int .i64 0, .int .i64 0, .int .i64 0, .bool false, .int .i64 0, .int .u8 0, .bool false, .slice none 0 0]]) ∧ K [⟨0, none, .slice A n c⟩, ⟨2, none, .pointer (some ⟨g1, 0, none⟩)⟩, ⟨4, none, .pointer (some ⟨g3, 0, none⟩)⟩] [.box g1 27 [.int .i64 0, .int .i64 0, .int .u8 0, .int .u8 0, .int .i64 0, .int .i64 0, .int .i64 0, .int .i64 0, .bool false, .int .i64 0, .int .i64 0, .int .i64 0, .int .i64 0, .bool false, .int .i64 0, .int .u8 0, .bool false, .slice none 0 0], .box g3 27 [.int .i64 ((bs.getD 0 0).toNat : Int), .int .i64 (bits .or .i64 ((bs.getD 1 0).toNat : Int) (((bs.getD 2 0).toNat : Int) * 256)), .int .u8 ((bs.getD 3 0).toNat : Int), .int .u8 ((bs.getD 4 0).toNat : Int), .int .i64 ((lblOf (bs.drop 5)).h), .int .i64 ((lblOf (bs.drop 5)).m), .int .i64 ((lblOf (bs.drop 5)).s), .int .i64 ((lblOf (bs.drop 5)).f), .bool ((lblOf (bs.drop 5)).d), .int .i64 ((lblOf (bs.drop 9)).h), .int .i64 ((lblOf (bs.drop 9)).m), .int .i64 ((lblOf (bs.drop 9)).s), .int .i64 ((lblOf (bs.drop 9)).f), .bool ((lblOf (bs.drop 9)).d), .int .i64 ((bs.getD 13 0).toNat : Int), .int .u8 ((bs.getD 14 0).toNat : Int), .bool (((bs.getD 15 0).toNat : Int) == 1), .slice none 0 0]])))) ∧ (∀ g4, (([.box g1 27 [.int .i64 0, .int .i64 0, .int .u8 0, .int .u8 0, .int .i64 0, .int .i64 0, .int .i64 0, .int .i64 0, .bool false, .int .i64 0, .int .i64 0, .int .i64 0, .int .i64 0, .bool false, .int .i64 0, .int .u8 0, .bool false, .slice none 0 0]] : List Res) = [.box g1 27 [.int .i64 0, .int .i64 0, .int .u8 0, .int .u8 0, .int .i64 0, .int .i64 0, .int .i64 0, .int .i64 0, .bool false, .int .i64 0, .int .i64 0, .int .i64 0, .int .i64 0, .bool false, .int .i64 0, .int .u8 0, .bool false, .slice none 0 0]]) ∧ (CallOk Try.prog 33 [.slice (cutA A c 5 1) (n - 5) (c - 5)] [.view (cutA A c 5 1) (n - 5) (c - 5) 1 (byE (bs.drop 5))] (U := Unit) (fun _ => .agg #[.int .i64 ((lblOf (bs.drop 5)).h), .int .i64 ((lblOf (bs.drop 5)).m), .int .i64 ((lblOf (bs.drop 5)).s), .int .i64 ((lblOf (bs.drop 5)).f), .bool ((lblOf (bs.drop 5)).d)]) (fun _ => []) (fun _ => True) ∧ ∀ u4 : Unit, (fun _ => True) u4 → (([.box g1 27 [.int .i64 0, .int .i64 0, .int .u8 0, .int .u8 0, .int .i64 0, .int .i64 0, .int .i64 0, .int .i64 0, .bool false, .int .i64 0, .int .i64 0, .int .i64 0, .int .i64 0, .bool false, .int .i64 0, .int .u8 0, .bool false, .slice none 0 0]] : List Res) = [.box g1 27 [.int .i64 0, .int .i64 0, .int .u8 0, .int .u8 0, .int .i64 0, .int .i64 0, .int .i64 0, .int .i64 0, .bool false, .int .i64 0, .int .i64 0, .int .i64 0, .int .i64 0, .bool false, .int .i64 0, .int .u8 0, .bool false, .slice none 0 0]]) ∧ (CallOk Try.prog 33 [.slice (cutA A c 9 1) (n - 9) (c - 9)] [.view (cutA A c 9 1) (n - 9) (c - 9) 1 (byE (bs.drop 9))] (U := Unit) (fun _ => .agg #[.int .i64 ((lblOf (bs.drop 9)).h), .int .i64 ((lblOf (bs.drop 9)).m), .int .i64 ((lblOf (bs.drop 9)).s), .int .i64 ((lblOf (bs.drop 9)).f), .bool ((lblOf (bs.drop 9)).d)]) (fun _ => []) (fun _ => True) ∧ ∀ u5 : Unit, (fun _ => True) u5 → (([.box g1 27 [.int .i64 0, .int .i64 0, .int .u8 0, .int .u8 0, .int .i64 0, .int .i64 0, .int .i64 0, .int .i64 0, .bool false, .int .i64 0, .int .i64 0, .int .i64 0, .int .i64 0, .bool false, .int .i64 0, .int .u8 0, .bool false, .slice none 0 0]] : List Res) = [.box g1 27 [.int .i64 0, .int .i64 0, .int .u8 0, .int .u8 0, .int .i64 0, .int .i64 0, .int .i64 0, .int .i64 0, .bool false, .int .i64 0, .int .i64 0, .int .i64 0, .int .i64 0, .bool false, .int .i64 0, .int .u8 0, .bool false, .slice none 0 0]]) ∧ (((g4 : Nat) = g4 ∧ (none : Option Nat) = none) ∧ (([.box g1 27 [.int .i64 0, .int .i64 0, .int .u8 0, .int .u8 0, .int .i64 0, .int .i64 0, .int .i64 0, .int .i64 0, .bool false, .int .i64 0, .int .i64 0, .int .i64 0, .int .i64 0, .bool false, .int .i64 0, .int .u8 0, .bool false, .slice none 0 0]] : List Res) = [.box g1 27 [.int .i64 0, .int .i64 0, .int .u8 0, .int .u8 0, .int .i64 0, .int .i64 0, .int .i64 0, .int .i64 0, .bool false, .int .i64 0, .int .i64 0, .int .i64 0, .int .i64 0, .bool false, .int .i64 0, .int .u8 0, .bool false, .slice none 0 0]]) ∧ K [⟨0, none, .slice A n c⟩, ⟨2, none, .pointer (some ⟨g1, 0, none⟩)⟩, ⟨4, none, .pointer (some ⟨g4, 0, none⟩)⟩] [.box g1 27 [.int .i64 0, .int .i64 0, .int .u8 0, .int .u8 0, .int .i64 0, .int .i64 0, .int .i64 0, .int .i64 0, .bool false, .int .i64 0, .int .i64 0, .int .i64 0, .int .i64 0, .bool false, .int .i64 0, .int .u8 0, .bool false, .slice none 0 0], .box g4 27 [.int .i64 ((bs.getD 0 0).toNat : Int), .int .i64 (bits .or .i64 ((bs.getD 1 0).toNat : Int) (((bs.getD 2 0).toNat : Int) * 256)), .int .u8 ((bs.getD 3 0).toNat : Int), .int .u8 ((bs.getD 4 0).toNat : Int), .int .i64 ((lblOf (bs.drop 5)).h), .int .i64 ((lblOf (bs.drop 5)).m), .int .i64 ((lblOf (bs.drop 5)).s), .int .i64 ((lblOf (bs.drop 5)).f), .bool ((lblOf (bs.drop 5)).d), .int .i64 ((lblOf (bs.drop 9)).h), .int .i64 ((lblOf (bs.drop 9)).m), .int .i64 ((lblOf (bs.drop 9)).s), .int .i64 ((lblOf (bs.drop 9)).f), .bool ((lblOf (bs.drop 9)).d), .int .i64 ((bs.getD 13 0).toNat : Int), .int .u8 ((bs.getD 14 0).toNat : Int), .bool (((bs.getD 15 0).toNat : Int) == 1), .slice none 0 0]]))))) (fun K => by kernel_rfl) hF hH (⟨⟨rfl, rfl, rfl, by omega, by omega⟩, ⟨⟨rfl, by omega⟩, ⟨wr_i64 (by omega), ⟨⟨rfl, rfl, rfl, by omega, by omega⟩, ⟨⟨rfl, by omega⟩, ⟨wr_i64 (by omega), ⟨⟨rfl, rfl, rfl, by omega, by omega⟩, ⟨⟨rfl, by omega⟩, ⟨wr_i64 (by omega), ⟨wr64 (by omega), ⟨⟨rfl, rfl, rfl, by omega, by omega⟩, ⟨⟨rfl, by omega⟩, ⟨⟨rfl, rfl, rfl, by omega, by omega⟩, ⟨⟨rfl, by omega⟩, ⟨⟨by omega, rfl, by omega, by omega⟩, ⟨⟨by omega, rfl, by omega, by omega⟩, ⟨⟨rfl, rfl, rfl, by omega, by omega⟩, ⟨⟨rfl, by omega⟩, ⟨wr_i64 (by omega), ⟨⟨rfl, rfl, rfl, by omega, by omega⟩, ⟨⟨rfl, by omega⟩, ⟨⟨rfl, rfl, rfl, by omega, by omega⟩, ⟨⟨rfl, by omega⟩, ⟨(⟨times_c (cutA A c 5 1) (n - 5) (c - 5) (bs.drop 5) (by omega), (by rintro u1 -; exact ⟨rfl, ⟨(⟨times_c (cutA A c 9 1) (n - 9) (c - 9) (bs.drop 9) (by omega), (by rintro u2 -; exact ⟨rfl, (fun g2 => ⟨rfl, (⟨⟨rfl, rfl⟩, ⟨rfl, ⟨u1, u2, g2, rfl, rfl⟩⟩⟩)⟩)⟩)⟩), (fun g3 => ⟨rfl, (⟨times_c (cutA A c 9 1) (n - 9) (c - 9) (bs.drop 9) (by omega), (by rintro u3 -; exact ⟨rfl, (⟨⟨rfl, rfl⟩, ⟨rfl, ⟨u1, u3, g3, rfl, rfl⟩⟩⟩)⟩)⟩)⟩)⟩⟩)⟩), (fun g4 => ⟨rfl, (⟨times_c (cutA A c 5 1) (n - 5) (c - 5) (bs.drop 5) (by omega), (by rintro u4 -; exact ⟨rfl, (⟨times_c (cutA A c 9 1) (n - 9) (c - 9) (bs.drop 9) (by omega), (by rintro u5 -; exact ⟨rfl, (⟨⟨rfl, rfl⟩, ⟨rfl, ⟨u4, u5, g4, rfl, rfl⟩⟩⟩)⟩)⟩)⟩)⟩)⟩)⟩⟩⟩⟩⟩⟩⟩⟩⟩⟩⟩⟩⟩⟩⟩⟩⟩⟩⟩⟩⟩⟩⟩⟩) ?_
    clear hF hH; rintro l rs a w ⟨u1, u2, g2, rfl, rfl⟩ hF hH
    refine then_n ?_
    refine wp_seqE (by kernel_rfl) ?_
    refine wp_regE (by kernel_rfl) ?_
    refine seg [.p, .sl 16 n, .bs] [0, 2, 4, 54, 55] (fun K => ((16 : Int) = ((16 : Nat) : Int) ∧ (n : Nat) = n ∧ 16 ≤ n ∧ n ≤ c) ∧ ∀ g5, K [⟨0, none, .slice A n c⟩, ⟨2, none, .pointer (some ⟨g1, 0, none⟩)⟩, ⟨4, none, .pointer (some ⟨g2, 0, none⟩)⟩, ⟨54, none, .slice (cutA A c 16 1) (n - 16) (c - 16)⟩, ⟨55, none, .slice (some ⟨g5, 0, none⟩) 1 1⟩] [.box g1 27 [.int .i64 0, .int .i64 0, .int .u8 0, .int .u8 0, .int .i64 0, .int .i64 0, .int .i64 0, .int .i64 0, .bool false, .int .i64 0, .int .i64 0, .int .i64 0, .int .i64 0, .bool false, .int .i64 0, .int .u8 0, .bool false, .slice none 0 0], .box g2 27 [.int .i64 ((bs.getD 0 0).toNat : Int), .int .i64 (bits .or .i64 ((bs.getD 1 0).toNat : Int) (((bs.getD 2 0).toNat : Int) * 256)), .int .u8 ((bs.getD 3 0).toNat : Int), .int .u8 ((bs.getD 4 0).toNat : Int), .int .i64 ((lblOf (bs.drop 5)).h), .int .i64 ((lblOf (bs.drop 5)).m), .int .i64 ((lblOf (bs.drop 5)).s), .int .i64 ((lblOf (bs.drop 5)).f), .bool ((lblOf (bs.drop 5)).d), .int .i64 ((lblOf (bs.drop 9)).h), .int .i64 ((lblOf (bs.drop 9)).m), .int .i64 ((lblOf (bs.drop 9)).s), .int .i64 ((lblOf (bs.drop 9)).f), .bool ((lblOf (bs.drop 9)).d), .int .i64 ((bs.getD 13 0).toNat : Int), .int .u8 ((bs.getD 14 0).toNat : Int), .bool (((bs.getD 15 0).toNat : Int) == 1), .slice none 0 0], .box g5 5 [.int .u8 143]]) (fun K => by kernel_rfl) hF hH ?_
    refine ⟨⟨by omega, rfl, by omega, by omega⟩, ?_⟩
    intro g5
    clear hF hH; intro a w hF hH
    have hH := hH.boxRow (k := 2) rfl 1 1 1 (by omega) (by unfold maxLen; omega) rfl
    have hH := hH.rowView (k := 2) rfl (byE [143]) (by_rowN [143] rfl)
    refine callE (d := 56) (cut1_c (cutA A c 16 1) (some ⟨g5, 0, none⟩) (n - 16) (c - 16) 1 (bs.drop 16) (by first | rfl | assumption | (simp; done) | (simp; omega)) 143) [.n 3, .r 2] (by kernel_rfl) (by kernel_rfl) hF hH ?_
    clear hF hH; rintro ⟨v1, f1⟩ - a w hF hH
    refine seg [.p, .p, .p, .p, .p, .p, .p] [0, 2, 4, 5] (fun K => K [⟨0, none, .slice A n c⟩, ⟨2, none, .pointer (some ⟨g1, 0, none⟩)⟩, ⟨4, none, .pointer (some ⟨g2, 0, none⟩)⟩, ⟨5, none, .slice (cutA A c 16 1) (cutN (bs.drop 16) 143) (c - 16)⟩] [.box g1 27 [.int .i64 0, .int .i64 0, .int .u8 0, .int .u8 0, .int .i64 0, .int .i64 0, .int .i64 0, .int .i64 0, .bool false, .int .i64 0, .int .i64 0, .int .i64 0, .int .i64 0, .bool false, .int .i64 0, .int .u8 0, .bool false, .slice none 0 0], .box g2 27 [.int .i64 ((bs.getD 0 0).toNat : Int), .int .i64 (bits .or .i64 ((bs.getD 1 0).toNat : Int) (((bs.getD 2 0).toNat : Int) * 256)), .int .u8 ((bs.getD 3 0).toNat : Int), .int .u8 ((bs.getD 4 0).toNat : Int), .int .i64 ((lblOf (bs.drop 5)).h), .int .i64 ((lblOf (bs.drop 5)).m), .int .i64 ((lblOf (bs.drop 5)).s), .int .i64 ((lblOf (bs.drop 5)).f), .bool ((lblOf (bs.drop 5)).d), .int .i64 ((lblOf (bs.drop 9)).h), .int .i64 ((lblOf (bs.drop 9)).m), .int .i64 ((lblOf (bs.drop 9)).s), .int .i64 ((lblOf (bs.drop 9)).f), .bool ((lblOf (bs.drop 9)).d), .int .i64 ((bs.getD 13 0).toNat : Int), .int .u8 ((bs.getD 14 0).toNat : Int), .bool (((bs.getD 15 0).toNat : Int) == 1), .slice none 0 0], .view (some ⟨g5, 0, none⟩) 1 1 1 (byE ([143]))]) (fun K => by kernel_rfl) hF hH ?_
    clear hF hH; intro a w hF hH
    refine wl_end (by kernel_rfl) ?_
    refine then_n ?_
    refine wp_seqE (by kernel_rfl) ?_
    refine wp_regE (by kernel_rfl) ?_
    have hcn : cutN (bs.drop 16) 143 ≤ n - 16 := by have := cutN_le (bs.drop 16) 143; rw [List.length_drop] at this; omega
    have hH := hH.headBN (k := 3) rfl (cutN (bs.drop 16) 143) (by omega)
    have hgt : (getT bs).length = cutN (bs.drop 16) 143 := by unfold getT; rw [List.length_take, List.length_drop]; omega
    change Hp _ (_ ++ [.view _ _ _ 1 (byE (getT bs))]) _ _ at hH
    refine seg [.p] [0, 2, 4, 60] (fun K => K [⟨0, none, .slice A n c⟩, ⟨2, none, .pointer (some ⟨g1, 0, none⟩)⟩, ⟨4, none, .pointer (some ⟨g2, 0, none⟩)⟩, ⟨60, none, .slice (cutA A c 16 1) (cutN (bs.drop 16) 143) (c - 16)⟩] [.box g1 27 [.int .i64 0, .int .i64 0, .int .u8 0, .int .u8 0, .int .i64 0, .int .i64 0, .int .i64 0, .int .i64 0, .bool false, .int .i64 0, .int .i64 0, .int .i64 0, .int .i64 0, .bool false, .int .i64 0, .int .u8 0, .bool false, .slice none 0 0], .box g2 27 [.int .i64 ((bs.getD 0 0).toNat : Int), .int .i64 (bits .or .i64 ((bs.getD 1 0).toNat : Int) (((bs.getD 2 0).toNat : Int) * 256)), .int .u8 ((bs.getD 3 0).toNat : Int), .int .u8 ((bs.getD 4 0).toNat : Int), .int .i64 ((lblOf (bs.drop 5)).h), .int .i64 ((lblOf (bs.drop 5)).m), .int .i64 ((lblOf (bs.drop 5)).s), .int .i64 ((lblOf (bs.drop 5)).f), .bool ((lblOf (bs.drop 5)).d), .int .i64 ((lblOf (bs.drop 9)).h), .int .i64 ((lblOf (bs.drop 9)).m), .int .i64 ((lblOf (bs.drop 9)).s), .int .i64 ((lblOf (bs.drop 9)).f), .bool ((lblOf (bs.drop 9)).d), .int .i64 ((bs.getD 13 0).toNat : Int), .int .u8 ((bs.getD 14 0).toNat : Int), .bool (((bs.getD 15 0).toNat : Int) == 1), .slice none 0 0], .view (some ⟨g5, 0, none⟩) 1 1 1 (byE ([143]))]) (fun K => by kernel_rfl) hF hH ?_
    clear hF hH; intro a w hF hH
    refine callE (d := 61) (clone_c (cutA A c 16 1) (cutN (bs.drop 16) 143) (c - 16) (getT bs) (by first | rfl | assumption | (simp; done) | (simp; omega)) (by omega)) [.n 4] (by kernel_rfl) (by kernel_rfl) hF hH ?_
    clear hF hH; rintro ⟨A1, c1⟩ - a w hF hH
    have hH := hH.rowView (k := 3) rfl (byE (getT bs)) (by_rowN _ hgt)
    refine seg [.p, .st 1] [0, 2, 4] (fun K => ((g2 : Nat) = g2 ∧ (none : Option Nat) = none) ∧ K [⟨0, none, .slice A n c⟩, ⟨2, none, .pointer (some ⟨g1, 0, none⟩)⟩, ⟨4, none, .pointer (some ⟨g2, 0, none⟩)⟩] [.box g1 27 [.int .i64 0, .int .i64 0, .int .u8 0, .int .u8 0, .int .i64 0, .int .i64 0, .int .i64 0, .int .i64 0, .bool false, .int .i64 0, .int .i64 0, .int .i64 0, .int .i64 0, .bool false, .int .i64 0, .int .u8 0, .bool false, .slice none 0 0], .box g2 27 [.int .i64 ((bs.getD 0 0).toNat : Int), .int .i64 (bits .or .i64 ((bs.getD 1 0).toNat : Int) (((bs.getD 2 0).toNat : Int) * 256)), .int .u8 ((bs.getD 3 0).toNat : Int), .int .u8 ((bs.getD 4 0).toNat : Int), .int .i64 ((lblOf (bs.drop 5)).h), .int .i64 ((lblOf (bs.drop 5)).m), .int .i64 ((lblOf (bs.drop 5)).s), .int .i64 ((lblOf (bs.drop 5)).f), .bool ((lblOf (bs.drop 5)).d), .int .i64 ((lblOf (bs.drop 9)).h), .int .i64 ((lblOf (bs.drop 9)).m), .int .i64 ((lblOf (bs.drop 9)).s), .int .i64 ((lblOf (bs.drop 9)).f), .bool ((lblOf (bs.drop 9)).d), .int .i64 ((bs.getD 13 0).toNat : Int), .int .u8 ((bs.getD 14 0).toNat : Int), .bool (((bs.getD 15 0).toNat : Int) == 1), .slice A1 (cutN (bs.drop 16) 143) c1], .view (some ⟨g5, 0, none⟩) 1 1 1 (byE ([143])), .view A1 (cutN (bs.drop 16) 143) c1 1 (byE (getT bs))]) (fun K => by kernel_rfl) hF hH ?_
    refine ⟨⟨rfl, rfl⟩, ?_⟩
    clear hF hH; intro a w hF hH
    refine wl_end (by kernel_rfl) ?_
    refine then_n ?_
    refine wp_seqE (by kernel_rfl) ?_
    refine wp_seqE (by kernel_rfl) ?_
    refine wp_regE (by kernel_rfl) ?_
    refine seg [.ld (.r 1)] [0, 2, 4, 64] (fun K => ((g2 : Nat) = g2 ∧ (none : Option Nat) = none) ∧ K [⟨0, none, .slice A n c⟩, ⟨2, none, .pointer (some ⟨g1, 0, none⟩)⟩, ⟨4, none, .pointer (some ⟨g2, 0, none⟩)⟩, ⟨64, none, .agg #[.int .i64 ((getB bs).g), .int .i64 ((getB bs).n), .int .u8 ((getB bs).e), .int .u8 ((getB bs).t), .int .i64 ((getB bs).i.h), .int .i64 ((getB bs).i.m), .int .i64 ((getB bs).i.s), .int .i64 ((getB bs).i.f), .bool ((getB bs).i.d), .int .i64 ((getB bs).o.h), .int .i64 ((getB bs).o.m), .int .i64 ((getB bs).o.s), .int .i64 ((getB bs).o.f), .bool ((getB bs).o.d), .int .i64 ((getB bs).r), .int .u8 ((getB bs).a), .bool ((getB bs).c), .slice A1 (cutN (bs.drop 16) 143) c1]⟩] [.box g1 27 [.int .i64 0, .int .i64 0, .int .u8 0, .int .u8 0, .int .i64 0, .int .i64 0, .int .i64 0, .int .i64 0, .bool false, .int .i64 0, .int .i64 0, .int .i64 0, .int .i64 0, .bool false, .int .i64 0, .int .u8 0, .bool false, .slice none 0 0], .box g2 27 [.int .i64 ((getB bs).g), .int .i64 ((getB bs).n), .int .u8 ((getB bs).e), .int .u8 ((getB bs).t), .int .i64 ((getB bs).i.h), .int .i64 ((getB bs).i.m), .int .i64 ((getB bs).i.s), .int .i64 ((getB bs).i.f), .bool ((getB bs).i.d), .int .i64 ((getB bs).o.h), .int .i64 ((getB bs).o.m), .int .i64 ((getB bs).o.s), .int .i64 ((getB bs).o.f), .bool ((getB bs).o.d), .int .i64 ((getB bs).r), .int .u8 ((getB bs).a), .bool ((getB bs).c), .slice A1 (cutN (bs.drop 16) 143) c1], .view (some ⟨g5, 0, none⟩) 1 1 1 (byE ([143])), .view A1 (cutN (bs.drop 16) 143) c1 1 (byE (getT bs))]) (fun K => by kernel_rfl) hF hH ?_
    refine ⟨⟨rfl, rfl⟩, ?_⟩
    clear hF hH; intro a w hF hH
    refine callE (d := 65) (putV_c (getB bs) (getB_u8s bs) A1 (cutN (bs.drop 16) 143) c1 (getT bs) (by first | rfl | assumption | (simp; done) | (simp; omega))) [.r 3] (by kernel_rfl) (by kernel_rfl) hF hH ?_
    clear hF hH; rintro ⟨A2, c2⟩ - a w hF hH
    refine seg [.p, .p, .p, .p, .p] [0, 2, 4, 8, 9] (fun K => K [⟨0, none, .slice A n c⟩, ⟨2, none, .pointer (some ⟨g1, 0, none⟩)⟩, ⟨4, none, .pointer (some ⟨g2, 0, none⟩)⟩, ⟨8, none, .slice A2 ((putB (getB bs) (getT bs)).length) c2⟩, ⟨9, none, .int .i64 (checkV (getB bs) (getT bs))⟩] [.box g1 27 [.int .i64 0, .int .i64 0, .int .u8 0, .int .u8 0, .int .i64 0, .int .i64 0, .int .i64 0, .int .i64 0, .bool false, .int .i64 0, .int .i64 0, .int .i64 0, .int .i64 0, .bool false, .int .i64 0, .int .u8 0, .bool false, .slice none 0 0], .box g2 27 [.int .i64 ((getB bs).g), .int .i64 ((getB bs).n), .int .u8 ((getB bs).e), .int .u8 ((getB bs).t), .int .i64 ((getB bs).i.h), .int .i64 ((getB bs).i.m), .int .i64 ((getB bs).i.s), .int .i64 ((getB bs).i.f), .bool ((getB bs).i.d), .int .i64 ((getB bs).o.h), .int .i64 ((getB bs).o.m), .int .i64 ((getB bs).o.s), .int .i64 ((getB bs).o.f), .bool ((getB bs).o.d), .int .i64 ((getB bs).r), .int .u8 ((getB bs).a), .bool ((getB bs).c), .slice A1 (cutN (bs.drop 16) 143) c1], .view (some ⟨g5, 0, none⟩) 1 1 1 (byE ([143])), .view A1 (cutN (bs.drop 16) 143) c1 1 (byE (getT bs)), .view A2 ((putB (getB bs) (getT bs)).length) c2 1 (byE (putB (getB bs) (getT bs)))]) (fun K => by kernel_rfl) hF hH ?_
    clear hF hH; intro a w hF hH
    refine wl_end (by kernel_rfl) ?_
    refine then_n ?_
    refine wp_seqE (by kernel_rfl) ?_
    refine wp_regE (by kernel_rfl) ?_
    refine seg [.p, .p, .p] [0, 2, 4, 8, 70] (fun K => K [⟨0, none, .slice A n c⟩, ⟨2, none, .pointer (some ⟨g1, 0, none⟩)⟩, ⟨4, none, .pointer (some ⟨g2, 0, none⟩)⟩, ⟨8, none, .slice A2 ((putB (getB bs) (getT bs)).length) c2⟩, ⟨70, none, .bool ((checkV (getB bs) (getT bs)) != 0)⟩] [.box g1 27 [.int .i64 0, .int .i64 0, .int .u8 0, .int .u8 0, .int .i64 0, .int .i64 0, .int .i64 0, .int .i64 0, .bool false, .int .i64 0, .int .i64 0, .int .i64 0, .int .i64 0, .bool false, .int .i64 0, .int .u8 0, .bool false, .slice none 0 0], .box g2 27 [.int .i64 ((getB bs).g), .int .i64 ((getB bs).n), .int .u8 ((getB bs).e), .int .u8 ((getB bs).t), .int .i64 ((getB bs).i.h), .int .i64 ((getB bs).i.m), .int .i64 ((getB bs).i.s), .int .i64 ((getB bs).i.f), .bool ((getB bs).i.d), .int .i64 ((getB bs).o.h), .int .i64 ((getB bs).o.m), .int .i64 ((getB bs).o.s), .int .i64 ((getB bs).o.f), .bool ((getB bs).o.d), .int .i64 ((getB bs).r), .int .u8 ((getB bs).a), .bool ((getB bs).c), .slice A1 (cutN (bs.drop 16) 143) c1], .view (some ⟨g5, 0, none⟩) 1 1 1 (byE ([143])), .view A1 (cutN (bs.drop 16) 143) c1 1 (byE (getT bs)), .view A2 ((putB (getB bs) (getT bs)).length) c2 1 (byE (putB (getB bs) (getT bs)))]) (fun K => by kernel_rfl) hF hH ?_
    clear hF hH; intro a w hF hH
    rcases Bool.eq_false_or_eq_true ((checkV (getB bs) (getT bs)) != 0) with hx1 | hx1
    · rw [hx1] at hF
      refine seg [.sk, .sk, .sk, .sk, .p] [2, 4, 75] (fun K => (true = !false) ∧ (true = !false) ∧ (true = !false) ∧ (true = !false) ∧ K [⟨2, none, .pointer (some ⟨g1, 0, none⟩)⟩, ⟨4, none, .pointer (some ⟨g2, 0, none⟩)⟩, ⟨75, none, .bool true⟩] [.box g1 27 [.int .i64 0, .int .i64 0, .int .u8 0, .int .u8 0, .int .i64 0, .int .i64 0, .int .i64 0, .int .i64 0, .bool false, .int .i64 0, .int .i64 0, .int .i64 0, .int .i64 0, .bool false, .int .i64 0, .int .u8 0, .bool false, .slice none 0 0], .box g2 27 [.int .i64 ((getB bs).g), .int .i64 ((getB bs).n), .int .u8 ((getB bs).e), .int .u8 ((getB bs).t), .int .i64 ((getB bs).i.h), .int .i64 ((getB bs).i.m), .int .i64 ((getB bs).i.s), .int .i64 ((getB bs).i.f), .bool ((getB bs).i.d), .int .i64 ((getB bs).o.h), .int .i64 ((getB bs).o.m), .int .i64 ((getB bs).o.s), .int .i64 ((getB bs).o.f), .bool ((getB bs).o.d), .int .i64 ((getB bs).r), .int .u8 ((getB bs).a), .bool ((getB bs).c), .slice A1 (cutN (bs.drop 16) 143) c1], .view (some ⟨g5, 0, none⟩) 1 1 1 (byE ([143])), .view A1 (cutN (bs.drop 16) 143) c1 1 (byE (getT bs)), .view A2 ((putB (getB bs) (getT bs)).length) c2 1 (byE (putB (getB bs) (getT bs)))]) (fun K => by kernel_rfl) hF hH ?_
      refine ⟨rfl, ?_⟩
      refine ⟨rfl, ?_⟩
      refine ⟨rfl, ?_⟩
      refine ⟨rfl, ?_⟩
      clear hF hH; intro a w hF hH
      refine wl_end (by kernel_rfl) ?_
      refine then_n ?_
      refine wp_condE (b := true) (by kernel_rfl) (by kernel_rfl) hF (fun _ => ?_) (fun h => by cases h)
      refine wp_seqE (by kernel_rfl) ?_
      refine wp_regE (by kernel_rfl) ?_
      refine seg [.p, .st 0, .p] [2, 3] (fun K => ((g1 : Nat) = g1 ∧ (none : Option Nat) = none) ∧ K [⟨2, none, .pointer (some ⟨g1, 0, none⟩)⟩, ⟨3, none, .int .i64 4⟩] [.box g1 27 [.int .i64 0, .int .i64 0, .int .u8 0, .int .u8 0, .int .i64 0, .int .i64 0, .int .i64 0, .int .i64 0, .bool false, .int .i64 0, .int .i64 0, .int .i64 0, .int .i64 0, .bool false, .int .i64 0, .int .u8 0, .bool false, .slice none 0 0], .box g2 27 [.int .i64 ((getB bs).g), .int .i64 ((getB bs).n), .int .u8 ((getB bs).e), .int .u8 ((getB bs).t), .int .i64 ((getB bs).i.h), .int .i64 ((getB bs).i.m), .int .i64 ((getB bs).i.s), .int .i64 ((getB bs).i.f), .bool ((getB bs).i.d), .int .i64 ((getB bs).o.h), .int .i64 ((getB bs).o.m), .int .i64 ((getB bs).o.s), .int .i64 ((getB bs).o.f), .bool ((getB bs).o.d), .int .i64 ((getB bs).r), .int .u8 ((getB bs).a), .bool ((getB bs).c), .slice A1 (cutN (bs.drop 16) 143) c1], .view (some ⟨g5, 0, none⟩) 1 1 1 (byE ([143])), .view A1 (cutN (bs.drop 16) 143) c1 1 (byE (getT bs)), .view A2 ((putB (getB bs) (getT bs)).length) c2 1 (byE (putB (getB bs) (getT bs)))]) (fun K => by kernel_rfl) hF hH ?_
      refine ⟨⟨rfl, rfl⟩, ?_⟩
      clear hF hH; intro a w hF hH
      refine wl_end (by kernel_rfl) ?_
      refine then_n ?_
      refine wp_retE (by kernel_rfl) ?_
      refine then_ret ?_
      refine retE (vs := [.agg #[.int .i64 0, .int .i64 0, .int .u8 0, .int .u8 0, .int .i64 0, .int .i64 0, .int .i64 0, .int .i64 0, .bool false, .int .i64 0, .int .i64 0, .int .i64 0, .int .i64 0, .bool false, .int .i64 0, .int .u8 0, .bool false, .slice none 0 0], .int .i64 4]) (p := ((g1 : Nat) = g1 ∧ (none : Option Nat) = none) ∧ True) (v := .tuple #[.agg #[.int .i64 0, .int .i64 0, .int .u8 0, .int .u8 0, .int .i64 0, .int .i64 0, .int .i64 0, .int .i64 0, .bool false, .int .i64 0, .int .i64 0, .int .i64 0, .int .i64 0, .bool false, .int .i64 0, .int .u8 0, .bool false, .slice none 0 0], .int .i64 4]) [0] (by kernel_rfl) ⟨⟨rfl, rfl⟩, trivial⟩ (by kernel_rfl) hF hH ?_
      subst hl
      exact get_fin0 hH bs (by simp only [getE, hb1, hx1]; try rfl)
    · rw [hx1] at hF
      refine seg [.gt (.p), .gt (.p)] [2, 4, 70, 71, 72] (fun K => (false = false) ∧ (false = false) ∧ K [⟨2, none, .pointer (some ⟨g1, 0, none⟩)⟩, ⟨4, none, .pointer (some ⟨g2, 0, none⟩)⟩, ⟨70, none, .bool false⟩, ⟨71, none, .slice A n c⟩, ⟨72, none, .slice A2 ((putB (getB bs) (getT bs)).length) c2⟩] [.box g1 27 [.int .i64 0, .int .i64 0, .int .u8 0, .int .u8 0, .int .i64 0, .int .i64 0, .int .i64 0, .int .i64 0, .bool false, .int .i64 0, .int .i64 0, .int .i64 0, .int .i64 0, .bool false, .int .i64 0, .int .u8 0, .bool false, .slice none 0 0], .box g2 27 [.int .i64 ((getB bs).g), .int .i64 ((getB bs).n), .int .u8 ((getB bs).e), .int .u8 ((getB bs).t), .int .i64 ((getB bs).i.h), .int .i64 ((getB bs).i.m), .int .i64 ((getB bs).i.s), .int .i64 ((getB bs).i.f), .bool ((getB bs).i.d), .int .i64 ((getB bs).o.h), .int .i64 ((getB bs).o.m), .int .i64 ((getB bs).o.s), .int .i64 ((getB bs).o.f), .bool ((getB bs).o.d), .int .i64 ((getB bs).r), .int .u8 ((getB bs).a), .bool ((getB bs).c), .slice A1 (cutN (bs.drop 16) 143) c1], .view (some ⟨g5, 0, none⟩) 1 1 1 (byE ([143])), .view A1 (cutN (bs.drop 16) 143) c1 1 (byE (getT bs)), .view A2 ((putB (getB bs) (getT bs)).length) c2 1 (byE (putB (getB bs) (getT bs)))]) (fun K => by kernel_rfl) hF hH ?_
      refine ⟨rfl, ?_⟩
      refine ⟨rfl, ?_⟩
      clear hF hH; intro a w hF hH
      refine callE (d := 73) (bytesEqual_c A A2 n ((putB (getB bs) (getT bs)).length) c c2 bs (putB (getB bs) (getT bs)) (by first | rfl | assumption | (simp; done) | (simp; omega)) (by first | rfl | assumption | (simp; done) | (simp; omega))) [.n 0, .r 4] (by kernel_rfl) (by kernel_rfl) hF hH ?_
      clear hF hH; rintro ⟨⟩ - a w hF hH
      refine seg [.gt (.p), .p] [2, 4, 75] (fun K => (false = false) ∧ K [⟨2, none, .pointer (some ⟨g1, 0, none⟩)⟩, ⟨4, none, .pointer (some ⟨g2, 0, none⟩)⟩, ⟨75, none, .bool (!(decide (bs = (putB (getB bs) (getT bs)))))⟩] [.box g1 27 [.int .i64 0, .int .i64 0, .int .u8 0, .int .u8 0, .int .i64 0, .int .i64 0, .int .i64 0, .int .i64 0, .bool false, .int .i64 0, .int .i64 0, .int .i64 0, .int .i64 0, .bool false, .int .i64 0, .int .u8 0, .bool false, .slice none 0 0], .box g2 27 [.int .i64 ((getB bs).g), .int .i64 ((getB bs).n), .int .u8 ((getB bs).e), .int .u8 ((getB bs).t), .int .i64 ((getB bs).i.h), .int .i64 ((getB bs).i.m), .int .i64 ((getB bs).i.s), .int .i64 ((getB bs).i.f), .bool ((getB bs).i.d), .int .i64 ((getB bs).o.h), .int .i64 ((getB bs).o.m), .int .i64 ((getB bs).o.s), .int .i64 ((getB bs).o.f), .bool ((getB bs).o.d), .int .i64 ((getB bs).r), .int .u8 ((getB bs).a), .bool ((getB bs).c), .slice A1 (cutN (bs.drop 16) 143) c1], .view (some ⟨g5, 0, none⟩) 1 1 1 (byE ([143])), .view A1 (cutN (bs.drop 16) 143) c1 1 (byE (getT bs)), .view A2 ((putB (getB bs) (getT bs)).length) c2 1 (byE (putB (getB bs) (getT bs)))]) (fun K => by kernel_rfl) hF hH ?_
      refine ⟨rfl, ?_⟩
      clear hF hH; intro a w hF hH
      refine wl_end (by kernel_rfl) ?_
      refine then_n ?_
      refine wp_condE (b := !(decide (bs = (putB (getB bs) (getT bs))))) (by kernel_rfl) (by kernel_rfl) hF (fun hb2 => ?_) (fun hb2 => ?_)
      · skip
        refine wp_seqE (by kernel_rfl) ?_
        refine wp_regE (by kernel_rfl) ?_
        refine seg [.p, .st 0, .p] [2, 3] (fun K => ((g1 : Nat) = g1 ∧ (none : Option Nat) = none) ∧ K [⟨2, none, .pointer (some ⟨g1, 0, none⟩)⟩, ⟨3, none, .int .i64 4⟩] [.box g1 27 [.int .i64 0, .int .i64 0, .int .u8 0, .int .u8 0, .int .i64 0, .int .i64 0, .int .i64 0, .int .i64 0, .bool false, .int .i64 0, .int .i64 0, .int .i64 0, .int .i64 0, .bool false, .int .i64 0, .int .u8 0, .bool false, .slice none 0 0], .box g2 27 [.int .i64 ((getB bs).g), .int .i64 ((getB bs).n), .int .u8 ((getB bs).e), .int .u8 ((getB bs).t), .int .i64 ((getB bs).i.h), .int .i64 ((getB bs).i.m), .int .i64 ((getB bs).i.s), .int .i64 ((getB bs).i.f), .bool ((getB bs).i.d), .int .i64 ((getB bs).o.h), .int .i64 ((getB bs).o.m), .int .i64 ((getB bs).o.s), .int .i64 ((getB bs).o.f), .bool ((getB bs).o.d), .int .i64 ((getB bs).r), .int .u8 ((getB bs).a), .bool ((getB bs).c), .slice A1 (cutN (bs.drop 16) 143) c1], .view (some ⟨g5, 0, none⟩) 1 1 1 (byE ([143])), .view A1 (cutN (bs.drop 16) 143) c1 1 (byE (getT bs)), .view A2 ((putB (getB bs) (getT bs)).length) c2 1 (byE (putB (getB bs) (getT bs)))]) (fun K => by kernel_rfl) hF hH ?_
        refine ⟨⟨rfl, rfl⟩, ?_⟩
        clear hF hH; intro a w hF hH
        refine wl_end (by kernel_rfl) ?_
        refine then_n ?_
        refine wp_retE (by kernel_rfl) ?_
        refine then_ret ?_
        refine retE (vs := [.agg #[.int .i64 0, .int .i64 0, .int .u8 0, .int .u8 0, .int .i64 0, .int .i64 0, .int .i64 0, .int .i64 0, .bool false, .int .i64 0, .int .i64 0, .int .i64 0, .int .i64 0, .bool false, .int .i64 0, .int .u8 0, .bool false, .slice none 0 0], .int .i64 4]) (p := ((g1 : Nat) = g1 ∧ (none : Option Nat) = none) ∧ True) (v := .tuple #[.agg #[.int .i64 0, .int .i64 0, .int .u8 0, .int .u8 0, .int .i64 0, .int .i64 0, .int .i64 0, .int .i64 0, .bool false, .int .i64 0, .int .i64 0, .int .i64 0, .int .i64 0, .bool false, .int .i64 0, .int .u8 0, .bool false, .slice none 0 0], .int .i64 4]) [0] (by kernel_rfl) ⟨⟨rfl, rfl⟩, trivial⟩ (by kernel_rfl) hF hH ?_
        subst hl
        exact get_fin0 hH bs (by simp only [getE, hb1, hx1, hb2]; try rfl)
      · skip
        refine wp_skipE (by kernel_rfl) ?_
        refine then_n ?_
        refine wp_seqE (by kernel_rfl) ?_
        refine wp_regE (by kernel_rfl) ?_
        refine seg [.ld (.r 1), .st 0, .p] [2, 3] (fun K => ((g2 : Nat) = g2 ∧ (none : Option Nat) = none) ∧ ((g1 : Nat) = g1 ∧ (none : Option Nat) = none) ∧ K [⟨2, none, .pointer (some ⟨g1, 0, none⟩)⟩, ⟨3, none, .int .i64 0⟩] [.box g1 27 [.int .i64 ((getB bs).g), .int .i64 ((getB bs).n), .int .u8 ((getB bs).e), .int .u8 ((getB bs).t), .int .i64 ((getB bs).i.h), .int .i64 ((getB bs).i.m), .int .i64 ((getB bs).i.s), .int .i64 ((getB bs).i.f), .bool ((getB bs).i.d), .int .i64 ((getB bs).o.h), .int .i64 ((getB bs).o.m), .int .i64 ((getB bs).o.s), .int .i64 ((getB bs).o.f), .bool ((getB bs).o.d), .int .i64 ((getB bs).r), .int .u8 ((getB bs).a), .bool ((getB bs).c), .slice A1 (cutN (bs.drop 16) 143) c1], .box g2 27 [.int .i64 ((getB bs).g), .int .i64 ((getB bs).n), .int .u8 ((getB bs).e), .int .u8 ((getB bs).t), .int .i64 ((getB bs).i.h), .int .i64 ((getB bs).i.m), .int .i64 ((getB bs).i.s), .int .i64 ((getB bs).i.f), .bool ((getB bs).i.d), .int .i64 ((getB bs).o.h), .int .i64 ((getB bs).o.m), .int .i64 ((getB bs).o.s), .int .i64 ((getB bs).o.f), .bool ((getB bs).o.d), .int .i64 ((getB bs).r), .int .u8 ((getB bs).a), .bool ((getB bs).c), .slice A1 (cutN (bs.drop 16) 143) c1], .view (some ⟨g5, 0, none⟩) 1 1 1 (byE ([143])), .view A1 (cutN (bs.drop 16) 143) c1 1 (byE (getT bs)), .view A2 ((putB (getB bs) (getT bs)).length) c2 1 (byE (putB (getB bs) (getT bs)))]) (fun K => by kernel_rfl) hF hH ?_
        refine ⟨⟨rfl, rfl⟩, ?_⟩
        refine ⟨⟨rfl, rfl⟩, ?_⟩
        clear hF hH; intro a w hF hH
        refine wl_end (by kernel_rfl) ?_
        refine then_n ?_
        refine wp_retE (by kernel_rfl) ?_
        refine retE (vs := [.agg #[.int .i64 ((getB bs).g), .int .i64 ((getB bs).n), .int .u8 ((getB bs).e), .int .u8 ((getB bs).t), .int .i64 ((getB bs).i.h), .int .i64 ((getB bs).i.m), .int .i64 ((getB bs).i.s), .int .i64 ((getB bs).i.f), .bool ((getB bs).i.d), .int .i64 ((getB bs).o.h), .int .i64 ((getB bs).o.m), .int .i64 ((getB bs).o.s), .int .i64 ((getB bs).o.f), .bool ((getB bs).o.d), .int .i64 ((getB bs).r), .int .u8 ((getB bs).a), .bool ((getB bs).c), .slice A1 (cutN (bs.drop 16) 143) c1], .int .i64 0]) (p := ((g1 : Nat) = g1 ∧ (none : Option Nat) = none) ∧ True) (v := .tuple #[.agg #[.int .i64 ((getB bs).g), .int .i64 ((getB bs).n), .int .u8 ((getB bs).e), .int .u8 ((getB bs).t), .int .i64 ((getB bs).i.h), .int .i64 ((getB bs).i.m), .int .i64 ((getB bs).i.s), .int .i64 ((getB bs).i.f), .bool ((getB bs).i.d), .int .i64 ((getB bs).o.h), .int .i64 ((getB bs).o.m), .int .i64 ((getB bs).o.s), .int .i64 ((getB bs).o.f), .bool ((getB bs).o.d), .int .i64 ((getB bs).r), .int .u8 ((getB bs).a), .bool ((getB bs).c), .slice A1 (cutN (bs.drop 16) 143) c1], .int .i64 0]) [0] (by kernel_rfl) ⟨⟨rfl, rfl⟩, trivial⟩ (by kernel_rfl) hF hH ?_
        exact get_fin1 hH bs (by simp only [getE, hl, hb1, hx1, hb2]; rfl) (k := 3) rfl hgt

end Go.Proofs.Ytcccboodapgejaa
