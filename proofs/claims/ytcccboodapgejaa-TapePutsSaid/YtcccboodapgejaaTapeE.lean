/-
  awake gives true.
-/
import Derived.Test.YtcccboodapgejaaDatC
namespace Go.Proofs.Ytcccboodapgejaa
open Go.Sym

theorem awake_c  : CallOk Try.prog 8 [] [] (U := Unit) (fun _ => .bool true) (fun _ => []) (fun _ => True) := by
  intro w0 hn
  refine enterE (N := 78) Try.func8 (by kernel_rfl) (by kernel_rfl) (by kernel_rfl) ?_
  intro a hF
  have hH := Hp.start w0 hn
  refine wp_seqE (by kernel_rfl) ?_
  refine wp_regE (by kernel_rfl) ?_
  refine seg [.p] [] (fun K => K [] []) (fun K => by kernel_rfl) hF hH ?_
  clear hF hH; intro a w hF hH
  refine wl_end (by kernel_rfl) ?_
  refine then_n ?_
  refine wp_seqE (by kernel_rfl) ?_
  refine wp_regE (by kernel_rfl) ?_
  refine callE (d := 5) (example_c) [] (by kernel_rfl) (by kernel_rfl) hF hH ?_
  clear hF hH; rintro A1 - a w hF hH
  refine callE (d := 6) (put_ex A1) [.r 0] (by kernel_rfl) (by kernel_rfl) hF hH ?_
  clear hF hH; rintro ⟨A2, c1⟩ - a w hF hH
  have hncc1 : 128 ≤ c1 := (hH.own (.view A2 128 c1 1 (byE exPut)) (by simp)).1.1
  refine seg [.p, .p, .p, .p, .p] [1, 2] (fun K => K [⟨1, none, .slice A2 128 c1⟩, ⟨2, none, .int .i64 0⟩] [.view A1 1 1 1 (byE exT), .view A2 128 c1 1 (byE exPut)]) (fun K => by kernel_rfl) hF hH ?_
  clear hF hH; intro a w hF hH
  refine wl_end (by kernel_rfl) ?_
  refine then_n ?_
  refine wp_seqE (by kernel_rfl) ?_
  refine wp_seqE (by kernel_rfl) ?_
  refine wp_regE (by kernel_rfl) ?_
  refine seg [.p, .p, .p, .gt (.p), .gt (.p), .gt (.p), .p, .p, .gt (.p), .gt (.sh 17), .ge (.bs)] [1, 16, 18, 19] (fun K => (false = false) ∧ (false = false) ∧ (false = false) ∧ (false = false) ∧ (false = false) ∧ ((17 : Int) = ((17 : Nat) : Int) ∧ 17 ≤ c1) ∧ (false = false) ∧ ∀ g1, K [⟨1, none, .slice A2 128 c1⟩, ⟨16, none, .bool false⟩, ⟨18, none, .slice A2 17 c1⟩, ⟨19, none, .slice (some ⟨g1, 0, none⟩) 17 17⟩] [.view A1 1 1 1 (byE exT), .view A2 128 c1 1 (byE exPut), .box g1 5 [.int .u8 0, .int .u8 2, .int .u8 1, .int .u8 255, .int .u8 0, .int .u8 1, .int .u8 2, .int .u8 3, .int .u8 4, .int .u8 1, .int .u8 2, .int .u8 5, .int .u8 0, .int .u8 13, .int .u8 2, .int .u8 0, .int .u8 65]]) (fun K => by kernel_rfl) hF hH ?_
  refine ⟨rfl, ?_⟩
  refine ⟨rfl, ?_⟩
  refine ⟨rfl, ?_⟩
  refine ⟨rfl, ?_⟩
  refine ⟨rfl, ?_⟩
  refine ⟨⟨by omega, by omega⟩, ?_⟩
  refine ⟨rfl, ?_⟩
  intro g1
  clear hF hH; intro a w hF hH
  have hH := hH.boxRow (k := 2) rfl 1 17 17 (by omega) (by unfold maxLen; omega) rfl
  have hH := hH.rowView (k := 2) rfl (byE [0, 2, 1, 255, 0, 1, 2, 3, 4, 1, 2, 5, 0, 13, 2, 0, 65]) (by_rowN [0, 2, 1, 255, 0, 1, 2, 3, 4, 1, 2, 5, 0, 13, 2, 0, 65] rfl)
  have hH := hH.headBR (k := 1) rfl 17 (by omega)
  refine callE (d := 20) (equal_c A2 (some ⟨g1, 0, none⟩) 17 17 c1 17 (exPut.take 17) ([0, 2, 1, 255, 0, 1, 2, 3, 4, 1, 2, 5, 0, 13, 2, 0, 65]) (by first | rfl | assumption | (simp; done) | (simp; omega)) (by first | rfl | assumption | (simp; done) | (simp; omega)) (by omega)) [.r 3, .r 2] (by kernel_rfl) (by kernel_rfl) hF hH ?_
  clear hF hH; rintro ⟨⟩ - a w hF hH
  refine seg [.gt (.p), .p, .p, .gt (.p), .gt (.ia (.r 1) 17), .gt (.lv (.r 1) 17 0), .gt (.p), .p, .p, .gt (.p), .gt (.ia (.r 1) 127), .gt (.lv (.r 1) 127 0), .gt (.p), .p] [34] (fun K => (false = false) ∧ (false = false) ∧ (false = false) ∧ (((A2) : Option Addr) = A2 ∧ (128 : Nat) = 128 ∧ (1 : Nat) = 1 ∧ (17 : Int) = ((17 : Nat) : Int) ∧ 17 < 128) ∧ (false = false) ∧ ((A2.getD nilA).add (17 * 1) = ((A2.getD nilA).add (17 * 1)).add 0 ∧ 17 < 128) ∧ (false = false) ∧ (false = false) ∧ (false = false) ∧ (((A2) : Option Addr) = A2 ∧ (128 : Nat) = 128 ∧ (1 : Nat) = 1 ∧ (127 : Int) = ((127 : Nat) : Int) ∧ 127 < 128) ∧ (false = false) ∧ ((A2.getD nilA).add (127 * 1) = ((A2.getD nilA).add (127 * 1)).add 0 ∧ 127 < 128) ∧ (false = false) ∧ K [⟨34, none, .bool false⟩] [.view A1 1 1 1 (byE exT), .view A2 128 c1 1 (byE exPut), .view (some ⟨g1, 0, none⟩) 17 17 1 (byE ([0, 2, 1, 255, 0, 1, 2, 3, 4, 1, 2, 5, 0, 13, 2, 0, 65])), .view A2 17 c1 1 (byE (exPut.take 17))]) (fun K => by kernel_rfl) hF hH ?_
  refine ⟨rfl, ?_⟩
  refine ⟨rfl, ?_⟩
  refine ⟨rfl, ?_⟩
  refine ⟨⟨rfl, rfl, rfl, by omega, by omega⟩, ?_⟩
  refine ⟨rfl, ?_⟩
  refine ⟨⟨rfl, by omega⟩, ?_⟩
  refine ⟨rfl, ?_⟩
  refine ⟨rfl, ?_⟩
  refine ⟨rfl, ?_⟩
  refine ⟨⟨rfl, rfl, rfl, by omega, by omega⟩, ?_⟩
  refine ⟨rfl, ?_⟩
  refine ⟨⟨rfl, by omega⟩, ?_⟩
  refine ⟨rfl, ?_⟩
  clear hF hH; intro a w hF hH
  refine wl_end (by kernel_rfl) ?_
  refine then_n ?_
  refine wp_condE (b := false) (by kernel_rfl) (by kernel_rfl) hF (fun h => by cases h) (fun _ => ?_)
  refine wp_skipE (by kernel_rfl) ?_
  refine then_n ?_
  refine wp_seqE (by kernel_rfl) ?_
  refine drawE (n := 8) (by kernel_rfl) (by kernel_rfl) (by kernel_rfl) (by kernel_rfl) [0, 1, 2, 3] [2, 3] (.eff [(0, .cl (U := Option Addr) [] (fun u => .agg #[.int .i64 exB.g, .int .i64 exB.n, .int .u8 exB.e, .int .u8 exB.t, .int .i64 exB.i.h, .int .i64 exB.i.m, .int .i64 exB.i.s, .int .i64 exB.i.f, .bool exB.i.d, .int .i64 exB.o.h, .int .i64 exB.o.m, .int .i64 exB.o.s, .int .i64 exB.o.f, .bool exB.o.d, .int .i64 exB.r, .int .u8 exB.a, .bool exB.c, .slice u 1 1]) (fun u => [.view u 1 1 1 (byE exT)]) (fun _ => True)), (1, .mk 113 113)] (fun i => (bif Nat.beq i 0 then .eff [(1, .mk 113 113)] (fun _ => .eff [(2, .cl (U := Option Addr × Nat × (Option Addr × Nat) × (Option Addr × Nat)) [.r 5] (fun u => .tuple #[.slice u.1 2 u.2.1, .int .i64 0]) (fun u => [.view u.1 2 u.2.1 18 (blE (exBT u.2.2.1 u.2.2.2))]) (fun _ => True))] (fun _ => .take 3 (.p) (.take 4 (.p) (.take 5 (.p) (.take 6 (.p) (.take 7 (.p) ((.done [0, 1, 2, 3, 4, 5, 6])))))))) else .eff [(0, .cl (U := Option Addr) [] (fun u => .agg #[.int .i64 exB.g, .int .i64 exB.n, .int .u8 exB.e, .int .u8 exB.t, .int .i64 exB.i.h, .int .i64 exB.i.m, .int .i64 exB.i.s, .int .i64 exB.i.f, .bool exB.i.d, .int .i64 exB.o.h, .int .i64 exB.o.m, .int .i64 exB.o.s, .int .i64 exB.o.f, .bool exB.o.d, .int .i64 exB.r, .int .u8 exB.a, .bool exB.c, .slice u 1 1]) (fun u => [.view u 1 1 1 (byE exT)]) (fun _ => True))] (fun _ => .eff [(2, .cl (U := Option Addr × Nat × (Option Addr × Nat) × (Option Addr × Nat)) [.r 4] (fun u => .tuple #[.slice u.1 2 u.2.1, .int .i64 0]) (fun u => [.view u.1 2 u.2.1 18 (blE (exBT u.2.2.1 u.2.2.2))]) (fun _ => True))] (fun _ => .take 3 (.p) (.take 4 (.p) (.take 5 (.p) (.take 6 (.p) (.take 7 (.p) ((.done [0, 1, 2, 3, 5, 4, 6]))))))))))) (fun l rs => ∃ (u1 : Option Addr), ∃ (g2 : Nat), ∃ (u2 : Option Addr × Nat × (Option Addr × Nat) × (Option Addr × Nat)), l = [⟨2, none, .int .i64 0⟩, ⟨3, none, .slice u2.1 2 u2.2.1⟩] ∧ rs = [.view A1 1 1 1 (byE exT), .view A2 128 c1 1 (byE exPut), .view (some ⟨g1, 0, none⟩) 17 17 1 (byE ([0, 2, 1, 255, 0, 1, 2, 3, 4, 1, 2, 5, 0, 13, 2, 0, 65])), .view A2 17 c1 1 (byE (exPut.take 17)), .view u1 1 1 1 (byE exT), .row (some ⟨g2, 0, none⟩) 113 5 1 113 (List.replicate 113 (.int .u8 0)), .view u2.1 2 u2.2.1 18 (blE (exBT u2.2.2.1 u2.2.2.2))]) (fun K => (CallOk Try.prog 23 [] [] (U := Option Addr) (fun u => .agg #[.int .i64 exB.g, .int .i64 exB.n, .int .u8 exB.e, .int .u8 exB.t, .int .i64 exB.i.h, .int .i64 exB.i.m, .int .i64 exB.i.s, .int .i64 exB.i.f, .bool exB.i.d, .int .i64 exB.o.h, .int .i64 exB.o.m, .int .i64 exB.o.s, .int .i64 exB.o.f, .bool exB.o.d, .int .i64 exB.r, .int .u8 exB.a, .bool exB.c, .slice u 1 1]) (fun u => [.view u 1 1 1 (byE exT)]) (fun _ => True) ∧ ∀ u1 : Option Addr, (fun _ => True) u1 → (([.view A1 1 1 1 (byE exT), .view A2 128 c1 1 (byE exPut), .view (some ⟨g1, 0, none⟩) 17 17 1 (byE ([0, 2, 1, 255, 0, 1, 2, 3, 4, 1, 2, 5, 0, 13, 2, 0, 65])), .view A2 17 c1 1 (byE (exPut.take 17))] : List Res) = [.view A1 1 1 1 (byE exT), .view A2 128 c1 1 (byE exPut), .view (some ⟨g1, 0, none⟩) 17 17 1 (byE ([0, 2, 1, 255, 0, 1, 2, 3, 4, 1, 2, 5, 0, 13, 2, 0, 65])), .view A2 17 c1 1 (byE (exPut.take 17))]) ∧ (((113 : Int) = ((113 : Nat) : Int) ∧ (113 : Int) = ((113 : Nat) : Int) ∧ 113 ≤ 113 ∧ 113 * 1 ≤ 281474976710656 ∧ 113 ≤ maxLen) ∧ ∀ g2, (([.view A1 1 1 1 (byE exT), .view A2 128 c1 1 (byE exPut), .view (some ⟨g1, 0, none⟩) 17 17 1 (byE ([0, 2, 1, 255, 0, 1, 2, 3, 4, 1, 2, 5, 0, 13, 2, 0, 65])), .view A2 17 c1 1 (byE (exPut.take 17))] : List Res) = [.view A1 1 1 1 (byE exT), .view A2 128 c1 1 (byE exPut), .view (some ⟨g1, 0, none⟩) 17 17 1 (byE ([0, 2, 1, 255, 0, 1, 2, 3, 4, 1, 2, 5, 0, 13, 2, 0, 65])), .view A2 17 c1 1 (byE (exPut.take 17))]) ∧ (CallOk Try.prog 10 [.agg #[.int .i64 exB.g, .int .i64 exB.n, .int .u8 exB.e, .int .u8 exB.t, .int .i64 exB.i.h, .int .i64 exB.i.m, .int .i64 exB.i.s, .int .i64 exB.i.f, .bool exB.i.d, .int .i64 exB.o.h, .int .i64 exB.o.m, .int .i64 exB.o.s, .int .i64 exB.o.f, .bool exB.o.d, .int .i64 exB.r, .int .u8 exB.a, .bool exB.c, .slice u1 1 1], .slice (some ⟨g2, 0, none⟩) 113 113] [.row (some ⟨g2, 0, none⟩) 113 5 1 113 (List.replicate 113 (.int .u8 0))] (U := Option Addr × Nat × (Option Addr × Nat) × (Option Addr × Nat)) (fun u => .tuple #[.slice u.1 2 u.2.1, .int .i64 0]) (fun u => [.view u.1 2 u.2.1 18 (blE (exBT u.2.2.1 u.2.2.2))]) (fun _ => True) ∧ ∀ u2 : Option Addr × Nat × (Option Addr × Nat) × (Option Addr × Nat), (fun _ => True) u2 → (([.view A1 1 1 1 (byE exT), .view A2 128 c1 1 (byE exPut), .view (some ⟨g1, 0, none⟩) 17 17 1 (byE ([0, 2, 1, 255, 0, 1, 2, 3, 4, 1, 2, 5, 0, 13, 2, 0, 65])), .view A2 17 c1 1 (byE (exPut.take 17))] : List Res) = [.view A1 1 1 1 (byE exT), .view A2 128 c1 1 (byE exPut), .view (some ⟨g1, 0, none⟩) 17 17 1 (byE ([0, 2, 1, 255, 0, 1, 2, 3, 4, 1, 2, 5, 0, 13, 2, 0, 65])), .view A2 17 c1 1 (byE (exPut.take 17))]) ∧ K [⟨2, none, .int .i64 0⟩, ⟨3, none, .slice u2.1 2 u2.2.1⟩] [.view A1 1 1 1 (byE exT), .view A2 128 c1 1 (byE exPut), .view (some ⟨g1, 0, none⟩) 17 17 1 (byE ([0, 2, 1, 255, 0, 1, 2, 3, 4, 1, 2, 5, 0, 13, 2, 0, 65])), .view A2 17 c1 1 (byE (exPut.take 17)), .view u1 1 1 1 (byE exT), .row (some ⟨g2, 0, none⟩) 113 5 1 113 (List.replicate 113 (.int .u8 0)), .view u2.1 2 u2.2.1 18 (blE (exBT u2.2.2.1 u2.2.2.2))]))) ∧ (((113 : Int) = ((113 : Nat) : Int) ∧ (113 : Int) = ((113 : Nat) : Int) ∧ 113 ≤ 113 ∧ 113 * 1 ≤ 281474976710656 ∧ 113 ≤ maxLen) ∧ ∀ g3, (([.view A1 1 1 1 (byE exT), .view A2 128 c1 1 (byE exPut), .view (some ⟨g1, 0, none⟩) 17 17 1 (byE ([0, 2, 1, 255, 0, 1, 2, 3, 4, 1, 2, 5, 0, 13, 2, 0, 65])), .view A2 17 c1 1 (byE (exPut.take 17))] : List Res) = [.view A1 1 1 1 (byE exT), .view A2 128 c1 1 (byE exPut), .view (some ⟨g1, 0, none⟩) 17 17 1 (byE ([0, 2, 1, 255, 0, 1, 2, 3, 4, 1, 2, 5, 0, 13, 2, 0, 65])), .view A2 17 c1 1 (byE (exPut.take 17))]) ∧ (CallOk Try.prog 23 [] [] (U := Option Addr) (fun u => .agg #[.int .i64 exB.g, .int .i64 exB.n, .int .u8 exB.e, .int .u8 exB.t, .int .i64 exB.i.h, .int .i64 exB.i.m, .int .i64 exB.i.s, .int .i64 exB.i.f, .bool exB.i.d, .int .i64 exB.o.h, .int .i64 exB.o.m, .int .i64 exB.o.s, .int .i64 exB.o.f, .bool exB.o.d, .int .i64 exB.r, .int .u8 exB.a, .bool exB.c, .slice u 1 1]) (fun u => [.view u 1 1 1 (byE exT)]) (fun _ => True) ∧ ∀ u3 : Option Addr, (fun _ => True) u3 → (([.view A1 1 1 1 (byE exT), .view A2 128 c1 1 (byE exPut), .view (some ⟨g1, 0, none⟩) 17 17 1 (byE ([0, 2, 1, 255, 0, 1, 2, 3, 4, 1, 2, 5, 0, 13, 2, 0, 65])), .view A2 17 c1 1 (byE (exPut.take 17))] : List Res) = [.view A1 1 1 1 (byE exT), .view A2 128 c1 1 (byE exPut), .view (some ⟨g1, 0, none⟩) 17 17 1 (byE ([0, 2, 1, 255, 0, 1, 2, 3, 4, 1, 2, 5, 0, 13, 2, 0, 65])), .view A2 17 c1 1 (byE (exPut.take 17))]) ∧ (CallOk Try.prog 10 [.agg #[.int .i64 exB.g, .int .i64 exB.n, .int .u8 exB.e, .int .u8 exB.t, .int .i64 exB.i.h, .int .i64 exB.i.m, .int .i64 exB.i.s, .int .i64 exB.i.f, .bool exB.i.d, .int .i64 exB.o.h, .int .i64 exB.o.m, .int .i64 exB.o.s, .int .i64 exB.o.f, .bool exB.o.d, .int .i64 exB.r, .int .u8 exB.a, .bool exB.c, .slice u3 1 1], .slice (some ⟨g3, 0, none⟩) 113 113] [.row (some ⟨g3, 0, none⟩) 113 5 1 113 (List.replicate 113 (.int .u8 0))] (U := Option Addr × Nat × (Option Addr × Nat) × (Option Addr × Nat)) (fun u => .tuple #[.slice u.1 2 u.2.1, .int .i64 0]) (fun u => [.view u.1 2 u.2.1 18 (blE (exBT u.2.2.1 u.2.2.2))]) (fun _ => True) ∧ ∀ u4 : Option Addr × Nat × (Option Addr × Nat) × (Option Addr × Nat), (fun _ => True) u4 → (([.view A1 1 1 1 (byE exT), .view A2 128 c1 1 (byE exPut), .view (some ⟨g1, 0, none⟩) 17 17 1 (byE ([0, 2, 1, 255, 0, 1, 2, 3, 4, 1, 2, 5, 0, 13, 2, 0, 65])), .view A2 17 c1 1 (byE (exPut.take 17))] : List Res) = [.view A1 1 1 1 (byE exT), .view A2 128 c1 1 (byE exPut), .view (some ⟨g1, 0, none⟩) 17 17 1 (byE ([0, 2, 1, 255, 0, 1, 2, 3, 4, 1, 2, 5, 0, 13, 2, 0, 65])), .view A2 17 c1 1 (byE (exPut.take 17))]) ∧ K [⟨2, none, .int .i64 0⟩, ⟨3, none, .slice u4.1 2 u4.2.1⟩] [.view A1 1 1 1 (byE exT), .view A2 128 c1 1 (byE exPut), .view (some ⟨g1, 0, none⟩) 17 17 1 (byE ([0, 2, 1, 255, 0, 1, 2, 3, 4, 1, 2, 5, 0, 13, 2, 0, 65])), .view A2 17 c1 1 (byE (exPut.take 17)), .view u3 1 1 1 (byE exT), .row (some ⟨g3, 0, none⟩) 113 5 1 113 (List.replicate 113 (.int .u8 0)), .view u4.1 2 u4.2.1 18 (blE (exBT u4.2.2.1 u4.2.2.2))])))) (fun K => by kernel_rfl) hF hH (⟨(⟨example_c, (by rintro u1 -; exact ⟨rfl, (⟨⟨by omega, by omega, by omega, by omega, by (unfold maxLen; omega)⟩, fun g2 => ⟨rfl, (⟨split_ex u1 g2, (by rintro u2 -; exact ⟨rfl, ⟨u1, g2, u2, rfl, rfl⟩⟩)⟩)⟩⟩)⟩)⟩), (⟨⟨by omega, by omega, by omega, by omega, by (unfold maxLen; omega)⟩, fun g3 => ⟨rfl, (⟨example_c, (by rintro u3 -; exact ⟨rfl, (⟨split_ex u3 g3, (by rintro u4 -; exact ⟨rfl, ⟨u3, g3, u4, rfl, rfl⟩⟩)⟩)⟩)⟩)⟩⟩)⟩) ?_
  clear hF hH; rintro l rs a w ⟨u1, g2, u2, rfl, rfl⟩ hF hH
  refine then_n ?_
  refine wp_seqE (by kernel_rfl) ?_
  refine wp_regE (by kernel_rfl) ?_
  refine seg [.p, .p, .p, .gt (.p), .gt (.p), .gt (.p), .p, .p, .gt (.p), .gt (.ia (.r 6) 0), .gt (.p), .gt (.lv (.r 6) 0 2), .gt (.p), .p, .p, .gt (.p), .gt (.ia (.r 6) 1), .gt (.p), .gt (.lv (.r 6) 1 2), .gt (.p), .p, .p, .gt (.p), .gt (.ia (.r 6) 0), .gt (.p), .gt (.lv (.r 6) 0 17), .gt (.p), .gt (.p), .p, .p, .gt (.p), .gt (.ia (.r 6) 1), .gt (.p), .gt (.lv (.r 6) 1 17), .gt (.p), .gt (.p), .p, .p] [0] (fun K => (true = true) ∧ (true = true) ∧ (true = true) ∧ (true = true) ∧ (true = true) ∧ (((u2.1) : Option Addr) = u2.1 ∧ (2 : Nat) = 2 ∧ (18 : Nat) = 18 ∧ (0 : Int) = ((0 : Nat) : Int) ∧ 0 < 2) ∧ (true = true) ∧ (true = true) ∧ (((u2.1.getD nilA).add (0 * 18)).add 2 = ((u2.1.getD nilA).add (0 * 18)).add 2 ∧ 0 < 2) ∧ (true = true) ∧ (true = true) ∧ (true = true) ∧ (((u2.1) : Option Addr) = u2.1 ∧ (2 : Nat) = 2 ∧ (18 : Nat) = 18 ∧ (1 : Int) = ((1 : Nat) : Int) ∧ 1 < 2) ∧ (true = true) ∧ (true = true) ∧ (((u2.1.getD nilA).add (1 * 18)).add 2 = ((u2.1.getD nilA).add (1 * 18)).add 2 ∧ 1 < 2) ∧ (true = true) ∧ (true = true) ∧ (true = true) ∧ (((u2.1) : Option Addr) = u2.1 ∧ (2 : Nat) = 2 ∧ (18 : Nat) = 18 ∧ (0 : Int) = ((0 : Nat) : Int) ∧ 0 < 2) ∧ (true = true) ∧ (true = true) ∧ (((u2.1.getD nilA).add (0 * 18)).add 17 = ((u2.1.getD nilA).add (0 * 18)).add 17 ∧ 0 < 2) ∧ (true = true) ∧ (true = true) ∧ (true = true) ∧ (true = true) ∧ (((u2.1) : Option Addr) = u2.1 ∧ (2 : Nat) = 2 ∧ (18 : Nat) = 18 ∧ (1 : Int) = ((1 : Nat) : Int) ∧ 1 < 2) ∧ (true = true) ∧ (true = true) ∧ (((u2.1.getD nilA).add (1 * 18)).add 17 = ((u2.1.getD nilA).add (1 * 18)).add 17 ∧ 1 < 2) ∧ (true = true) ∧ (true = true) ∧ K [⟨0, none, .bool true⟩] [.view A1 1 1 1 (byE exT), .view A2 128 c1 1 (byE exPut), .view (some ⟨g1, 0, none⟩) 17 17 1 (byE ([0, 2, 1, 255, 0, 1, 2, 3, 4, 1, 2, 5, 0, 13, 2, 0, 65])), .view A2 17 c1 1 (byE (exPut.take 17)), .view u1 1 1 1 (byE exT), .row (some ⟨g2, 0, none⟩) 113 5 1 113 (List.replicate 113 (.int .u8 0)), .view u2.1 2 u2.2.1 18 (blE (exBT u2.2.2.1 u2.2.2.2))]) (fun K => by kernel_rfl) hF hH ?_
  refine ⟨rfl, ?_⟩
  refine ⟨rfl, ?_⟩
  refine ⟨rfl, ?_⟩
  refine ⟨rfl, ?_⟩
  refine ⟨rfl, ?_⟩
  refine ⟨⟨rfl, rfl, rfl, by omega, by omega⟩, ?_⟩
  refine ⟨rfl, ?_⟩
  refine ⟨rfl, ?_⟩
  refine ⟨⟨rfl, by omega⟩, ?_⟩
  refine ⟨rfl, ?_⟩
  refine ⟨rfl, ?_⟩
  refine ⟨rfl, ?_⟩
  refine ⟨⟨rfl, rfl, rfl, by omega, by omega⟩, ?_⟩
  refine ⟨rfl, ?_⟩
  refine ⟨rfl, ?_⟩
  refine ⟨⟨rfl, by omega⟩, ?_⟩
  refine ⟨rfl, ?_⟩
  refine ⟨rfl, ?_⟩
  refine ⟨rfl, ?_⟩
  refine ⟨⟨rfl, rfl, rfl, by omega, by omega⟩, ?_⟩
  refine ⟨rfl, ?_⟩
  refine ⟨rfl, ?_⟩
  refine ⟨⟨rfl, by omega⟩, ?_⟩
  refine ⟨rfl, ?_⟩
  refine ⟨rfl, ?_⟩
  refine ⟨rfl, ?_⟩
  refine ⟨rfl, ?_⟩
  refine ⟨⟨rfl, rfl, rfl, by omega, by omega⟩, ?_⟩
  refine ⟨rfl, ?_⟩
  refine ⟨rfl, ?_⟩
  refine ⟨⟨rfl, by omega⟩, ?_⟩
  refine ⟨rfl, ?_⟩
  refine ⟨rfl, ?_⟩
  clear hF hH; intro a w hF hH
  refine wl_end (by kernel_rfl) ?_
  refine then_n ?_
  refine wp_retE (by kernel_rfl) ?_
  refine retE (vs := [.bool true]) (p := True) (v := .bool true) [] (by kernel_rfl) trivial (by kernel_rfl) hF hH ?_
  exact fin0 rfl hH

end Go.Proofs.Ytcccboodapgejaa
