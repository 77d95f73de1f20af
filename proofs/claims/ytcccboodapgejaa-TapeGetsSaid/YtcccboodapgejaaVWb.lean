/-
  A call of each function gives what its model gives: printed by a program, checked by the kernel.
-/
import Derived.Test.YtcccboodapgejaaVWa
namespace Go.Proofs.Ytcccboodapgejaa
open Go.Sym Go.Cap

theorem c_r23_Put (N : Nat) (x0 : TBlock) (gx0 : Gs Unit) (r : (List UInt8) × Int) (hm : r23_Put N x0 = some r) : CallOk Try.prog 19 [ag (cTBlock x0 gx0)] [vw elB x0.Text.length x0.Text gx0] [] (U := Gs Unit) (fun u => .tuple #[sl r.1.length u, .int .i64 r.2]) (fun u => [rw 5 elB r.1.length r.1 u]) (fun _ => []) (fun _ => True) := by
  unfold r23_Put at hm
  refine callI (N := 79) Try.func19 (by kernel_rfl) (by kernel_rfl) (by kernel_rfl) ?_
  intro w0 B M a hF hH
  refine wp_seqE (by kernel_rfl) ?_
  refine wp_regE (by kernel_rfl) ?_
  refine seg [.bx, .p, .p] [1] (fun K => ∀ g1, K [⟨1, none, .pointer (some ⟨g1, 0, none⟩)⟩] [.box g1 27 (cTBlock x0 gx0)]) (fun K => by kernel_rfl) hF hH ?_
  intro g1
  clear hF hH; intro a w hF hH
  refine wl_end (by kernel_rfl) ?_
  refine then_n ?_
  refine wp_seqE (by kernel_rfl) ?_
  refine wp_seqE (by kernel_rfl) ?_
  refine wp_regE (by kernel_rfl) ?_
  refine seg [.ld (.r 0)] [1, 7] (fun K => (((g1 : Nat) = g1) ∧ ((none : Option Nat) = none)) ∧ K [⟨1, none, .pointer (some ⟨g1, 0, none⟩)⟩, ⟨7, none, ag (cTBlock x0 gx0)⟩] [.box g1 27 (cTBlock x0 gx0)]) (fun K => by kernel_rfl) hF hH ?_
  refine ⟨⟨rfl, rfl⟩, ?_⟩
  clear hF hH; intro a w hF hH
  obtain ⟨r1, hx1, hm⟩ := bnd_some hm
  refine callE (d := 8) (c_r23_Check N x0 gx0 r1 hx1) [.v (.n 0)] [] (by kernel_rfl) trivial (.inl rfl) (by kernel_rfl) (by kernel_rfl) (by kernel_rfl) (by kernel_rfl) hF hH ?_
  clear hF hH; rintro ⟨⟩ - a w hF hH
  refine seg [.p] [1, 4] (fun K => K [⟨1, none, .pointer (some ⟨g1, 0, none⟩)⟩, ⟨4, none, .int .i64 r1⟩] [.box g1 27 (cTBlock x0 gx0)]) (fun K => by kernel_rfl) hF hH ?_
  clear hF hH; intro a w hF hH
  refine wl_end (by kernel_rfl) ?_
  refine then_n ?_
  refine wp_seqE (by kernel_rfl) ?_
  refine wp_regE (by kernel_rfl) ?_
  refine seg [.p, .p] [1, 4, 10] (fun K => K [⟨1, none, .pointer (some ⟨g1, 0, none⟩)⟩, ⟨4, none, .int .i64 r1⟩, ⟨10, none, .bool (r1 != 0)⟩] [.box g1 27 (cTBlock x0 gx0)]) (fun K => by kernel_rfl) hF hH ?_
  clear hF hH; intro a w hF hH
  refine wl_end (by kernel_rfl) ?_
  refine then_n ?_
  refine wp_condE (b := r1 != 0) (by kernel_rfl) (by kernel_rfl) hF (fun hb1 => ?_) (fun hb1 => ?_)
  · have hm := condT hb1 hm
    have hb1p := ne_of_bne hb1
    refine wp_seqE (by kernel_rfl) ?_
    refine wp_regE (by kernel_rfl) ?_
    refine seg [.p, .p, .p] [2, 3] (fun K => K [⟨2, none, sl 0 (gu none 0)⟩, ⟨3, none, .int .i64 r1⟩] [.box g1 27 (cTBlock x0 gx0)]) (fun K => by kernel_rfl) hF hH ?_
    clear hF hH; intro a w hF hH
    refine wl_end (by kernel_rfl) ?_
    refine then_n ?_
    refine wp_retE (by kernel_rfl) ?_
    refine then_ret ?_
    have hH := hH.nilRw 5 elB (gu none 0) rfl rfl
    refine retE (vs := [sl 0 (gu none 0), .int .i64 r1]) (p := True) (v := .tuple #[sl 0 (gu none 0), .int .i64 r1]) [] (by kernel_rfl) trivial (by kernel_rfl) hF hH ?_
    obtain rfl := Option.some.inj hm
    exact ⟨(gu none 0), by kernel_rfl, hH.below, trivial, newK hH [1] [] (by kernel_rfl) (by kernel_rfl) (by kernel_rfl) (by kernel_rfl)⟩
  · have hm := condF hb1 hm
    have hb1p := eq_of_bne_false hb1
    refine wp_skipE (by kernel_rfl) ?_
    refine then_n ?_
    refine wp_seqE (by kernel_rfl) ?_
    refine wp_regE (by kernel_rfl) ?_
    refine seg [.p, .ld (.r 0), .pv (.int .u8 ((b8 x0.Group).toNat : Int)), .p, .ld (.r 0), .p, .pv (.int .u8 ((b8 (Int.tmod x0.Number 256)).toNat : Int)), .p, .ld (.r 0), .p, .pv (.int .u8 ((b8 (w64 (Int.tdiv x0.Number 256))).toNat : Int)), .p, .ld (.r 0), .p, .ld (.r 0), .bs, .p] [1, 5] (fun K => (((g1 : Nat) = g1) ∧ ((none : Option Nat) = none)) ∧ (Value.int .u8 (IntKind.wrap .u8 x0.Group) = .int .u8 ((b8 x0.Group).toNat : Int)) ∧ (((g1 : Nat) = g1) ∧ ((none : Option Nat) = none)) ∧ (Value.int .u8 (IntKind.wrap .u8 (Int.tmod x0.Number 256)) = .int .u8 ((b8 (Int.tmod x0.Number 256)).toNat : Int)) ∧ (((g1 : Nat) = g1) ∧ ((none : Option Nat) = none)) ∧ (Value.int .u8 (IntKind.wrap .u8 (w64 (Int.tdiv x0.Number 256))) = .int .u8 ((b8 (w64 (Int.tdiv x0.Number 256))).toNat : Int)) ∧ (((g1 : Nat) = g1) ∧ ((none : Option Nat) = none)) ∧ (((g1 : Nat) = g1) ∧ ((none : Option Nat) = none)) ∧ ∀ g2, K [⟨1, none, .pointer (some ⟨g1, 0, none⟩)⟩, ⟨5, none, sl 5 (gu (some ⟨g2, 0, none⟩) 5)⟩] [.box g1 27 (cTBlock x0 gx0), .box g2 5 [.int .u8 ((b8 x0.Group).toNat : Int), .int .u8 ((b8 (Int.tmod x0.Number 256)).toNat : Int), .int .u8 ((b8 (w64 (Int.tdiv x0.Number 256))).toNat : Int), .int .u8 (x0.Extension.toNat : Int), .int .u8 (x0.Status.toNat : Int)]]) (fun K => by kernel_rfl) hF hH ?_
    refine ⟨⟨rfl, rfl⟩, ?_⟩
    refine ⟨wr_b8 _, ?_⟩
    refine ⟨⟨rfl, rfl⟩, ?_⟩
    refine ⟨wr_b8 _, ?_⟩
    refine ⟨⟨rfl, rfl⟩, ?_⟩
    refine ⟨wr_b8 _, ?_⟩
    refine ⟨⟨rfl, rfl⟩, ?_⟩
    refine ⟨⟨rfl, rfl⟩, ?_⟩
    intro g2
    clear hF hH; intro a w hF hH
    refine wl_end (by kernel_rfl) ?_
    refine then_n ?_
    refine wp_seqE (by kernel_rfl) ?_
    refine wp_regE (by kernel_rfl) ?_
    refine seg [.p, .p, .p, .ld (.r 0), .pv (.int .u8 ((b8 x0.In.H).toNat : Int)), .p, .p, .ld (.r 0), .pv (.int .u8 ((b8 x0.In.M).toNat : Int)), .p, .p, .ld (.r 0), .pv (.int .u8 ((b8 x0.In.S).toNat : Int)), .p, .p, .ld (.r 0), .pv (.int .u8 ((b8 x0.In.F).toNat : Int)), .p, .p, .ld (.r 0), .pv (.int .u8 ((b8 x0.Out.H).toNat : Int)), .p, .p, .ld (.r 0), .pv (.int .u8 ((b8 x0.Out.M).toNat : Int)), .p, .p, .ld (.r 0), .pv (.int .u8 ((b8 x0.Out.S).toNat : Int)), .p, .p, .ld (.r 0), .pv (.int .u8 ((b8 x0.Out.F).toNat : Int)), .bs] [1, 5, 28, 61] (fun K => (((g1 : Nat) = g1) ∧ ((none : Option Nat) = none)) ∧ (Value.int .u8 (IntKind.wrap .u8 x0.In.H) = .int .u8 ((b8 x0.In.H).toNat : Int)) ∧ (((g1 : Nat) = g1) ∧ ((none : Option Nat) = none)) ∧ (Value.int .u8 (IntKind.wrap .u8 x0.In.M) = .int .u8 ((b8 x0.In.M).toNat : Int)) ∧ (((g1 : Nat) = g1) ∧ ((none : Option Nat) = none)) ∧ (Value.int .u8 (IntKind.wrap .u8 x0.In.S) = .int .u8 ((b8 x0.In.S).toNat : Int)) ∧ (((g1 : Nat) = g1) ∧ ((none : Option Nat) = none)) ∧ (Value.int .u8 (IntKind.wrap .u8 x0.In.F) = .int .u8 ((b8 x0.In.F).toNat : Int)) ∧ (((g1 : Nat) = g1) ∧ ((none : Option Nat) = none)) ∧ (Value.int .u8 (IntKind.wrap .u8 x0.Out.H) = .int .u8 ((b8 x0.Out.H).toNat : Int)) ∧ (((g1 : Nat) = g1) ∧ ((none : Option Nat) = none)) ∧ (Value.int .u8 (IntKind.wrap .u8 x0.Out.M) = .int .u8 ((b8 x0.Out.M).toNat : Int)) ∧ (((g1 : Nat) = g1) ∧ ((none : Option Nat) = none)) ∧ (Value.int .u8 (IntKind.wrap .u8 x0.Out.S) = .int .u8 ((b8 x0.Out.S).toNat : Int)) ∧ (((g1 : Nat) = g1) ∧ ((none : Option Nat) = none)) ∧ (Value.int .u8 (IntKind.wrap .u8 x0.Out.F) = .int .u8 ((b8 x0.Out.F).toNat : Int)) ∧ ∀ g3, K [⟨1, none, .pointer (some ⟨g1, 0, none⟩)⟩, ⟨5, none, sl 5 (gu (some ⟨g2, 0, none⟩) 5)⟩, ⟨28, none, sl 5 (gu (some ⟨g2, 0, none⟩) 5)⟩, ⟨61, none, sl 8 (gu (some ⟨g3, 0, none⟩) 8)⟩] [.box g1 27 (cTBlock x0 gx0), .box g2 5 [.int .u8 ((b8 x0.Group).toNat : Int), .int .u8 ((b8 (Int.tmod x0.Number 256)).toNat : Int), .int .u8 ((b8 (w64 (Int.tdiv x0.Number 256))).toNat : Int), .int .u8 (x0.Extension.toNat : Int), .int .u8 (x0.Status.toNat : Int)], .box g3 5 [.int .u8 ((b8 x0.In.H).toNat : Int), .int .u8 ((b8 x0.In.M).toNat : Int), .int .u8 ((b8 x0.In.S).toNat : Int), .int .u8 ((b8 x0.In.F).toNat : Int), .int .u8 ((b8 x0.Out.H).toNat : Int), .int .u8 ((b8 x0.Out.M).toNat : Int), .int .u8 ((b8 x0.Out.S).toNat : Int), .int .u8 ((b8 x0.Out.F).toNat : Int)]]) (fun K => by kernel_rfl) hF hH ?_
    refine ⟨⟨rfl, rfl⟩, ?_⟩
    refine ⟨wr_b8 _, ?_⟩
    refine ⟨⟨rfl, rfl⟩, ?_⟩
    refine ⟨wr_b8 _, ?_⟩
    refine ⟨⟨rfl, rfl⟩, ?_⟩
    refine ⟨wr_b8 _, ?_⟩
    refine ⟨⟨rfl, rfl⟩, ?_⟩
    refine ⟨wr_b8 _, ?_⟩
    refine ⟨⟨rfl, rfl⟩, ?_⟩
    refine ⟨wr_b8 _, ?_⟩
    refine ⟨⟨rfl, rfl⟩, ?_⟩
    refine ⟨wr_b8 _, ?_⟩
    refine ⟨⟨rfl, rfl⟩, ?_⟩
    refine ⟨wr_b8 _, ?_⟩
    refine ⟨⟨rfl, rfl⟩, ?_⟩
    refine ⟨wr_b8 _, ?_⟩
    intro g3
    clear hF hH; intro a w hF hH
    have hH := hH.boxRw (n := 5) (k := 1) (e := elB) (xs := [b8 x0.Group, b8 (Int.tmod x0.Number 256), b8 (w64 (Int.tdiv x0.Number 256)), x0.Extension, x0.Status]) (s := (gu (some ⟨g2, 0, none⟩) 5)) rfl (by kernel_rfl) rfl rfl rfl (by unfold maxLen; omega)
    obtain ⟨hp1, hm⟩ := grd_some hm
    refine seg [.ap 1 (.r 2) (rowC elB [b8 x0.In.H, b8 x0.In.M, b8 x0.In.S, b8 x0.In.F, b8 x0.Out.H, b8 x0.Out.M, b8 x0.Out.S, b8 x0.Out.F] (fun _ => ())) (([b8 x0.Group, b8 (Int.tmod x0.Number 256), b8 (w64 (Int.tdiv x0.Number 256)), x0.Extension, x0.Status] ++ [b8 x0.In.H, b8 x0.In.M, b8 x0.In.S, b8 x0.In.F, b8 x0.Out.H, b8 x0.Out.M, b8 x0.Out.S, b8 x0.Out.F]).length) (rowC elB ([b8 x0.Group, b8 (Int.tmod x0.Number 256), b8 (w64 (Int.tdiv x0.Number 256)), x0.Extension, x0.Status] ++ [b8 x0.In.H, b8 x0.In.M, b8 x0.In.S, b8 x0.In.F, b8 x0.Out.H, b8 x0.Out.M, b8 x0.Out.S, b8 x0.Out.F]) (fun _ => ())), .p] [1, 5] (fun K => ((((gu (some ⟨g2, 0, none⟩) 5).a : Option Addr) = (gu (some ⟨g2, 0, none⟩) 5).a) ∧ (((gu (some ⟨g2, 0, none⟩) 5).c : Nat) = (gu (some ⟨g2, 0, none⟩) 5).c) ∧ ((5 : Nat) = 5) ∧ srcP (.box g3 5 [.int .u8 ((b8 x0.In.H).toNat : Int), .int .u8 ((b8 x0.In.M).toNat : Int), .int .u8 ((b8 x0.In.S).toNat : Int), .int .u8 ((b8 x0.In.F).toNat : Int), .int .u8 ((b8 x0.Out.H).toNat : Int), .int .u8 ((b8 x0.Out.M).toNat : Int), .int .u8 ((b8 x0.Out.S).toNat : Int), .int .u8 ((b8 x0.Out.F).toNat : Int)]) (gu (some ⟨g3, 0, none⟩) 8).a 8 1 (rowC elB [b8 x0.In.H, b8 x0.In.M, b8 x0.In.S, b8 x0.In.F, b8 x0.Out.H, b8 x0.Out.M, b8 x0.Out.S, b8 x0.Out.F] (fun _ => ())) ∧ (∀ u ∈ (rowC elB [b8 x0.In.H, b8 x0.In.M, b8 x0.In.S, b8 x0.In.F, b8 x0.Out.H, b8 x0.Out.M, b8 x0.Out.S, b8 x0.Out.F] (fun _ => ()) : List Value), u.oneCell' = true) ∧ (5 + 8 ≤ maxLen) ∧ ((5 + 8) * 1 ≤ 140737488355328) ∧ (5 + 8 = ([b8 x0.Group, b8 (Int.tmod x0.Number 256), b8 (w64 (Int.tdiv x0.Number 256)), x0.Extension, x0.Status] ++ [b8 x0.In.H, b8 x0.In.M, b8 x0.In.S, b8 x0.In.F, b8 x0.Out.H, b8 x0.Out.M, b8 x0.Out.S, b8 x0.Out.F]).length) ∧ (rowC elB [b8 x0.Group, b8 (Int.tmod x0.Number 256), b8 (w64 (Int.tdiv x0.Number 256)), x0.Extension, x0.Status] (gu (some ⟨g2, 0, none⟩) 5).g ++ rowC elB [b8 x0.In.H, b8 x0.In.M, b8 x0.In.S, b8 x0.In.F, b8 x0.Out.H, b8 x0.Out.M, b8 x0.Out.S, b8 x0.Out.F] (fun _ => ()) = rowC elB ([b8 x0.Group, b8 (Int.tmod x0.Number 256), b8 (w64 (Int.tdiv x0.Number 256)), x0.Extension, x0.Status] ++ [b8 x0.In.H, b8 x0.In.M, b8 x0.In.S, b8 x0.In.F, b8 x0.Out.H, b8 x0.Out.M, b8 x0.Out.S, b8 x0.Out.F]) (fun _ => ()))) ∧ ∀ A1 c1, K [⟨1, none, .pointer (some ⟨g1, 0, none⟩)⟩, ⟨5, none, sl (([b8 x0.Group, b8 (Int.tmod x0.Number 256), b8 (w64 (Int.tdiv x0.Number 256)), x0.Extension, x0.Status] ++ [b8 x0.In.H, b8 x0.In.M, b8 x0.In.S, b8 x0.In.F, b8 x0.Out.H, b8 x0.Out.M, b8 x0.Out.S, b8 x0.Out.F]).length) (gu A1 c1)⟩] [.box g1 27 (cTBlock x0 gx0), rw 5 elB (([b8 x0.Group, b8 (Int.tmod x0.Number 256), b8 (w64 (Int.tdiv x0.Number 256)), x0.Extension, x0.Status] ++ [b8 x0.In.H, b8 x0.In.M, b8 x0.In.S, b8 x0.In.F, b8 x0.Out.H, b8 x0.Out.M, b8 x0.Out.S, b8 x0.Out.F]).length) ([b8 x0.Group, b8 (Int.tmod x0.Number 256), b8 (w64 (Int.tdiv x0.Number 256)), x0.Extension, x0.Status] ++ [b8 x0.In.H, b8 x0.In.M, b8 x0.In.S, b8 x0.In.F, b8 x0.Out.H, b8 x0.Out.M, b8 x0.Out.S, b8 x0.Out.F]) (gu A1 c1), .box g3 5 [.int .u8 ((b8 x0.In.H).toNat : Int), .int .u8 ((b8 x0.In.M).toNat : Int), .int .u8 ((b8 x0.In.S).toNat : Int), .int .u8 ((b8 x0.In.F).toNat : Int), .int .u8 ((b8 x0.Out.H).toNat : Int), .int .u8 ((b8 x0.Out.M).toNat : Int), .int .u8 ((b8 x0.Out.S).toNat : Int), .int .u8 ((b8 x0.Out.F).toNat : Int)]]) (fun K => by kernel_rfl) hF hH ?_
    refine ⟨⟨rfl, rfl, rfl, ⟨rfl, rfl, rfl⟩, rowC_one _ _ _, by (unfold maxLen; omega), by omega, by first | rfl | omega | (simp only [List.length_append, List.length_cons, List.length_nil] <;> omega), (rowC_appU _ _ _ _ _ _).symm⟩, ?_⟩
    intro A1 c1
    clear hF hH; intro a w hF hH
    refine wl_end (by kernel_rfl) ?_
    refine then_n ?_
    refine wp_seqE (by kernel_rfl) ?_
    refine wp_regE (by kernel_rfl) ?_
    refine seg [.p] [1, 5, 6] (fun K => K [⟨1, none, .pointer (some ⟨g1, 0, none⟩)⟩, ⟨5, none, sl (([b8 x0.Group, b8 (Int.tmod x0.Number 256), b8 (w64 (Int.tdiv x0.Number 256)), x0.Extension, x0.Status] ++ [b8 x0.In.H, b8 x0.In.M, b8 x0.In.S, b8 x0.In.F, b8 x0.Out.H, b8 x0.Out.M, b8 x0.Out.S, b8 x0.Out.F]).length) (gu A1 c1)⟩, ⟨6, none, .int .u8 0⟩] [.box g1 27 (cTBlock x0 gx0), rw 5 elB (([b8 x0.Group, b8 (Int.tmod x0.Number 256), b8 (w64 (Int.tdiv x0.Number 256)), x0.Extension, x0.Status] ++ [b8 x0.In.H, b8 x0.In.M, b8 x0.In.S, b8 x0.In.F, b8 x0.Out.H, b8 x0.Out.M, b8 x0.Out.S, b8 x0.Out.F]).length) ([b8 x0.Group, b8 (Int.tmod x0.Number 256), b8 (w64 (Int.tdiv x0.Number 256)), x0.Extension, x0.Status] ++ [b8 x0.In.H, b8 x0.In.M, b8 x0.In.S, b8 x0.In.F, b8 x0.Out.H, b8 x0.Out.M, b8 x0.Out.S, b8 x0.Out.F]) (gu A1 c1), .box g3 5 [.int .u8 ((b8 x0.In.H).toNat : Int), .int .u8 ((b8 x0.In.M).toNat : Int), .int .u8 ((b8 x0.In.S).toNat : Int), .int .u8 ((b8 x0.In.F).toNat : Int), .int .u8 ((b8 x0.Out.H).toNat : Int), .int .u8 ((b8 x0.Out.M).toNat : Int), .int .u8 ((b8 x0.Out.S).toNat : Int), .int .u8 ((b8 x0.Out.F).toNat : Int)]]) (fun K => by kernel_rfl) hF hH ?_
    clear hF hH; intro a w hF hH
    refine wl_end (by kernel_rfl) ?_
    refine then_n ?_
    obtain ⟨jk1, hjk1, hm⟩ := jn_some hm
    refine wp_seqJ (by kernel_rfl) (fun a w => ∃ (v1 : UInt8), jk1 v1 = some r ∧ Fr 79 [⟨1, none, .pointer (some ⟨g1, 0, none⟩)⟩, ⟨5, none, sl (([b8 x0.Group, b8 (Int.tmod x0.Number 256), b8 (w64 (Int.tdiv x0.Number 256)), x0.Extension, x0.Status] ++ [b8 x0.In.H, b8 x0.In.M, b8 x0.In.S, b8 x0.In.F, b8 x0.Out.H, b8 x0.Out.M, b8 x0.Out.S, b8 x0.Out.F]).length) (gu A1 c1)⟩, ⟨6, none, .int .u8 (v1.toNat : Int)⟩] a ∧ Hp w0 B M [vw elB x0.Text.length x0.Text gx0] [.box g1 27 (cTBlock x0 gx0), rw 5 elB (([b8 x0.Group, b8 (Int.tmod x0.Number 256), b8 (w64 (Int.tdiv x0.Number 256)), x0.Extension, x0.Status] ++ [b8 x0.In.H, b8 x0.In.M, b8 x0.In.S, b8 x0.In.F, b8 x0.Out.H, b8 x0.Out.M, b8 x0.Out.S, b8 x0.Out.F]).length) ([b8 x0.Group, b8 (Int.tmod x0.Number 256), b8 (w64 (Int.tdiv x0.Number 256)), x0.Extension, x0.Status] ++ [b8 x0.In.H, b8 x0.In.M, b8 x0.In.S, b8 x0.In.F, b8 x0.Out.H, b8 x0.Out.M, b8 x0.Out.S, b8 x0.Out.F]) (gu A1 c1)] w) ?_ ?_
    · skip
      refine wp_seqE (by kernel_rfl) ?_
      refine wp_regE (by kernel_rfl) ?_
      refine seg [.p, .ld (.r 0)] [1, 5, 6, 64] (fun K => (((g1 : Nat) = g1) ∧ ((none : Option Nat) = none)) ∧ K [⟨1, none, .pointer (some ⟨g1, 0, none⟩)⟩, ⟨5, none, sl (([b8 x0.Group, b8 (Int.tmod x0.Number 256), b8 (w64 (Int.tdiv x0.Number 256)), x0.Extension, x0.Status] ++ [b8 x0.In.H, b8 x0.In.M, b8 x0.In.S, b8 x0.In.F, b8 x0.Out.H, b8 x0.Out.M, b8 x0.Out.S, b8 x0.Out.F]).length) (gu A1 c1)⟩, ⟨6, none, .int .u8 0⟩, ⟨64, none, .bool x0.Comment⟩] [.box g1 27 (cTBlock x0 gx0), rw 5 elB (([b8 x0.Group, b8 (Int.tmod x0.Number 256), b8 (w64 (Int.tdiv x0.Number 256)), x0.Extension, x0.Status] ++ [b8 x0.In.H, b8 x0.In.M, b8 x0.In.S, b8 x0.In.F, b8 x0.Out.H, b8 x0.Out.M, b8 x0.Out.S, b8 x0.Out.F]).length) ([b8 x0.Group, b8 (Int.tmod x0.Number 256), b8 (w64 (Int.tdiv x0.Number 256)), x0.Extension, x0.Status] ++ [b8 x0.In.H, b8 x0.In.M, b8 x0.In.S, b8 x0.In.F, b8 x0.Out.H, b8 x0.Out.M, b8 x0.Out.S, b8 x0.Out.F]) (gu A1 c1), .box g3 5 [.int .u8 ((b8 x0.In.H).toNat : Int), .int .u8 ((b8 x0.In.M).toNat : Int), .int .u8 ((b8 x0.In.S).toNat : Int), .int .u8 ((b8 x0.In.F).toNat : Int), .int .u8 ((b8 x0.Out.H).toNat : Int), .int .u8 ((b8 x0.Out.M).toNat : Int), .int .u8 ((b8 x0.Out.S).toNat : Int), .int .u8 ((b8 x0.Out.F).toNat : Int)]]) (fun K => by kernel_rfl) hF hH ?_
      refine ⟨⟨rfl, rfl⟩, ?_⟩
      clear hF hH; intro a w hF hH
      refine wl_end (by kernel_rfl) ?_
      refine then_n ?_
      refine wp_condE (b := x0.Comment) (by kernel_rfl) (by kernel_rfl) hF (fun hb2 => ?_) (fun hb2 => ?_)
      · have hm := condT hb2 hm
        refine wp_regE (by kernel_rfl) ?_
        refine seg [.p] [1, 5, 6] (fun K => K [⟨1, none, .pointer (some ⟨g1, 0, none⟩)⟩, ⟨5, none, sl (([b8 x0.Group, b8 (Int.tmod x0.Number 256), b8 (w64 (Int.tdiv x0.Number 256)), x0.Extension, x0.Status] ++ [b8 x0.In.H, b8 x0.In.M, b8 x0.In.S, b8 x0.In.F, b8 x0.Out.H, b8 x0.Out.M, b8 x0.Out.S, b8 x0.Out.F]).length) (gu A1 c1)⟩, ⟨6, none, .int .u8 1⟩] [.box g1 27 (cTBlock x0 gx0), rw 5 elB (([b8 x0.Group, b8 (Int.tmod x0.Number 256), b8 (w64 (Int.tdiv x0.Number 256)), x0.Extension, x0.Status] ++ [b8 x0.In.H, b8 x0.In.M, b8 x0.In.S, b8 x0.In.F, b8 x0.Out.H, b8 x0.Out.M, b8 x0.Out.S, b8 x0.Out.F]).length) ([b8 x0.Group, b8 (Int.tmod x0.Number 256), b8 (w64 (Int.tdiv x0.Number 256)), x0.Extension, x0.Status] ++ [b8 x0.In.H, b8 x0.In.M, b8 x0.In.S, b8 x0.In.F, b8 x0.Out.H, b8 x0.Out.M, b8 x0.Out.S, b8 x0.Out.F]) (gu A1 c1), .box g3 5 [.int .u8 ((b8 x0.In.H).toNat : Int), .int .u8 ((b8 x0.In.M).toNat : Int), .int .u8 ((b8 x0.In.S).toNat : Int), .int .u8 ((b8 x0.In.F).toNat : Int), .int .u8 ((b8 x0.Out.H).toNat : Int), .int .u8 ((b8 x0.Out.M).toNat : Int), .int .u8 ((b8 x0.Out.S).toNat : Int), .int .u8 ((b8 x0.Out.F).toNat : Int)]]) (fun K => by kernel_rfl) hF hH ?_
        clear hF hH; intro a w hF hH
        refine wl_end (by kernel_rfl) ?_
        refine then_n ?_
        exact ⟨1, hm, frK hF [1, 5, 6] (by kernel_rfl), hpKN hH [0] [0, 1] (by kernel_rfl) (by kernel_rfl) (by kernel_rfl)⟩
      · have hm := condF hb2 hm
        refine wp_skipE (by kernel_rfl) ?_
        refine then_n ?_
        exact ⟨0, hm, frK hF [1, 5, 6] (by kernel_rfl), hpKN hH [0] [0, 1] (by kernel_rfl) (by kernel_rfl) (by kernel_rfl)⟩
    · clear hF hH hm; rintro a w ⟨v1, hm, hF, hH⟩
      rw [hjk1] at hm
      refine wp_seqE (by kernel_rfl) ?_
      refine wp_regE (by kernel_rfl) ?_
      obtain ⟨hp2, hm⟩ := grd_some hm
      refine seg [.p, .p, .ld (.r 0), .pv (.int .u8 ((b8 x0.Row).toNat : Int)), .p, .ld (.r 0), .p, .bs, .ap 1 (.r 2) (rowC elB [b8 x0.Row, x0.Align, v1] (fun _ => ())) ((([b8 x0.Group, b8 (Int.tmod x0.Number 256), b8 (w64 (Int.tdiv x0.Number 256)), x0.Extension, x0.Status] ++ [b8 x0.In.H, b8 x0.In.M, b8 x0.In.S, b8 x0.In.F, b8 x0.Out.H, b8 x0.Out.M, b8 x0.Out.S, b8 x0.Out.F]) ++ [b8 x0.Row, x0.Align, v1]).length) (rowC elB (([b8 x0.Group, b8 (Int.tmod x0.Number 256), b8 (w64 (Int.tdiv x0.Number 256)), x0.Extension, x0.Status] ++ [b8 x0.In.H, b8 x0.In.M, b8 x0.In.S, b8 x0.In.F, b8 x0.Out.H, b8 x0.Out.M, b8 x0.Out.S, b8 x0.Out.F]) ++ [b8 x0.Row, x0.Align, v1]) (fun _ => ())), .p] [1, 5] (fun K => (((g1 : Nat) = g1) ∧ ((none : Option Nat) = none)) ∧ (Value.int .u8 (IntKind.wrap .u8 x0.Row) = .int .u8 ((b8 x0.Row).toNat : Int)) ∧ (((g1 : Nat) = g1) ∧ ((none : Option Nat) = none)) ∧ ∀ g4, ((((gu A1 c1).a : Option Addr) = (gu A1 c1).a) ∧ (((gu A1 c1).c : Nat) = (gu A1 c1).c) ∧ ((([b8 x0.Group, b8 (Int.tmod x0.Number 256), b8 (w64 (Int.tdiv x0.Number 256)), x0.Extension, x0.Status] ++ [b8 x0.In.H, b8 x0.In.M, b8 x0.In.S, b8 x0.In.F, b8 x0.Out.H, b8 x0.Out.M, b8 x0.Out.S, b8 x0.Out.F]).length : Nat) = ([b8 x0.Group, b8 (Int.tmod x0.Number 256), b8 (w64 (Int.tdiv x0.Number 256)), x0.Extension, x0.Status] ++ [b8 x0.In.H, b8 x0.In.M, b8 x0.In.S, b8 x0.In.F, b8 x0.Out.H, b8 x0.Out.M, b8 x0.Out.S, b8 x0.Out.F]).length) ∧ srcP (.box g4 5 [.int .u8 ((b8 x0.Row).toNat : Int), .int .u8 (x0.Align.toNat : Int), .int .u8 (v1.toNat : Int)]) (gu (some ⟨g4, 0, none⟩) 3).a 3 1 (rowC elB [b8 x0.Row, x0.Align, v1] (fun _ => ())) ∧ (∀ u ∈ (rowC elB [b8 x0.Row, x0.Align, v1] (fun _ => ()) : List Value), u.oneCell' = true) ∧ (([b8 x0.Group, b8 (Int.tmod x0.Number 256), b8 (w64 (Int.tdiv x0.Number 256)), x0.Extension, x0.Status] ++ [b8 x0.In.H, b8 x0.In.M, b8 x0.In.S, b8 x0.In.F, b8 x0.Out.H, b8 x0.Out.M, b8 x0.Out.S, b8 x0.Out.F]).length + 3 ≤ maxLen) ∧ ((([b8 x0.Group, b8 (Int.tmod x0.Number 256), b8 (w64 (Int.tdiv x0.Number 256)), x0.Extension, x0.Status] ++ [b8 x0.In.H, b8 x0.In.M, b8 x0.In.S, b8 x0.In.F, b8 x0.Out.H, b8 x0.Out.M, b8 x0.Out.S, b8 x0.Out.F]).length + 3) * 1 ≤ 140737488355328) ∧ (([b8 x0.Group, b8 (Int.tmod x0.Number 256), b8 (w64 (Int.tdiv x0.Number 256)), x0.Extension, x0.Status] ++ [b8 x0.In.H, b8 x0.In.M, b8 x0.In.S, b8 x0.In.F, b8 x0.Out.H, b8 x0.Out.M, b8 x0.Out.S, b8 x0.Out.F]).length + 3 = (([b8 x0.Group, b8 (Int.tmod x0.Number 256), b8 (w64 (Int.tdiv x0.Number 256)), x0.Extension, x0.Status] ++ [b8 x0.In.H, b8 x0.In.M, b8 x0.In.S, b8 x0.In.F, b8 x0.Out.H, b8 x0.Out.M, b8 x0.Out.S, b8 x0.Out.F]) ++ [b8 x0.Row, x0.Align, v1]).length) ∧ (rowC elB ([b8 x0.Group, b8 (Int.tmod x0.Number 256), b8 (w64 (Int.tdiv x0.Number 256)), x0.Extension, x0.Status] ++ [b8 x0.In.H, b8 x0.In.M, b8 x0.In.S, b8 x0.In.F, b8 x0.Out.H, b8 x0.Out.M, b8 x0.Out.S, b8 x0.Out.F]) (gu A1 c1).g ++ rowC elB [b8 x0.Row, x0.Align, v1] (fun _ => ()) = rowC elB (([b8 x0.Group, b8 (Int.tmod x0.Number 256), b8 (w64 (Int.tdiv x0.Number 256)), x0.Extension, x0.Status] ++ [b8 x0.In.H, b8 x0.In.M, b8 x0.In.S, b8 x0.In.F, b8 x0.Out.H, b8 x0.Out.M, b8 x0.Out.S, b8 x0.Out.F]) ++ [b8 x0.Row, x0.Align, v1]) (fun _ => ()))) ∧ ∀ A2 c2, K [⟨1, none, .pointer (some ⟨g1, 0, none⟩)⟩, ⟨5, none, sl ((([b8 x0.Group, b8 (Int.tmod x0.Number 256), b8 (w64 (Int.tdiv x0.Number 256)), x0.Extension, x0.Status] ++ [b8 x0.In.H, b8 x0.In.M, b8 x0.In.S, b8 x0.In.F, b8 x0.Out.H, b8 x0.Out.M, b8 x0.Out.S, b8 x0.Out.F]) ++ [b8 x0.Row, x0.Align, v1]).length) (gu A2 c2)⟩] [.box g1 27 (cTBlock x0 gx0), rw 5 elB ((([b8 x0.Group, b8 (Int.tmod x0.Number 256), b8 (w64 (Int.tdiv x0.Number 256)), x0.Extension, x0.Status] ++ [b8 x0.In.H, b8 x0.In.M, b8 x0.In.S, b8 x0.In.F, b8 x0.Out.H, b8 x0.Out.M, b8 x0.Out.S, b8 x0.Out.F]) ++ [b8 x0.Row, x0.Align, v1]).length) (([b8 x0.Group, b8 (Int.tmod x0.Number 256), b8 (w64 (Int.tdiv x0.Number 256)), x0.Extension, x0.Status] ++ [b8 x0.In.H, b8 x0.In.M, b8 x0.In.S, b8 x0.In.F, b8 x0.Out.H, b8 x0.Out.M, b8 x0.Out.S, b8 x0.Out.F]) ++ [b8 x0.Row, x0.Align, v1]) (gu A2 c2), .box g4 5 [.int .u8 ((b8 x0.Row).toNat : Int), .int .u8 (x0.Align.toNat : Int), .int .u8 (v1.toNat : Int)]]) (fun K => by kernel_rfl) hF hH ?_
      refine ⟨⟨rfl, rfl⟩, ?_⟩
      refine ⟨wr_b8 _, ?_⟩
      refine ⟨⟨rfl, rfl⟩, ?_⟩
      intro g4
      refine ⟨⟨rfl, rfl, rfl, ⟨rfl, rfl, rfl⟩, rowC_one _ _ _, by (unfold maxLen; omega), by omega, by first | rfl | omega | (simp only [List.length_append, List.length_cons, List.length_nil] <;> omega), (rowC_appU _ _ _ _ _ _).symm⟩, ?_⟩
      intro A2 c2
      clear hF hH; intro a w hF hH
      refine wl_end (by kernel_rfl) ?_
      refine then_n ?_
      refine wp_seqE (by kernel_rfl) ?_
      refine wp_regE (by kernel_rfl) ?_
      refine seg [.p, .p, .ld (.r 0)] [74, 76] (fun K => (((g1 : Nat) = g1) ∧ ((none : Option Nat) = none)) ∧ K [⟨74, none, sl ((([b8 x0.Group, b8 (Int.tmod x0.Number 256), b8 (w64 (Int.tdiv x0.Number 256)), x0.Extension, x0.Status] ++ [b8 x0.In.H, b8 x0.In.M, b8 x0.In.S, b8 x0.In.F, b8 x0.Out.H, b8 x0.Out.M, b8 x0.Out.S, b8 x0.Out.F]) ++ [b8 x0.Row, x0.Align, v1]).length) (gu A2 c2)⟩, ⟨76, none, sl x0.Text.length gx0⟩] [.box g1 27 (cTBlock x0 gx0), rw 5 elB ((([b8 x0.Group, b8 (Int.tmod x0.Number 256), b8 (w64 (Int.tdiv x0.Number 256)), x0.Extension, x0.Status] ++ [b8 x0.In.H, b8 x0.In.M, b8 x0.In.S, b8 x0.In.F, b8 x0.Out.H, b8 x0.Out.M, b8 x0.Out.S, b8 x0.Out.F]) ++ [b8 x0.Row, x0.Align, v1]).length) (([b8 x0.Group, b8 (Int.tmod x0.Number 256), b8 (w64 (Int.tdiv x0.Number 256)), x0.Extension, x0.Status] ++ [b8 x0.In.H, b8 x0.In.M, b8 x0.In.S, b8 x0.In.F, b8 x0.Out.H, b8 x0.Out.M, b8 x0.Out.S, b8 x0.Out.F]) ++ [b8 x0.Row, x0.Align, v1]) (gu A2 c2), .box g4 5 [.int .u8 ((b8 x0.Row).toNat : Int), .int .u8 (x0.Align.toNat : Int), .int .u8 (v1.toNat : Int)]]) (fun K => by kernel_rfl) hF hH ?_
      refine ⟨⟨rfl, rfl⟩, ?_⟩
      clear hF hH; intro a w hF hH
      obtain ⟨r2, hx2, hm⟩ := bnd_some hm
      refine callE (d := 77) (c_r23_fill N x0.Text gx0 112 143 r2 hx2) [.v (.n 0)] [] (by kernel_rfl) trivial (.inl rfl) (by kernel_rfl) (by kernel_rfl) (by kernel_rfl) (by kernel_rfl) hF hH ?_
      clear hF hH; rintro s1 - a w hF hH
      obtain ⟨hp3, hm⟩ := grd_some hm
      refine seg [.ap 1 (.r 3) (rowC elB r2 (fun _ => ())) (((([b8 x0.Group, b8 (Int.tmod x0.Number 256), b8 (w64 (Int.tdiv x0.Number 256)), x0.Extension, x0.Status] ++ [b8 x0.In.H, b8 x0.In.M, b8 x0.In.S, b8 x0.In.F, b8 x0.Out.H, b8 x0.Out.M, b8 x0.Out.S, b8 x0.Out.F]) ++ [b8 x0.Row, x0.Align, v1]) ++ r2).length) (rowC elB ((([b8 x0.Group, b8 (Int.tmod x0.Number 256), b8 (w64 (Int.tdiv x0.Number 256)), x0.Extension, x0.Status] ++ [b8 x0.In.H, b8 x0.In.M, b8 x0.In.S, b8 x0.In.F, b8 x0.Out.H, b8 x0.Out.M, b8 x0.Out.S, b8 x0.Out.F]) ++ [b8 x0.Row, x0.Align, v1]) ++ r2) (fun _ => ())), .p, .p] [2, 3] (fun K => ((((gu A2 c2).a : Option Addr) = (gu A2 c2).a) ∧ (((gu A2 c2).c : Nat) = (gu A2 c2).c) ∧ (((([b8 x0.Group, b8 (Int.tmod x0.Number 256), b8 (w64 (Int.tdiv x0.Number 256)), x0.Extension, x0.Status] ++ [b8 x0.In.H, b8 x0.In.M, b8 x0.In.S, b8 x0.In.F, b8 x0.Out.H, b8 x0.Out.M, b8 x0.Out.S, b8 x0.Out.F]) ++ [b8 x0.Row, x0.Align, v1]).length : Nat) = (([b8 x0.Group, b8 (Int.tmod x0.Number 256), b8 (w64 (Int.tdiv x0.Number 256)), x0.Extension, x0.Status] ++ [b8 x0.In.H, b8 x0.In.M, b8 x0.In.S, b8 x0.In.F, b8 x0.Out.H, b8 x0.Out.M, b8 x0.Out.S, b8 x0.Out.F]) ++ [b8 x0.Row, x0.Align, v1]).length) ∧ srcP (rw 5 elB r2.length r2 s1) s1.a r2.length 1 (rowC elB r2 (fun _ => ())) ∧ (∀ u ∈ (rowC elB r2 (fun _ => ()) : List Value), u.oneCell' = true) ∧ ((([b8 x0.Group, b8 (Int.tmod x0.Number 256), b8 (w64 (Int.tdiv x0.Number 256)), x0.Extension, x0.Status] ++ [b8 x0.In.H, b8 x0.In.M, b8 x0.In.S, b8 x0.In.F, b8 x0.Out.H, b8 x0.Out.M, b8 x0.Out.S, b8 x0.Out.F]) ++ [b8 x0.Row, x0.Align, v1]).length + r2.length ≤ maxLen) ∧ (((([b8 x0.Group, b8 (Int.tmod x0.Number 256), b8 (w64 (Int.tdiv x0.Number 256)), x0.Extension, x0.Status] ++ [b8 x0.In.H, b8 x0.In.M, b8 x0.In.S, b8 x0.In.F, b8 x0.Out.H, b8 x0.Out.M, b8 x0.Out.S, b8 x0.Out.F]) ++ [b8 x0.Row, x0.Align, v1]).length + r2.length) * 1 ≤ 140737488355328) ∧ ((([b8 x0.Group, b8 (Int.tmod x0.Number 256), b8 (w64 (Int.tdiv x0.Number 256)), x0.Extension, x0.Status] ++ [b8 x0.In.H, b8 x0.In.M, b8 x0.In.S, b8 x0.In.F, b8 x0.Out.H, b8 x0.Out.M, b8 x0.Out.S, b8 x0.Out.F]) ++ [b8 x0.Row, x0.Align, v1]).length + r2.length = ((([b8 x0.Group, b8 (Int.tmod x0.Number 256), b8 (w64 (Int.tdiv x0.Number 256)), x0.Extension, x0.Status] ++ [b8 x0.In.H, b8 x0.In.M, b8 x0.In.S, b8 x0.In.F, b8 x0.Out.H, b8 x0.Out.M, b8 x0.Out.S, b8 x0.Out.F]) ++ [b8 x0.Row, x0.Align, v1]) ++ r2).length) ∧ (rowC elB (([b8 x0.Group, b8 (Int.tmod x0.Number 256), b8 (w64 (Int.tdiv x0.Number 256)), x0.Extension, x0.Status] ++ [b8 x0.In.H, b8 x0.In.M, b8 x0.In.S, b8 x0.In.F, b8 x0.Out.H, b8 x0.Out.M, b8 x0.Out.S, b8 x0.Out.F]) ++ [b8 x0.Row, x0.Align, v1]) (gu A2 c2).g ++ rowC elB r2 (fun _ => ()) = rowC elB ((([b8 x0.Group, b8 (Int.tmod x0.Number 256), b8 (w64 (Int.tdiv x0.Number 256)), x0.Extension, x0.Status] ++ [b8 x0.In.H, b8 x0.In.M, b8 x0.In.S, b8 x0.In.F, b8 x0.Out.H, b8 x0.Out.M, b8 x0.Out.S, b8 x0.Out.F]) ++ [b8 x0.Row, x0.Align, v1]) ++ r2) (fun _ => ()))) ∧ ∀ A3 c3, K [⟨2, none, sl (((([b8 x0.Group, b8 (Int.tmod x0.Number 256), b8 (w64 (Int.tdiv x0.Number 256)), x0.Extension, x0.Status] ++ [b8 x0.In.H, b8 x0.In.M, b8 x0.In.S, b8 x0.In.F, b8 x0.Out.H, b8 x0.Out.M, b8 x0.Out.S, b8 x0.Out.F]) ++ [b8 x0.Row, x0.Align, v1]) ++ r2).length) (gu A3 c3)⟩, ⟨3, none, .int .i64 0⟩] [.box g1 27 (cTBlock x0 gx0), rw 5 elB (((([b8 x0.Group, b8 (Int.tmod x0.Number 256), b8 (w64 (Int.tdiv x0.Number 256)), x0.Extension, x0.Status] ++ [b8 x0.In.H, b8 x0.In.M, b8 x0.In.S, b8 x0.In.F, b8 x0.Out.H, b8 x0.Out.M, b8 x0.Out.S, b8 x0.Out.F]) ++ [b8 x0.Row, x0.Align, v1]) ++ r2).length) ((([b8 x0.Group, b8 (Int.tmod x0.Number 256), b8 (w64 (Int.tdiv x0.Number 256)), x0.Extension, x0.Status] ++ [b8 x0.In.H, b8 x0.In.M, b8 x0.In.S, b8 x0.In.F, b8 x0.Out.H, b8 x0.Out.M, b8 x0.Out.S, b8 x0.Out.F]) ++ [b8 x0.Row, x0.Align, v1]) ++ r2) (gu A3 c3), .box g4 5 [.int .u8 ((b8 x0.Row).toNat : Int), .int .u8 (x0.Align.toNat : Int), .int .u8 (v1.toNat : Int)], rw 5 elB r2.length r2 s1]) (fun K => by kernel_rfl) hF hH ?_
      refine ⟨⟨rfl, rfl, rfl, ⟨rfl, rfl, rfl, rfl⟩, rowC_one _ _ _, by (unfold maxLen; omega), by omega, by first | rfl | omega | (simp only [List.length_append, List.length_cons, List.length_nil] <;> omega), (rowC_appU _ _ _ _ _ _).symm⟩, ?_⟩
      intro A3 c3
      clear hF hH; intro a w hF hH
      refine wl_end (by kernel_rfl) ?_
      refine then_n ?_
      refine wp_retE (by kernel_rfl) ?_
      refine retE (vs := [sl (((([b8 x0.Group, b8 (Int.tmod x0.Number 256), b8 (w64 (Int.tdiv x0.Number 256)), x0.Extension, x0.Status] ++ [b8 x0.In.H, b8 x0.In.M, b8 x0.In.S, b8 x0.In.F, b8 x0.Out.H, b8 x0.Out.M, b8 x0.Out.S, b8 x0.Out.F]) ++ [b8 x0.Row, x0.Align, v1]) ++ r2).length) (gu A3 c3), .int .i64 0]) (p := True) (v := .tuple #[sl (((([b8 x0.Group, b8 (Int.tmod x0.Number 256), b8 (w64 (Int.tdiv x0.Number 256)), x0.Extension, x0.Status] ++ [b8 x0.In.H, b8 x0.In.M, b8 x0.In.S, b8 x0.In.F, b8 x0.Out.H, b8 x0.Out.M, b8 x0.Out.S, b8 x0.Out.F]) ++ [b8 x0.Row, x0.Align, v1]) ++ r2).length) (gu A3 c3), .int .i64 0]) [] (by kernel_rfl) trivial (by kernel_rfl) hF hH ?_
      obtain rfl := Option.some.inj hm
      exact ⟨(gu A3 c3), by kernel_rfl, hH.below, trivial, newK hH [1] [] (by kernel_rfl) (by kernel_rfl) (by kernel_rfl) (by kernel_rfl)⟩

theorem c_tape_times (N : Nat) (x0 : List UInt8) (gx0 : Gs Unit) (r : TLabel) (hm : tape_times N x0 = some r) : CallOk Try.prog 33 [sl x0.length gx0] [vw elB x0.length x0 gx0] [] (U := Unit) (fun _ => ag (cTLabel r)) (fun _ => []) (fun _ => []) (fun _ => True) := by
  unfold tape_times at hm
  refine callI (N := 20) Try.func33 (by kernel_rfl) (by kernel_rfl) (by kernel_rfl) ?_
  intro w0 B M a hF hH
  refine wp_seqE (by kernel_rfl) ?_
  refine wp_regE (by kernel_rfl) ?_
  refine seg [.al] [0, 2] (fun K => ∀ g1, K [⟨0, none, sl x0.length gx0⟩, ⟨2, none, .pointer (some ⟨g1, 0, none⟩)⟩] [.box g1 23 (cTLabel TLabel.z)]) (fun K => by kernel_rfl) hF hH ?_
  intro g1
  clear hF hH; intro a w hF hH
  refine wl_end (by kernel_rfl) ?_
  refine then_n ?_
  refine wp_seqE (by kernel_rfl) ?_
  obtain ⟨hp1, hm⟩ := grd_some hm
  obtain ⟨hp2, hm⟩ := grd_some hm
  obtain ⟨hp3, hm⟩ := grd_some hm
  obtain ⟨hp4, hm⟩ := grd_some hm
  refine drawE (n := 18) (by kernel_rfl) (by kernel_rfl) (by kernel_rfl) (by kernel_rfl) [] [2] (.take 0 (.p) (.take 1 (.ia (.n 0) 0) (.take 2 (.lv (.n 0) 0 0) (.take 3 (.pv (.int .i64 ((x0.getD 0 0).toNat : Int))) (.take 4 (.p) (.take 5 (.ia (.n 0) 1) (.take 6 (.lv (.n 0) 1 0) (.take 7 (.pv (.int .i64 ((x0.getD 1 0).toNat : Int))) (.take 8 (.p) (.take 9 (.ia (.n 0) 2) (.take 10 (.lv (.n 0) 2 0) (.take 11 (.pv (.int .i64 ((x0.getD 2 0).toNat : Int))) (.take 12 (.p) (.take 13 (.ia (.n 0) 3) (.take 14 (.lv (.n 0) 3 0) (.take 15 (.pv (.int .i64 ((x0.getD 3 0).toNat : Int))) (.take 16 (.p) (.eff [(17, .st 0)] (fun _ => (.done [0])))))))))))))))))))) (fun l rs => l = [⟨2, none, .pointer (some ⟨g1, 0, none⟩)⟩] ∧ rs = [.box g1 23 (cTLabel (⟨((x0.getD 0 0).toNat : Int), ((x0.getD 1 0).toNat : Int), ((x0.getD 2 0).toNat : Int), ((x0.getD 3 0).toNat : Int), false⟩ : TLabel))]) (fun K => (((gx0.a : Option Addr) = gx0.a) ∧ ((x0.length : Nat) = x0.length) ∧ ((1 : Nat) = 1) ∧ ((0 : Int) = ((0 : Nat) : Int)) ∧ (0 < x0.length)) ∧ (((gx0.a.getD nilA).add (0 * 1) = ((gx0.a.getD nilA).add (0 * 1)).add 0) ∧ (0 < x0.length)) ∧ (Value.int .i64 (IntKind.wrap .i64 ((x0.getD 0 0).toNat : Int)) = .int .i64 ((x0.getD 0 0).toNat : Int)) ∧ (((gx0.a : Option Addr) = gx0.a) ∧ ((x0.length : Nat) = x0.length) ∧ ((1 : Nat) = 1) ∧ ((1 : Int) = ((1 : Nat) : Int)) ∧ (1 < x0.length)) ∧ (((gx0.a.getD nilA).add (1 * 1) = ((gx0.a.getD nilA).add (1 * 1)).add 0) ∧ (1 < x0.length)) ∧ (Value.int .i64 (IntKind.wrap .i64 ((x0.getD 1 0).toNat : Int)) = .int .i64 ((x0.getD 1 0).toNat : Int)) ∧ (((gx0.a : Option Addr) = gx0.a) ∧ ((x0.length : Nat) = x0.length) ∧ ((1 : Nat) = 1) ∧ ((2 : Int) = ((2 : Nat) : Int)) ∧ (2 < x0.length)) ∧ (((gx0.a.getD nilA).add (2 * 1) = ((gx0.a.getD nilA).add (2 * 1)).add 0) ∧ (2 < x0.length)) ∧ (Value.int .i64 (IntKind.wrap .i64 ((x0.getD 2 0).toNat : Int)) = .int .i64 ((x0.getD 2 0).toNat : Int)) ∧ (((gx0.a : Option Addr) = gx0.a) ∧ ((x0.length : Nat) = x0.length) ∧ ((1 : Nat) = 1) ∧ ((3 : Int) = ((3 : Nat) : Int)) ∧ (3 < x0.length)) ∧ (((gx0.a.getD nilA).add (3 * 1) = ((gx0.a.getD nilA).add (3 * 1)).add 0) ∧ (3 < x0.length)) ∧ (Value.int .i64 (IntKind.wrap .i64 ((x0.getD 3 0).toNat : Int)) = .int .i64 ((x0.getD 3 0).toNat : Int)) ∧ (((g1 : Nat) = g1 ∧ (none : Option Nat) = none) ∧ (([] : List Res) = []) ∧ K [⟨2, none, .pointer (some ⟨g1, 0, none⟩)⟩] [.box g1 23 (cTLabel (⟨((x0.getD 0 0).toNat : Int), ((x0.getD 1 0).toNat : Int), ((x0.getD 2 0).toNat : Int), ((x0.getD 3 0).toNat : Int), false⟩ : TLabel))])) (fun K => by kernel_rfl) hF hH (⟨⟨rfl, rfl, rfl, by omega, by omega⟩, ⟨⟨rfl, by omega⟩, ⟨u8_wr_i64 _, ⟨⟨rfl, rfl, rfl, by omega, by omega⟩, ⟨⟨rfl, by omega⟩, ⟨u8_wr_i64 _, ⟨⟨rfl, rfl, rfl, by omega, by omega⟩, ⟨⟨rfl, by omega⟩, ⟨u8_wr_i64 _, ⟨⟨rfl, rfl, rfl, by omega, by omega⟩, ⟨⟨rfl, by omega⟩, ⟨u8_wr_i64 _, (⟨⟨rfl, rfl⟩, ⟨rfl, ⟨rfl, rfl⟩⟩⟩)⟩⟩⟩⟩⟩⟩⟩⟩⟩⟩⟩⟩) ?_
  clear hF hH; rintro l rs a w ⟨rfl, rfl⟩ hF hH
  refine then_n ?_
  refine wp_retE (by kernel_rfl) ?_
  refine retE (vs := [ag (cTLabel (⟨((x0.getD 0 0).toNat : Int), ((x0.getD 1 0).toNat : Int), ((x0.getD 2 0).toNat : Int), ((x0.getD 3 0).toNat : Int), false⟩ : TLabel))]) (p := (((g1 : Nat) = g1 ∧ (none : Option Nat) = none)) ∧ True) (v := ag (cTLabel (⟨((x0.getD 0 0).toNat : Int), ((x0.getD 1 0).toNat : Int), ((x0.getD 2 0).toNat : Int), ((x0.getD 3 0).toNat : Int), false⟩ : TLabel))) [0] (by kernel_rfl) ⟨⟨rfl, rfl⟩, trivial⟩ (by kernel_rfl) hF hH ?_
  obtain rfl := Option.some.inj hm
  exact ⟨(), by kernel_rfl, hH.below, trivial, newK hH [] [] (by kernel_rfl) (by kernel_rfl) (by kernel_rfl) (by kernel_rfl)⟩

theorem c_bytes_Equal (N : Nat) (x0 : List UInt8) (gx0 : Gs Unit) (x1 : List UInt8) (gx1 : Gs Unit) (r : Bool) (hm : bytes_Equal N x0 x1 = some r) : CallOk Try.prog 35 [sl x0.length gx0, sl x1.length gx1] [vw elB x0.length x0 gx0, vw elB x1.length x1 gx1] [] (U := Unit) (fun _ => .bool r) (fun _ => []) (fun _ => []) (fun _ => True) := by
  unfold bytes_Equal at hm
  refine callI (N := 10) Try.func35 (by kernel_rfl) (by kernel_rfl) (by kernel_rfl) ?_
  intro w0 B M a hF hH
  refine wp_seqE (by kernel_rfl) ?_
  refine wp_regE (by kernel_rfl) ?_
  refine seg [.p] [0, 1] (fun K => K [⟨0, none, sl x0.length gx0⟩, ⟨1, none, sl x1.length gx1⟩] []) (fun K => by kernel_rfl) hF hH ?_
  clear hF hH; intro a w hF hH
  refine wl_end (by kernel_rfl) ?_
  refine then_n ?_
  refine wp_seqE (by kernel_rfl) ?_
  refine wp_regE (by kernel_rfl) ?_
  refine seg [.p, .tos (.n 0) x0, .p, .tos (.n 1) x1, .pv (.bool (decide (x0 = x1))), .p] [4] (fun K => (((gx0.a : Option Addr) = gx0.a) ∧ ((x0.length : Nat) = x0.length) ∧ ((1 : Nat) = 1) ∧ ((x0.length : Nat) = x0.length) ∧ ∀ i, i < x0.length → elB.cel (x0.getD i elB.d) (gx0.g i) = [.int .u8 ((x0.getD i 0).toNat : Int)]) ∧ (((gx1.a : Option Addr) = gx1.a) ∧ ((x1.length : Nat) = x1.length) ∧ ((1 : Nat) = 1) ∧ ((x1.length : Nat) = x1.length) ∧ ∀ i, i < x1.length → elB.cel (x1.getD i elB.d) (gx1.g i) = [.int .u8 ((x1.getD i 0).toNat : Int)]) ∧ (Value.bool (((bst x0).toList == (bst x1).toList)) = .bool (decide (x0 = x1))) ∧ K [⟨4, none, .bool (decide (x0 = x1))⟩] []) (fun K => by kernel_rfl) hF hH ?_
  refine ⟨⟨rfl, rfl, rfl, by first | rfl | simp, fun _ _ => rfl⟩, ?_⟩
  refine ⟨⟨rfl, rfl, rfl, by first | rfl | simp, fun _ _ => rfl⟩, ?_⟩
  refine ⟨vstr_eq (k := fun b => b) _ _, ?_⟩
  clear hF hH; intro a w hF hH
  refine wl_end (by kernel_rfl) ?_
  refine then_n ?_
  refine wp_retE (by kernel_rfl) ?_
  refine retE (vs := [.bool (decide (x0 = x1))]) (p := True) (v := .bool (decide (x0 = x1))) [] (by kernel_rfl) trivial (by kernel_rfl) hF hH ?_
  obtain rfl := Option.some.inj hm
  exact ⟨(), by kernel_rfl, hH.below, trivial, newK hH [] [] (by kernel_rfl) (by kernel_rfl) (by kernel_rfl) (by kernel_rfl)⟩

theorem c_bytes_Index (N : Nat) (x0 : List UInt8) (gx0 : Gs Unit) (x1 : List UInt8) (gx1 : Gs Unit) (r : Int) (hm : bytes_Index N x0 x1 = some r) : CallOk Try.prog 43 [sl x0.length gx0, sl x1.length gx1] [vw elB x0.length x0 gx0, vw elB x1.length x1 gx1] [] (U := Unit) (fun _ => .int .i64 r) (fun _ => []) (fun _ => []) (fun _ => True) := by
  unfold bytes_Index at hm
  refine callI (N := 200) Try.func43 (by kernel_rfl) (by kernel_rfl) (by kernel_rfl) ?_
  intro w0 B M a hF hH
  refine wp_seqE (by kernel_rfl) ?_
  refine wp_regE (by kernel_rfl) ?_
  refine seg [.p] [0, 1] (fun K => K [⟨0, none, sl x0.length gx0⟩, ⟨1, none, sl x1.length gx1⟩] []) (fun K => by kernel_rfl) hF hH ?_
  clear hF hH; intro a w hF hH
  refine wl_end (by kernel_rfl) ?_
  refine then_n ?_
  refine wp_seqE (by kernel_rfl) ?_
  refine wp_regE (by kernel_rfl) ?_
  refine seg [.p, .p, .p] [0, 1, 5] (fun K => K [⟨0, none, sl x0.length gx0⟩, ⟨1, none, sl x1.length gx1⟩, ⟨5, none, .int .i64 (x1.length : Int)⟩] []) (fun K => by kernel_rfl) hF hH ?_
  clear hF hH; intro a w hF hH
  refine wl_end (by kernel_rfl) ?_
  refine then_n ?_
  refine wp_seqE (by kernel_rfl) ?_
  refine wp_blockE (id := 0) (by kernel_rfl) ?_
  refine wp_seqE (by kernel_rfl) ?_
  refine wp_regE (by kernel_rfl) ?_
  refine seg [.p, .p, .p] [0, 1, 5, 22] (fun K => K [⟨0, none, sl x0.length gx0⟩, ⟨1, none, sl x1.length gx1⟩, ⟨5, none, .int .i64 (x1.length : Int)⟩, ⟨22, none, .bool ((x1.length : Int) == 0)⟩] []) (fun K => by kernel_rfl) hF hH ?_
  clear hF hH; intro a w hF hH
  refine wl_end (by kernel_rfl) ?_
  refine then_n ?_
  refine wp_condE (b := (x1.length : Int) == 0) (by kernel_rfl) (by kernel_rfl) hF (fun hb1 => ?_) (fun hb1 => ?_)
  · have hm := condT hb1 hm
    have hb1p := eq_of_beq hb1
    refine wp_seqE (by kernel_rfl) ?_
    refine wp_regE (by kernel_rfl) ?_
    refine seg [.p] [4] (fun K => K [⟨4, none, .int .i64 0⟩] []) (fun K => by kernel_rfl) hF hH ?_
    clear hF hH; intro a w hF hH
    refine wl_end (by kernel_rfl) ?_
    refine then_n ?_
    refine wp_retE (by kernel_rfl) ?_
    refine block_ret ?_
    refine then_ret ?_
    refine retE (vs := [.int .i64 0]) (p := True) (v := .int .i64 0) [] (by kernel_rfl) trivial (by kernel_rfl) hF hH ?_
    obtain rfl := Option.some.inj hm
    exact ⟨(), by kernel_rfl, hH.below, trivial, newK hH [] [] (by kernel_rfl) (by kernel_rfl) (by kernel_rfl) (by kernel_rfl)⟩
  · have hm := condF hb1 hm
    have hb1p := ne_of_beq_false hb1
    refine wp_seqE (by kernel_rfl) ?_
    refine wp_regE (by kernel_rfl) ?_
    refine seg [.p, .p, .p] [0, 1, 5, 25] (fun K => K [⟨0, none, sl x0.length gx0⟩, ⟨1, none, sl x1.length gx1⟩, ⟨5, none, .int .i64 (x1.length : Int)⟩, ⟨25, none, .bool ((x1.length : Int) == 1)⟩] []) (fun K => by kernel_rfl) hF hH ?_
    clear hF hH; intro a w hF hH
    refine wl_end (by kernel_rfl) ?_
    refine then_n ?_
    refine wp_condE (b := (x1.length : Int) == 1) (by kernel_rfl) (by kernel_rfl) hF (fun hb2 => ?_) (fun hb2 => ?_)
    · have hm := condT hb2 hm
      have hb2p := eq_of_beq hb2
      refine wp_seqE (by kernel_rfl) ?_
      refine wp_regE (by kernel_rfl) ?_
      obtain ⟨hp1, hm⟩ := grd_some hm
      refine seg [.p, .p, .ia (.n 1) 0, .lv (.n 1) 0 0] [28, 31] (fun K => (((gx1.a : Option Addr) = gx1.a) ∧ ((x1.length : Nat) = x1.length) ∧ ((1 : Nat) = 1) ∧ ((0 : Int) = ((0 : Nat) : Int)) ∧ (0 < x1.length)) ∧ (((gx1.a.getD nilA).add (0 * 1) = ((gx1.a.getD nilA).add (0 * 1)).add 0) ∧ (0 < x1.length)) ∧ K [⟨28, none, sl x0.length gx0⟩, ⟨31, none, .int .u8 ((x1.getD 0 0).toNat : Int)⟩] []) (fun K => by kernel_rfl) hF hH ?_
      refine ⟨⟨rfl, rfl, rfl, by omega, by omega⟩, ?_⟩
      refine ⟨⟨rfl, by omega⟩, ?_⟩
      clear hF hH; intro a w hF hH
      obtain ⟨r1, hx1, hm⟩ := bnd_some hm
      refine callE (d := 32) (c_bytes_IndexByte N x0 gx0 (x1.getD 0 0) r1 hx1) [.v (.n 0)] [] (by kernel_rfl) trivial (.inl rfl) (by kernel_rfl) (by kernel_rfl) (by kernel_rfl) (by kernel_rfl) hF hH ?_
      clear hF hH; rintro ⟨⟩ - a w hF hH
      refine seg [.p] [4] (fun K => K [⟨4, none, .int .i64 r1⟩] []) (fun K => by kernel_rfl) hF hH ?_
      clear hF hH; intro a w hF hH
      refine wl_end (by kernel_rfl) ?_
      refine then_n ?_
      refine wp_retE (by kernel_rfl) ?_
      refine block_ret ?_
      refine then_ret ?_
      refine retE (vs := [.int .i64 r1]) (p := True) (v := .int .i64 r1) [] (by kernel_rfl) trivial (by kernel_rfl) hF hH ?_
      obtain rfl := Option.some.inj hm
      exact ⟨(), by kernel_rfl, hH.below, trivial, newK hH [] [] (by kernel_rfl) (by kernel_rfl) (by kernel_rfl) (by kernel_rfl)⟩
    · have hm := condF hb2 hm
      have hb2p := ne_of_beq_false hb2
      refine wp_seqE (by kernel_rfl) ?_
      refine wp_regE (by kernel_rfl) ?_
      refine seg [.p, .p, .p, .p, .p] [0, 1, 5, 33] (fun K => K [⟨0, none, sl x0.length gx0⟩, ⟨1, none, sl x1.length gx1⟩, ⟨5, none, .int .i64 (x1.length : Int)⟩, ⟨33, none, .bool ((x1.length : Int) == (x0.length : Int))⟩] []) (fun K => by kernel_rfl) hF hH ?_
      clear hF hH; intro a w hF hH
      refine wl_end (by kernel_rfl) ?_
      refine then_n ?_
      refine wp_condE (b := (x1.length : Int) == (x0.length : Int)) (by kernel_rfl) (by kernel_rfl) hF (fun hb3 => ?_) (fun hb3 => ?_)
      · have hm := condT hb3 hm
        have hb3p := eq_of_beq hb3
        refine wp_seqE (by kernel_rfl) ?_
        refine wp_seqE (by kernel_rfl) ?_
        refine wp_regE (by kernel_rfl) ?_
        refine seg [.p, .p] [38, 39] (fun K => K [⟨38, none, sl x1.length gx1⟩, ⟨39, none, sl x0.length gx0⟩] []) (fun K => by kernel_rfl) hF hH ?_
        clear hF hH; intro a w hF hH
        obtain ⟨r2, hx2, hm⟩ := bnd_some hm
        refine callE (d := 40) (c_bytes_Equal N x1 gx1 x0 gx0 r2 hx2) [.v (.n 1), .v (.n 0)] [] (by kernel_rfl) trivial (.inl rfl) (by kernel_rfl) (by kernel_rfl) (by kernel_rfl) (by kernel_rfl) hF hH ?_
        clear hF hH; rintro ⟨⟩ - a w hF hH
        refine wl_end (by kernel_rfl) ?_
        refine then_n ?_
        refine wp_condE (b := r2) (by kernel_rfl) (by kernel_rfl) hF (fun hb4 => ?_) (fun hb4 => ?_)
        · have hm := condT hb4 hm
          refine wp_seqE (by kernel_rfl) ?_
          refine wp_regE (by kernel_rfl) ?_
          refine seg [.p] [4] (fun K => K [⟨4, none, .int .i64 0⟩] []) (fun K => by kernel_rfl) hF hH ?_
          clear hF hH; intro a w hF hH
          refine wl_end (by kernel_rfl) ?_
          refine then_n ?_
          refine wp_retE (by kernel_rfl) ?_
          refine then_ret ?_
          refine block_ret ?_
          refine then_ret ?_
          refine retE (vs := [.int .i64 0]) (p := True) (v := .int .i64 0) [] (by kernel_rfl) trivial (by kernel_rfl) hF hH ?_
          obtain rfl := Option.some.inj hm
          exact ⟨(), by kernel_rfl, hH.below, trivial, newK hH [] [] (by kernel_rfl) (by kernel_rfl) (by kernel_rfl) (by kernel_rfl)⟩
        · have hm := condF hb4 hm
          refine wp_skipE (by kernel_rfl) ?_
          refine then_n ?_
          refine wp_seqE (by kernel_rfl) ?_
          refine wp_regE (by kernel_rfl) ?_
          refine seg [.p] [4] (fun K => K [⟨4, none, .int .i64 (-1)⟩] []) (fun K => by kernel_rfl) hF hH ?_
          clear hF hH; intro a w hF hH
          refine wl_end (by kernel_rfl) ?_
          refine then_n ?_
          refine wp_retE (by kernel_rfl) ?_
          refine block_ret ?_
          refine then_ret ?_
          refine retE (vs := [.int .i64 (-1)]) (p := True) (v := .int .i64 (-1)) [] (by kernel_rfl) trivial (by kernel_rfl) hF hH ?_
          obtain rfl := Option.some.inj hm
          exact ⟨(), by kernel_rfl, hH.below, trivial, newK hH [] [] (by kernel_rfl) (by kernel_rfl) (by kernel_rfl) (by kernel_rfl)⟩
      · have hm := condF hb3 hm
        have hb3p := ne_of_beq_false hb3
        refine wp_seqE (by kernel_rfl) ?_
        refine wp_regE (by kernel_rfl) ?_
        refine seg [.p, .p, .p, .p, .p] [0, 1, 5, 41] (fun K => K [⟨0, none, sl x0.length gx0⟩, ⟨1, none, sl x1.length gx1⟩, ⟨5, none, .int .i64 (x1.length : Int)⟩, ⟨41, none, .bool (decide ((x0.length : Int) < (x1.length : Int)))⟩] []) (fun K => by kernel_rfl) hF hH ?_
        clear hF hH; intro a w hF hH
        refine wl_end (by kernel_rfl) ?_
        refine then_n ?_
        refine wp_condE (b := decide ((x0.length : Int) < (x1.length : Int))) (by kernel_rfl) (by kernel_rfl) hF (fun hb5 => ?_) (fun hb5 => ?_)
        · have hm := condT hb5 hm
          have hb5p := of_decide_eq_true hb5
          refine wp_seqE (by kernel_rfl) ?_
          refine wp_regE (by kernel_rfl) ?_
          refine seg [.p] [4] (fun K => K [⟨4, none, .int .i64 (-1)⟩] []) (fun K => by kernel_rfl) hF hH ?_
          clear hF hH; intro a w hF hH
          refine wl_end (by kernel_rfl) ?_
          refine then_n ?_
          refine wp_retE (by kernel_rfl) ?_
          refine block_ret ?_
          refine then_ret ?_
          refine retE (vs := [.int .i64 (-1)]) (p := True) (v := .int .i64 (-1)) [] (by kernel_rfl) trivial (by kernel_rfl) hF hH ?_
          obtain rfl := Option.some.inj hm
          exact ⟨(), by kernel_rfl, hH.below, trivial, newK hH [] [] (by kernel_rfl) (by kernel_rfl) (by kernel_rfl) (by kernel_rfl)⟩
        · have hm := condF hb5 hm
          have hb5p := of_decide_eq_false hb5
          refine wp_seqE (by kernel_rfl) ?_
          refine wp_regE (by kernel_rfl) ?_
          refine seg [.p] [0, 1, 5, 47] (fun K => K [⟨0, none, sl x0.length gx0⟩, ⟨1, none, sl x1.length gx1⟩, ⟨5, none, .int .i64 (x1.length : Int)⟩, ⟨47, none, .int .i64 (x1.length : Int)⟩] []) (fun K => by kernel_rfl) hF hH ?_
          clear hF hH; intro a w hF hH
          exact no_model hm

theorem c_bytes_Cut (N : Nat) (x0 : List UInt8) (gx0 : Gs Unit) (x1 : List UInt8) (gx1 : Gs Unit) (r : (List UInt8) × (List UInt8) × Bool) (hm : bytes_Cut N x0 x1 = some r) : CallOk Try.prog 34 [sl x0.length gx0, sl x1.length gx1] [vw elB x0.length x0 gx0, vw elB x1.length x1 gx1] [] (U := Gs Unit × Gs Unit) (fun u => .tuple #[sl r.1.length u.1, sl r.2.1.length u.2, .bool r.2.2]) (fun _ => []) (fun u => [vw elB r.1.length r.1 u.1, vw elB r.2.1.length r.2.1 u.2]) (fun _ => True) := by
  unfold bytes_Cut at hm
  refine callI (N := 23) Try.func34 (by kernel_rfl) (by kernel_rfl) (by kernel_rfl) ?_
  intro w0 B M a hF hH
  refine wp_seqE (by kernel_rfl) ?_
  refine wp_regE (by kernel_rfl) ?_
  refine seg [.p, .p, .p] [0, 1] (fun K => K [⟨0, none, sl x0.length gx0⟩, ⟨1, none, sl x1.length gx1⟩] []) (fun K => by kernel_rfl) hF hH ?_
  clear hF hH; intro a w hF hH
  refine wl_end (by kernel_rfl) ?_
  refine then_n ?_
  refine wp_seqE (by kernel_rfl) ?_
  refine wp_seqE (by kernel_rfl) ?_
  refine wp_regE (by kernel_rfl) ?_
  refine seg [.p, .p] [0, 1, 8, 9] (fun K => K [⟨0, none, sl x0.length gx0⟩, ⟨1, none, sl x1.length gx1⟩, ⟨8, none, sl x0.length gx0⟩, ⟨9, none, sl x1.length gx1⟩] []) (fun K => by kernel_rfl) hF hH ?_
  clear hF hH; intro a w hF hH
  obtain ⟨r1, hx1, hm⟩ := bnd_some hm
  refine callE (d := 10) (c_bytes_Index N x0 gx0 x1 gx1 r1 hx1) [.v (.n 0), .v (.n 1)] [] (by kernel_rfl) trivial (.inl rfl) (by kernel_rfl) (by kernel_rfl) (by kernel_rfl) (by kernel_rfl) hF hH ?_
  clear hF hH; rintro ⟨⟩ - a w hF hH
  refine seg [.p] [0, 1, 7] (fun K => K [⟨0, none, sl x0.length gx0⟩, ⟨1, none, sl x1.length gx1⟩, ⟨7, none, .int .i64 r1⟩] []) (fun K => by kernel_rfl) hF hH ?_
  clear hF hH; intro a w hF hH
  refine wl_end (by kernel_rfl) ?_
  refine then_n ?_
  refine wp_seqE (by kernel_rfl) ?_
  refine wp_regE (by kernel_rfl) ?_
  refine seg [.p, .p] [0, 1, 7, 12] (fun K => K [⟨0, none, sl x0.length gx0⟩, ⟨1, none, sl x1.length gx1⟩, ⟨7, none, .int .i64 r1⟩, ⟨12, none, .bool (decide (0 ≤ r1))⟩] []) (fun K => by kernel_rfl) hF hH ?_
  clear hF hH; intro a w hF hH
  refine wl_end (by kernel_rfl) ?_
  refine then_n ?_
  refine wp_condE (b := decide (0 ≤ r1)) (by kernel_rfl) (by kernel_rfl) hF (fun hb1 => ?_) (fun hb1 => ?_)
  · have hm := condT hb1 hm
    have hb1p := of_decide_eq_true hb1
    refine wp_seqE (by kernel_rfl) ?_
    obtain ⟨hp1, hm⟩ := grd_some hm
    obtain ⟨hp2, hm⟩ := grd_some hm
    refine drawE (n := 12) (by kernel_rfl) (by kernel_rfl) (by kernel_rfl) (by kernel_rfl) [] [4, 5, 6] (.take 0 (.p) (.take 1 (.p) (.take 2 (.as (.sh r1.toNat) (sl ((x0.take r1.toNat).length) gx0)) (.take 3 (.p) (.take 4 (.p) (.take 5 (.p) (.take 6 (.p) (.take 7 (.p) (.take 8 (.as (.sl ((w64 (r1 + (x1.length : Int))).toNat) x0.length) (sl ((x0.drop ((w64 (r1 + (x1.length : Int))).toNat)).length) (cutS gx0 ((w64 (r1 + (x1.length : Int))).toNat) 1))) (.take 9 (.p) (.take 10 (.p) (.take 11 (.p) ((.done [])))))))))))))) (fun l rs => l = [⟨4, none, sl ((x0.take r1.toNat).length) gx0⟩, ⟨5, none, sl ((x0.drop ((w64 (r1 + (x1.length : Int))).toNat)).length) (cutS gx0 ((w64 (r1 + (x1.length : Int))).toNat) 1)⟩, ⟨6, none, .bool true⟩] ∧ rs = []) (fun K => ((((r1 : Int) = ((r1.toNat : Nat) : Int)) ∧ (r1.toNat ≤ gx0.c)) ∧ (Value.slice gx0.a r1.toNat gx0.c = sl ((x0.take r1.toNat).length) gx0)) ∧ ((((w64 (r1 + (x1.length : Int)) : Int) = (((w64 (r1 + (x1.length : Int))).toNat : Nat) : Int)) ∧ ((x0.length : Nat) = x0.length) ∧ ((w64 (r1 + (x1.length : Int))).toNat ≤ x0.length) ∧ (x0.length ≤ gx0.c)) ∧ (Value.slice (if gx0.c = (w64 (r1 + (x1.length : Int))).toNat then gx0.a else gx0.a.map (·.add (((w64 (r1 + (x1.length : Int))).toNat) * 1))) (x0.length - ((w64 (r1 + (x1.length : Int))).toNat)) (gx0.c - ((w64 (r1 + (x1.length : Int))).toNat)) = sl ((x0.drop ((w64 (r1 + (x1.length : Int))).toNat)).length) (cutS gx0 ((w64 (r1 + (x1.length : Int))).toNat) 1))) ∧ K [⟨4, none, sl ((x0.take r1.toNat).length) gx0⟩, ⟨5, none, sl ((x0.drop ((w64 (r1 + (x1.length : Int))).toNat)).length) (cutS gx0 ((w64 (r1 + (x1.length : Int))).toNat) 1)⟩, ⟨6, none, .bool true⟩] []) (fun K => by kernel_rfl) hF hH (⟨⟨⟨by omega, by have := vw_cap hH (.n 0) rfl; omega⟩, sl_head (by simp only [List.length_take]; omega)⟩, ⟨⟨⟨by omega, rfl, by omega, by have := vw_cap hH (.n 0) rfl; omega⟩, sl_cut (by simp only [List.length_drop])⟩, ⟨rfl, rfl⟩⟩⟩) ?_
    clear hF hH; rintro l rs a w ⟨rfl, rfl⟩ hF hH
    refine then_n ?_
    refine wp_retE (by kernel_rfl) ?_
    refine then_ret ?_
    have hH := hH.lookN (k := 0) rfl (imp_headL (hi := r1.toNat) (by first | rfl | simp) (by omega))
    have hH := hH.lookN (k := 0) rfl (imp_tailL (lo := ((w64 (r1 + (x1.length : Int))).toNat)) (by first | rfl | simp) (by omega))
    refine retE (vs := [sl ((x0.take r1.toNat).length) gx0, sl ((x0.drop ((w64 (r1 + (x1.length : Int))).toNat)).length) (cutS gx0 ((w64 (r1 + (x1.length : Int))).toNat) 1), .bool true]) (p := True) (v := .tuple #[sl ((x0.take r1.toNat).length) gx0, sl ((x0.drop ((w64 (r1 + (x1.length : Int))).toNat)).length) (cutS gx0 ((w64 (r1 + (x1.length : Int))).toNat) 1), .bool true]) [] (by kernel_rfl) trivial (by kernel_rfl) hF hH ?_
    obtain rfl := Option.some.inj hm
    exact ⟨(gx0, cutS gx0 ((w64 (r1 + (x1.length : Int))).toNat) 1), by kernel_rfl, hH.below, trivial, newK hH [] [2, 3] (by kernel_rfl) (by kernel_rfl) (by kernel_rfl) (by kernel_rfl)⟩
  · have hm := condF hb1 hm
    have hb1p := of_decide_eq_false hb1
    refine wp_skipE (by kernel_rfl) ?_
    refine then_n ?_
    refine wp_seqE (by kernel_rfl) ?_
    refine wp_regE (by kernel_rfl) ?_
    refine seg [.p, .p, .p, .p] [4, 5, 6] (fun K => K [⟨4, none, sl x0.length gx0⟩, ⟨5, none, sl 0 (gu none 0)⟩, ⟨6, none, .bool false⟩] []) (fun K => by kernel_rfl) hF hH ?_
    clear hF hH; intro a w hF hH
    refine wl_end (by kernel_rfl) ?_
    refine then_n ?_
    refine wp_retE (by kernel_rfl) ?_
    have hH := hH.nilVw elB (gu none 0) rfl
    refine retE (vs := [sl x0.length gx0, sl 0 (gu none 0), .bool false]) (p := True) (v := .tuple #[sl x0.length gx0, sl 0 (gu none 0), .bool false]) [] (by kernel_rfl) trivial (by kernel_rfl) hF hH ?_
    obtain rfl := Option.some.inj hm
    exact ⟨(gx0, (gu none 0)), by kernel_rfl, hH.below, trivial, newK hH [] [0, 2] (by kernel_rfl) (by kernel_rfl) (by kernel_rfl) (by kernel_rfl)⟩

theorem c_tape_Get (N : Nat) (x0 : List UInt8) (gx0 : Gs Unit) (r : TBlock × Int) (hm : tape_Get N x0 = some r) : CallOk Try.prog 21 [sl x0.length gx0] [vw elB x0.length x0 gx0] [] (U := Gs Unit) (fun u => .tuple #[ag (cTBlock r.1 u), .int .i64 r.2]) (fun u => [vw elB r.1.Text.length r.1.Text u]) (fun _ => []) (fun _ => True) := by
  unfold tape_Get at hm
  refine callI (N := 78) Try.func21 (by kernel_rfl) (by kernel_rfl) (by kernel_rfl) ?_
  intro w0 B M a hF hH
  refine wp_seqE (by kernel_rfl) ?_
  refine wp_regE (by kernel_rfl) ?_
  refine seg [.al, .p] [0, 2] (fun K => ∀ g1, K [⟨0, none, sl x0.length gx0⟩, ⟨2, none, .pointer (some ⟨g1, 0, none⟩)⟩] [.box g1 27 (cTBlock TBlock.z (gu none 0))]) (fun K => by kernel_rfl) hF hH ?_
  intro g1
  clear hF hH; intro a w hF hH
  refine wl_end (by kernel_rfl) ?_
  refine then_n ?_
  refine wp_seqE (by kernel_rfl) ?_
  refine wp_seqE (by kernel_rfl) ?_
  refine wp_regE (by kernel_rfl) ?_
  refine seg [.p, .p, .p] [0, 2, 12] (fun K => K [⟨0, none, sl x0.length gx0⟩, ⟨2, none, .pointer (some ⟨g1, 0, none⟩)⟩, ⟨12, none, .bool ((x0.length : Int) != 128)⟩] [.box g1 27 (cTBlock TBlock.z (gu none 0))]) (fun K => by kernel_rfl) hF hH ?_
  clear hF hH; intro a w hF hH
  refine wl_end (by kernel_rfl) ?_
  refine then_n ?_
  refine wp_condE (b := (x0.length : Int) != 128) (by kernel_rfl) (by kernel_rfl) hF (fun hb1 => ?_) (fun hb1 => ?_)
  · have hm := condT hb1 hm
    have hb1p := ne_of_bne hb1
    refine wp_seqE (by kernel_rfl) ?_
    refine wp_regE (by kernel_rfl) ?_
    refine seg [.p, .st 0, .p] [2, 3] (fun K => ((g1 : Nat) = g1 ∧ (none : Option Nat) = none) ∧ K [⟨2, none, .pointer (some ⟨g1, 0, none⟩)⟩, ⟨3, none, .int .i64 4⟩] [.box g1 27 (cTBlock TBlock.z (gu none 0))]) (fun K => by kernel_rfl) hF hH ?_
    refine ⟨⟨rfl, rfl⟩, ?_⟩
    clear hF hH; intro a w hF hH
    refine wl_end (by kernel_rfl) ?_
    refine then_n ?_
    refine wp_retE (by kernel_rfl) ?_
    refine then_ret ?_
    have hH := hH.nilRw 5 elB (gu none 0) rfl rfl
    have hH := hH.freeze (k := 1) rfl (imp_rv (by simp)) rfl
    refine retE (vs := [ag (cTBlock TBlock.z (gu none 0)), .int .i64 4]) (p := (((g1 : Nat) = g1 ∧ (none : Option Nat) = none)) ∧ True) (v := .tuple #[ag (cTBlock TBlock.z (gu none 0)), .int .i64 4]) [0] (by kernel_rfl) ⟨⟨rfl, rfl⟩, trivial⟩ (by kernel_rfl) hF hH ?_
    obtain rfl := Option.some.inj hm
    exact ⟨(gu none 0), by kernel_rfl, hH.below, trivial, newK hH [1] [] (by kernel_rfl) (by kernel_rfl) (by kernel_rfl) (by kernel_rfl)⟩
  · have hm := condF hb1 hm
    have hb1p := eq_of_bne_false hb1
    refine wp_skipE (by kernel_rfl) ?_
    refine then_n ?_
    refine wp_seqE (by kernel_rfl) ?_
    obtain ⟨hp1, hm⟩ := grd_some hm
    obtain ⟨hp2, hm⟩ := grd_some hm
    obtain ⟨hp3, hm⟩ := grd_some hm
    obtain ⟨hp4, hm⟩ := grd_some hm
    obtain ⟨hp5, hm⟩ := grd_some hm
    obtain ⟨hp6, hm⟩ := grd_some hm
    have hH := hH.lookN (k := 0) rfl (imp_tailL (lo := 5) (by first | rfl | simp) (by omega))
    obtain ⟨r1, hx1, hm⟩ := bnd_some hm
    obtain ⟨hp7, hm⟩ := grd_some hm
    have hH := hH.lookN (k := 0) rfl (imp_tailL (lo := 9) (by first | rfl | simp) (by omega))
    obtain ⟨r2, hx2, hm⟩ := bnd_some hm
    obtain ⟨hp8, hm⟩ := grd_some hm
    obtain ⟨hp9, hm⟩ := grd_some hm
    obtain ⟨hp10, hm⟩ := grd_some hm
    refine drawE (n := 40) (by kernel_rfl) (by kernel_rfl) (by kernel_rfl) (by kernel_rfl) [0] [0, 2, 4] (.take 0 (.p) (.take 1 (.ia (.n 0) 0) (.take 2 (.lv (.n 0) 0 0) (.take 3 (.pv (.int .i64 ((x0.getD 0 0).toNat : Int))) (.take 4 (.p) (.take 5 (.ia (.n 0) 1) (.take 6 (.lv (.n 0) 1 0) (.take 7 (.pv (.int .i64 ((x0.getD 1 0).toNat : Int))) (.take 8 (.p) (.take 9 (.ia (.n 0) 2) (.take 10 (.lv (.n 0) 2 0) (.take 11 (.pv (.int .i64 ((x0.getD 2 0).toNat : Int))) (.take 12 (.p) (.take 13 (.p) (.take 14 (.p) (.take 15 (.ia (.n 0) 3) (.take 16 (.lv (.n 0) 3 0) (.take 17 (.p) (.take 18 (.ia (.n 0) 4) (.take 19 (.lv (.n 0) 4 0) (.take 20 (.p) (.take 21 (.as (.sl 5 x0.length) (sl ((x0.drop 5).length) (cutS gx0 5 1))) (.take 23 (.p) (.take 24 (.as (.sl 9 x0.length) (sl ((x0.drop 9).length) (cutS gx0 9 1))) (.take 26 (.p) (.take 27 (.ia (.n 0) 13) (.take 28 (.lv (.n 0) 13 0) (.take 29 (.pv (.int .i64 ((x0.getD 13 0).toNat : Int))) (.take 30 (.p) (.take 31 (.ia (.n 0) 14) (.take 32 (.lv (.n 0) 14 0) (.take 33 (.p) (.take 34 (.ia (.n 0) 15) (.take 35 (.lv (.n 0) 15 0) (.take 36 (.p) (.eff [(22, .cl (U := Unit) [.v (.n 1)] (fun _ => ag (cTLabel r1)) (fun _ => []) (fun _ => []) (fun _ => True)), (38, .al)] (fun i => (bif Nat.beq i 22 then .eff [(25, .cl (U := Unit) [.v (.n 2)] (fun _ => ag (cTLabel r2)) (fun _ => []) (fun _ => []) (fun _ => True)), (38, .al)] (fun i => (bif Nat.beq i 25 then .take 37 (.p) (.eff [(38, .al)] (fun _ => .eff [(39, .st 1)] (fun _ => (.done [0, 1])))) else .eff [(25, .cl (U := Unit) [.v (.n 2)] (fun _ => ag (cTLabel r2)) (fun _ => []) (fun _ => []) (fun _ => True))] (fun _ => .take 37 (.p) (.eff [(39, .st 1)] (fun _ => (.done [0, 1])))))) else .eff [(22, .cl (U := Unit) [.v (.n 1)] (fun _ => ag (cTLabel r1)) (fun _ => []) (fun _ => []) (fun _ => True))] (fun _ => .eff [(25, .cl (U := Unit) [.v (.n 2)] (fun _ => ag (cTLabel r2)) (fun _ => []) (fun _ => []) (fun _ => True))] (fun _ => .take 37 (.p) (.eff [(39, .st 1)] (fun _ => (.done [0, 1]))))))))))))))))))))))))))))))))))))))))))) (fun l rs => ∃ (u1 : Unit), ∃ (u2 : Unit), ∃ (g3 : Nat), l = [⟨0, none, sl x0.length gx0⟩, ⟨2, none, .pointer (some ⟨g1, 0, none⟩)⟩, ⟨4, none, .pointer (some ⟨g3, 0, none⟩)⟩] ∧ rs = [.box g1 27 (cTBlock TBlock.z (gu none 0)), .box g3 27 (cTBlock (⟨((x0.getD 0 0).toNat : Int), bits .or .i64 ((x0.getD 1 0).toNat : Int) (w64 (((x0.getD 2 0).toNat : Int) * 2 ^ 8)), x0.getD 3 0, x0.getD 4 0, r1, r2, ((x0.getD 13 0).toNat : Int), x0.getD 14 0, ((x0.getD 15 0).toNat : Int) == 1, []⟩ : TBlock) (gu none 0))]) (fun K => (((gx0.a : Option Addr) = gx0.a) ∧ ((x0.length : Nat) = x0.length) ∧ ((1 : Nat) = 1) ∧ ((0 : Int) = ((0 : Nat) : Int)) ∧ (0 < x0.length)) ∧ (((gx0.a.getD nilA).add (0 * 1) = ((gx0.a.getD nilA).add (0 * 1)).add 0) ∧ (0 < x0.length)) ∧ (Value.int .i64 (IntKind.wrap .i64 ((x0.getD 0 0).toNat : Int)) = .int .i64 ((x0.getD 0 0).toNat : Int)) ∧ (((gx0.a : Option Addr) = gx0.a) ∧ ((x0.length : Nat) = x0.length) ∧ ((1 : Nat) = 1) ∧ ((1 : Int) = ((1 : Nat) : Int)) ∧ (1 < x0.length)) ∧ (((gx0.a.getD nilA).add (1 * 1) = ((gx0.a.getD nilA).add (1 * 1)).add 0) ∧ (1 < x0.length)) ∧ (Value.int .i64 (IntKind.wrap .i64 ((x0.getD 1 0).toNat : Int)) = .int .i64 ((x0.getD 1 0).toNat : Int)) ∧ (((gx0.a : Option Addr) = gx0.a) ∧ ((x0.length : Nat) = x0.length) ∧ ((1 : Nat) = 1) ∧ ((2 : Int) = ((2 : Nat) : Int)) ∧ (2 < x0.length)) ∧ (((gx0.a.getD nilA).add (2 * 1) = ((gx0.a.getD nilA).add (2 * 1)).add 0) ∧ (2 < x0.length)) ∧ (Value.int .i64 (IntKind.wrap .i64 ((x0.getD 2 0).toNat : Int)) = .int .i64 ((x0.getD 2 0).toNat : Int)) ∧ (((gx0.a : Option Addr) = gx0.a) ∧ ((x0.length : Nat) = x0.length) ∧ ((1 : Nat) = 1) ∧ ((3 : Int) = ((3 : Nat) : Int)) ∧ (3 < x0.length)) ∧ (((gx0.a.getD nilA).add (3 * 1) = ((gx0.a.getD nilA).add (3 * 1)).add 0) ∧ (3 < x0.length)) ∧ (((gx0.a : Option Addr) = gx0.a) ∧ ((x0.length : Nat) = x0.length) ∧ ((1 : Nat) = 1) ∧ ((4 : Int) = ((4 : Nat) : Int)) ∧ (4 < x0.length)) ∧ (((gx0.a.getD nilA).add (4 * 1) = ((gx0.a.getD nilA).add (4 * 1)).add 0) ∧ (4 < x0.length)) ∧ ((((5 : Int) = ((5 : Nat) : Int)) ∧ ((x0.length : Nat) = x0.length) ∧ (5 ≤ x0.length) ∧ (x0.length ≤ gx0.c)) ∧ (Value.slice (if gx0.c = 5 then gx0.a else gx0.a.map (·.add (5 * 1))) (x0.length - 5) (gx0.c - 5) = sl ((x0.drop 5).length) (cutS gx0 5 1))) ∧ ((((9 : Int) = ((9 : Nat) : Int)) ∧ ((x0.length : Nat) = x0.length) ∧ (9 ≤ x0.length) ∧ (x0.length ≤ gx0.c)) ∧ (Value.slice (if gx0.c = 9 then gx0.a else gx0.a.map (·.add (9 * 1))) (x0.length - 9) (gx0.c - 9) = sl ((x0.drop 9).length) (cutS gx0 9 1))) ∧ (((gx0.a : Option Addr) = gx0.a) ∧ ((x0.length : Nat) = x0.length) ∧ ((1 : Nat) = 1) ∧ ((13 : Int) = ((13 : Nat) : Int)) ∧ (13 < x0.length)) ∧ (((gx0.a.getD nilA).add (13 * 1) = ((gx0.a.getD nilA).add (13 * 1)).add 0) ∧ (13 < x0.length)) ∧ (Value.int .i64 (IntKind.wrap .i64 ((x0.getD 13 0).toNat : Int)) = .int .i64 ((x0.getD 13 0).toNat : Int)) ∧ (((gx0.a : Option Addr) = gx0.a) ∧ ((x0.length : Nat) = x0.length) ∧ ((1 : Nat) = 1) ∧ ((14 : Int) = ((14 : Nat) : Int)) ∧ (14 < x0.length)) ∧ (((gx0.a.getD nilA).add (14 * 1) = ((gx0.a.getD nilA).add (14 * 1)).add 0) ∧ (14 < x0.length)) ∧ (((gx0.a : Option Addr) = gx0.a) ∧ ((x0.length : Nat) = x0.length) ∧ ((1 : Nat) = 1) ∧ ((15 : Int) = ((15 : Nat) : Int)) ∧ (15 < x0.length)) ∧ (((gx0.a.getD nilA).add (15 * 1) = ((gx0.a.getD nilA).add (15 * 1)).add 0) ∧ (15 < x0.length)) ∧ ((True ∧ ((false : Bool) = false ∨ ∀ u, (fun _ => [] : Unit → List Res) u = []) ∧ CallOk Try.prog 33 [sl ((x0.drop 5).length) (cutS gx0 5 1)] [vw elB ((x0.drop 5).length) (x0.drop 5) (cutS gx0 5 1)] [] (U := Unit) (fun _ => ag (cTLabel r1)) (fun _ => []) (fun _ => []) (fun _ => True)) ∧ ∀ u1 : Unit, (fun (_ : Unit) => True) u1 → (([.box g1 27 (cTBlock TBlock.z (gu none 0))] : List Res) = [.box g1 27 (cTBlock TBlock.z (gu none 0))]) ∧ ((True ∧ ((false : Bool) = false ∨ ∀ u, (fun _ => [] : Unit → List Res) u = []) ∧ CallOk Try.prog 33 [sl ((x0.drop 9).length) (cutS gx0 9 1)] [vw elB ((x0.drop 9).length) (x0.drop 9) (cutS gx0 9 1)] [] (U := Unit) (fun _ => ag (cTLabel r2)) (fun _ => []) (fun _ => []) (fun _ => True)) ∧ ∀ u2 : Unit, (fun (_ : Unit) => True) u2 → (([.box g1 27 (cTBlock TBlock.z (gu none 0))] : List Res) = [.box g1 27 (cTBlock TBlock.z (gu none 0))]) ∧ (∀ g3, (([.box g1 27 (cTBlock TBlock.z (gu none 0))] : List Res) = [.box g1 27 (cTBlock TBlock.z (gu none 0))]) ∧ (((g3 : Nat) = g3 ∧ (none : Option Nat) = none) ∧ (([.box g1 27 (cTBlock TBlock.z (gu none 0))] : List Res) = [.box g1 27 (cTBlock TBlock.z (gu none 0))]) ∧ K [⟨0, none, sl x0.length gx0⟩, ⟨2, none, .pointer (some ⟨g1, 0, none⟩)⟩, ⟨4, none, .pointer (some ⟨g3, 0, none⟩)⟩] [.box g1 27 (cTBlock TBlock.z (gu none 0)), .box g3 27 (cTBlock (⟨((x0.getD 0 0).toNat : Int), bits .or .i64 ((x0.getD 1 0).toNat : Int) (w64 (((x0.getD 2 0).toNat : Int) * 2 ^ 8)), x0.getD 3 0, x0.getD 4 0, r1, r2, ((x0.getD 13 0).toNat : Int), x0.getD 14 0, ((x0.getD 15 0).toNat : Int) == 1, []⟩ : TBlock) (gu none 0))]))) ∧ (∀ g4, (([.box g1 27 (cTBlock TBlock.z (gu none 0))] : List Res) = [.box g1 27 (cTBlock TBlock.z (gu none 0))]) ∧ ((True ∧ ((false : Bool) = false ∨ ∀ u, (fun _ => [] : Unit → List Res) u = []) ∧ CallOk Try.prog 33 [sl ((x0.drop 9).length) (cutS gx0 9 1)] [vw elB ((x0.drop 9).length) (x0.drop 9) (cutS gx0 9 1)] [] (U := Unit) (fun _ => ag (cTLabel r2)) (fun _ => []) (fun _ => []) (fun _ => True)) ∧ ∀ u3 : Unit, (fun (_ : Unit) => True) u3 → (([.box g1 27 (cTBlock TBlock.z (gu none 0))] : List Res) = [.box g1 27 (cTBlock TBlock.z (gu none 0))]) ∧ (((g4 : Nat) = g4 ∧ (none : Option Nat) = none) ∧ (([.box g1 27 (cTBlock TBlock.z (gu none 0))] : List Res) = [.box g1 27 (cTBlock TBlock.z (gu none 0))]) ∧ K [⟨0, none, sl x0.length gx0⟩, ⟨2, none, .pointer (some ⟨g1, 0, none⟩)⟩, ⟨4, none, .pointer (some ⟨g4, 0, none⟩)⟩] [.box g1 27 (cTBlock TBlock.z (gu none 0)), .box g4 27 (cTBlock (⟨((x0.getD 0 0).toNat : Int), bits .or .i64 ((x0.getD 1 0).toNat : Int) (w64 (((x0.getD 2 0).toNat : Int) * 2 ^ 8)), x0.getD 3 0, x0.getD 4 0, r1, r2, ((x0.getD 13 0).toNat : Int), x0.getD 14 0, ((x0.getD 15 0).toNat : Int) == 1, []⟩ : TBlock) (gu none 0))])))) ∧ (∀ g5, (([.box g1 27 (cTBlock TBlock.z (gu none 0))] : List Res) = [.box g1 27 (cTBlock TBlock.z (gu none 0))]) ∧ ((True ∧ ((false : Bool) = false ∨ ∀ u, (fun _ => [] : Unit → List Res) u = []) ∧ CallOk Try.prog 33 [sl ((x0.drop 5).length) (cutS gx0 5 1)] [vw elB ((x0.drop 5).length) (x0.drop 5) (cutS gx0 5 1)] [] (U := Unit) (fun _ => ag (cTLabel r1)) (fun _ => []) (fun _ => []) (fun _ => True)) ∧ ∀ u4 : Unit, (fun (_ : Unit) => True) u4 → (([.box g1 27 (cTBlock TBlock.z (gu none 0))] : List Res) = [.box g1 27 (cTBlock TBlock.z (gu none 0))]) ∧ ((True ∧ ((false : Bool) = false ∨ ∀ u, (fun _ => [] : Unit → List Res) u = []) ∧ CallOk Try.prog 33 [sl ((x0.drop 9).length) (cutS gx0 9 1)] [vw elB ((x0.drop 9).length) (x0.drop 9) (cutS gx0 9 1)] [] (U := Unit) (fun _ => ag (cTLabel r2)) (fun _ => []) (fun _ => []) (fun _ => True)) ∧ ∀ u5 : Unit, (fun (_ : Unit) => True) u5 → (([.box g1 27 (cTBlock TBlock.z (gu none 0))] : List Res) = [.box g1 27 (cTBlock TBlock.z (gu none 0))]) ∧ (((g5 : Nat) = g5 ∧ (none : Option Nat) = none) ∧ (([.box g1 27 (cTBlock TBlock.z (gu none 0))] : List Res) = [.box g1 27 (cTBlock TBlock.z (gu none 0))]) ∧ K [⟨0, none, sl x0.length gx0⟩, ⟨2, none, .pointer (some ⟨g1, 0, none⟩)⟩, ⟨4, none, .pointer (some ⟨g5, 0, none⟩)⟩] [.box g1 27 (cTBlock TBlock.z (gu none 0)), .box g5 27 (cTBlock (⟨((x0.getD 0 0).toNat : Int), bits .or .i64 ((x0.getD 1 0).toNat : Int) (w64 (((x0.getD 2 0).toNat : Int) * 2 ^ 8)), x0.getD 3 0, x0.getD 4 0, r1, r2, ((x0.getD 13 0).toNat : Int), x0.getD 14 0, ((x0.getD 15 0).toNat : Int) == 1, []⟩ : TBlock) (gu none 0))]))))) (fun K => by kernel_rfl) hF hH (⟨⟨rfl, rfl, rfl, by omega, by omega⟩, ⟨⟨rfl, by omega⟩, ⟨u8_wr_i64 _, ⟨⟨rfl, rfl, rfl, by omega, by omega⟩, ⟨⟨rfl, by omega⟩, ⟨u8_wr_i64 _, ⟨⟨rfl, rfl, rfl, by omega, by omega⟩, ⟨⟨rfl, by omega⟩, ⟨u8_wr_i64 _, ⟨⟨rfl, rfl, rfl, by omega, by omega⟩, ⟨⟨rfl, by omega⟩, ⟨⟨rfl, rfl, rfl, by omega, by omega⟩, ⟨⟨rfl, by omega⟩, ⟨⟨⟨by omega, rfl, by omega, by have := vw_cap hH (.n 0) rfl; omega⟩, sl_cut (by simp only [List.length_drop])⟩, ⟨⟨⟨by omega, rfl, by omega, by have := vw_cap hH (.n 0) rfl; omega⟩, sl_cut (by simp only [List.length_drop])⟩, ⟨⟨rfl, rfl, rfl, by omega, by omega⟩, ⟨⟨rfl, by omega⟩, ⟨u8_wr_i64 _, ⟨⟨rfl, rfl, rfl, by omega, by omega⟩, ⟨⟨rfl, by omega⟩, ⟨⟨rfl, rfl, rfl, by omega, by omega⟩, ⟨⟨rfl, by omega⟩, ⟨(⟨⟨trivial, .inl rfl, c_tape_times N (x0.drop 5) (cutS gx0 5 1) r1 hx1⟩, (by rintro u1 -; exact ⟨rfl, ⟨(⟨⟨trivial, .inl rfl, c_tape_times N (x0.drop 9) (cutS gx0 9 1) r2 hx2⟩, (by rintro u2 -; exact ⟨rfl, (fun g3 => ⟨rfl, (⟨⟨rfl, rfl⟩, ⟨rfl, ⟨u1, u2, g3, rfl, rfl⟩⟩⟩)⟩)⟩)⟩), (fun g4 => ⟨rfl, (⟨⟨trivial, .inl rfl, c_tape_times N (x0.drop 9) (cutS gx0 9 1) r2 hx2⟩, (by rintro u3 -; exact ⟨rfl, (⟨⟨rfl, rfl⟩, ⟨rfl, ⟨u1, u3, g4, rfl, rfl⟩⟩⟩)⟩)⟩)⟩)⟩⟩)⟩), (fun g5 => ⟨rfl, (⟨⟨trivial, .inl rfl, c_tape_times N (x0.drop 5) (cutS gx0 5 1) r1 hx1⟩, (by rintro u4 -; exact ⟨rfl, (⟨⟨trivial, .inl rfl, c_tape_times N (x0.drop 9) (cutS gx0 9 1) r2 hx2⟩, (by rintro u5 -; exact ⟨rfl, (⟨⟨rfl, rfl⟩, ⟨rfl, ⟨u4, u5, g5, rfl, rfl⟩⟩⟩)⟩)⟩)⟩)⟩)⟩)⟩⟩⟩⟩⟩⟩⟩⟩⟩⟩⟩⟩⟩⟩⟩⟩⟩⟩⟩⟩⟩⟩⟩) ?_
    clear hF hH; rintro l rs a w ⟨u1, u2, g3, rfl, rfl⟩ hF hH
    refine then_n ?_
    refine wp_seqE (by kernel_rfl) ?_
    refine wp_regE (by kernel_rfl) ?_
    obtain ⟨hp11, hm⟩ := grd_some hm
    refine seg [.p, .as (.sl 16 x0.length) (sl ((x0.drop 16).length) (cutS gx0 16 1)), .bs] [0, 2, 4, 54, 55] (fun K => ((((16 : Int) = ((16 : Nat) : Int)) ∧ ((x0.length : Nat) = x0.length) ∧ (16 ≤ x0.length) ∧ (x0.length ≤ gx0.c)) ∧ (Value.slice (if gx0.c = 16 then gx0.a else gx0.a.map (·.add (16 * 1))) (x0.length - 16) (gx0.c - 16) = sl ((x0.drop 16).length) (cutS gx0 16 1))) ∧ ∀ g6, K [⟨0, none, sl x0.length gx0⟩, ⟨2, none, .pointer (some ⟨g1, 0, none⟩)⟩, ⟨4, none, .pointer (some ⟨g3, 0, none⟩)⟩, ⟨54, none, sl ((x0.drop 16).length) (cutS gx0 16 1)⟩, ⟨55, none, sl 1 (gu (some ⟨g6, 0, none⟩) 1)⟩] [.box g1 27 (cTBlock TBlock.z (gu none 0)), .box g3 27 (cTBlock (⟨((x0.getD 0 0).toNat : Int), bits .or .i64 ((x0.getD 1 0).toNat : Int) (w64 (((x0.getD 2 0).toNat : Int) * 2 ^ 8)), x0.getD 3 0, x0.getD 4 0, r1, r2, ((x0.getD 13 0).toNat : Int), x0.getD 14 0, ((x0.getD 15 0).toNat : Int) == 1, []⟩ : TBlock) (gu none 0)), .box g6 5 [.int .u8 143]]) (fun K => by kernel_rfl) hF hH ?_
    refine ⟨⟨⟨by omega, rfl, by omega, by have := vw_cap hH (.n 0) rfl; omega⟩, sl_cut (by simp only [List.length_drop])⟩, ?_⟩
    intro g6
    clear hF hH; intro a w hF hH
    have hH := hH.lookN (k := 0) rfl (imp_tailL (lo := 16) (by first | rfl | simp) (by omega))
    have hH := hH.boxRw (n := 1) (k := 2) (e := elB) (xs := [143]) (s := (gu (some ⟨g6, 0, none⟩) 1)) rfl (by kernel_rfl) rfl rfl rfl (by unfold maxLen; omega)
    have hH := hH.freeze (k := 2) rfl (imp_rv (by simp)) rfl
    obtain ⟨r3, hx3, hm⟩ := bnd_some hm
    refine callE (d := 56) (c_bytes_Cut N (x0.drop 16) (cutS gx0 16 1) [143] (gu (some ⟨g6, 0, none⟩) 1) r3 hx3) [.v (.n 3), .v (.r 2)] [] (by kernel_rfl) trivial (.inl rfl) (by kernel_rfl) (by kernel_rfl) (by kernel_rfl) (by kernel_rfl) hF hH ?_
    clear hF hH; rintro ⟨s1, s2⟩ - a w hF hH
    refine seg [.p, .p, .p, .p, .p, .p, .p] [0, 2, 4, 5] (fun K => K [⟨0, none, sl x0.length gx0⟩, ⟨2, none, .pointer (some ⟨g1, 0, none⟩)⟩, ⟨4, none, .pointer (some ⟨g3, 0, none⟩)⟩, ⟨5, none, sl r3.1.length s1⟩] [.box g1 27 (cTBlock TBlock.z (gu none 0)), .box g3 27 (cTBlock (⟨((x0.getD 0 0).toNat : Int), bits .or .i64 ((x0.getD 1 0).toNat : Int) (w64 (((x0.getD 2 0).toNat : Int) * 2 ^ 8)), x0.getD 3 0, x0.getD 4 0, r1, r2, ((x0.getD 13 0).toNat : Int), x0.getD 14 0, ((x0.getD 15 0).toNat : Int) == 1, []⟩ : TBlock) (gu none 0)), vw elB 1 [143] (gu (some ⟨g6, 0, none⟩) 1)]) (fun K => by kernel_rfl) hF hH ?_
    clear hF hH; intro a w hF hH
    refine wl_end (by kernel_rfl) ?_
    refine then_n ?_
    refine wp_seqE (by kernel_rfl) ?_
    refine wp_regE (by kernel_rfl) ?_
    refine seg [.p] [0, 2, 4, 60] (fun K => K [⟨0, none, sl x0.length gx0⟩, ⟨2, none, .pointer (some ⟨g1, 0, none⟩)⟩, ⟨4, none, .pointer (some ⟨g3, 0, none⟩)⟩, ⟨60, none, sl r3.1.length s1⟩] [.box g1 27 (cTBlock TBlock.z (gu none 0)), .box g3 27 (cTBlock (⟨((x0.getD 0 0).toNat : Int), bits .or .i64 ((x0.getD 1 0).toNat : Int) (w64 (((x0.getD 2 0).toNat : Int) * 2 ^ 8)), x0.getD 3 0, x0.getD 4 0, r1, r2, ((x0.getD 13 0).toNat : Int), x0.getD 14 0, ((x0.getD 15 0).toNat : Int) == 1, []⟩ : TBlock) (gu none 0)), vw elB 1 [143] (gu (some ⟨g6, 0, none⟩) 1)]) (fun K => by kernel_rfl) hF hH ?_
    clear hF hH; intro a w hF hH
    obtain ⟨r4, hx4, hm⟩ := bnd_some hm
    refine callE (d := 61) (c_bytes_Clone N r3.1 s1 r4 hx4) [.v (.n 4)] [] (by kernel_rfl) trivial (.inl rfl) (by kernel_rfl) (by kernel_rfl) (by kernel_rfl) (by kernel_rfl) hF hH ?_
    clear hF hH; rintro s3 - a w hF hH
    refine seg [.p, .st 1] [0, 2, 4] (fun K => ((g3 : Nat) = g3 ∧ (none : Option Nat) = none) ∧ K [⟨0, none, sl x0.length gx0⟩, ⟨2, none, .pointer (some ⟨g1, 0, none⟩)⟩, ⟨4, none, .pointer (some ⟨g3, 0, none⟩)⟩] [.box g1 27 (cTBlock TBlock.z (gu none 0)), .box g3 27 (cTBlock (⟨((x0.getD 0 0).toNat : Int), bits .or .i64 ((x0.getD 1 0).toNat : Int) (w64 (((x0.getD 2 0).toNat : Int) * 2 ^ 8)), x0.getD 3 0, x0.getD 4 0, r1, r2, ((x0.getD 13 0).toNat : Int), x0.getD 14 0, ((x0.getD 15 0).toNat : Int) == 1, r4⟩ : TBlock) s3), vw elB 1 [143] (gu (some ⟨g6, 0, none⟩) 1), rw 5 elB r4.length r4 s3]) (fun K => by kernel_rfl) hF hH ?_
    refine ⟨⟨rfl, rfl⟩, ?_⟩
    clear hF hH; intro a w hF hH
    refine wl_end (by kernel_rfl) ?_
    refine then_n ?_
    refine wp_seqE (by kernel_rfl) ?_
    refine wp_seqE (by kernel_rfl) ?_
    refine wp_regE (by kernel_rfl) ?_
    refine seg [.ld (.r 1)] [0, 2, 4, 64] (fun K => (((g3 : Nat) = g3) ∧ ((none : Option Nat) = none)) ∧ K [⟨0, none, sl x0.length gx0⟩, ⟨2, none, .pointer (some ⟨g1, 0, none⟩)⟩, ⟨4, none, .pointer (some ⟨g3, 0, none⟩)⟩, ⟨64, none, ag (cTBlock (⟨((x0.getD 0 0).toNat : Int), bits .or .i64 ((x0.getD 1 0).toNat : Int) (w64 (((x0.getD 2 0).toNat : Int) * 2 ^ 8)), x0.getD 3 0, x0.getD 4 0, r1, r2, ((x0.getD 13 0).toNat : Int), x0.getD 14 0, ((x0.getD 15 0).toNat : Int) == 1, r4⟩ : TBlock) s3)⟩] [.box g1 27 (cTBlock TBlock.z (gu none 0)), .box g3 27 (cTBlock (⟨((x0.getD 0 0).toNat : Int), bits .or .i64 ((x0.getD 1 0).toNat : Int) (w64 (((x0.getD 2 0).toNat : Int) * 2 ^ 8)), x0.getD 3 0, x0.getD 4 0, r1, r2, ((x0.getD 13 0).toNat : Int), x0.getD 14 0, ((x0.getD 15 0).toNat : Int) == 1, r4⟩ : TBlock) s3), vw elB 1 [143] (gu (some ⟨g6, 0, none⟩) 1), rw 5 elB r4.length r4 s3]) (fun K => by kernel_rfl) hF hH ?_
    refine ⟨⟨rfl, rfl⟩, ?_⟩
    clear hF hH; intro a w hF hH
    obtain ⟨r5, hx5, hm⟩ := bnd_some hm
    refine callE (d := 65) (b := true) (p := (((∀ w, Res.ok w (rw 5 elB r4.length r4 s3) → Res.ok w (vw elB r4.length r4 s3)) ∧ ∀ b, (vw elB r4.length r4 s3).fp b → (rw 5 elB r4.length r4 s3).fp b) ∧ True)) (c_tape_Put N (⟨((x0.getD 0 0).toNat : Int), bits .or .i64 ((x0.getD 1 0).toNat : Int) (w64 (((x0.getD 2 0).toNat : Int) * 2 ^ 8)), x0.getD 3 0, x0.getD 4 0, r1, r2, ((x0.getD 13 0).toNat : Int), x0.getD 14 0, ((x0.getD 15 0).toNat : Int) == 1, r4⟩ : TBlock) s3 r5 hx5) [.b 3 (vw elB r4.length r4 s3)] [] (by kernel_rfl) ⟨⟨(imp_rv (rfl)).ok, (imp_rv (rfl)).fp⟩, trivial⟩ (.inr fun _ => rfl) (by kernel_rfl) (by kernel_rfl) (by kernel_rfl) (by kernel_rfl) hF hH ?_
    clear hF hH; rintro s4 - a w hF hH
    refine seg [.p, .p, .p, .p, .p] [0, 2, 4, 8, 9] (fun K => K [⟨0, none, sl x0.length gx0⟩, ⟨2, none, .pointer (some ⟨g1, 0, none⟩)⟩, ⟨4, none, .pointer (some ⟨g3, 0, none⟩)⟩, ⟨8, none, sl r5.1.length s4⟩, ⟨9, none, .int .i64 r5.2⟩] [.box g1 27 (cTBlock TBlock.z (gu none 0)), .box g3 27 (cTBlock (⟨((x0.getD 0 0).toNat : Int), bits .or .i64 ((x0.getD 1 0).toNat : Int) (w64 (((x0.getD 2 0).toNat : Int) * 2 ^ 8)), x0.getD 3 0, x0.getD 4 0, r1, r2, ((x0.getD 13 0).toNat : Int), x0.getD 14 0, ((x0.getD 15 0).toNat : Int) == 1, r4⟩ : TBlock) s3), vw elB 1 [143] (gu (some ⟨g6, 0, none⟩) 1), rw 5 elB r4.length r4 s3, rw 5 elB r5.1.length r5.1 s4]) (fun K => by kernel_rfl) hF hH ?_
    clear hF hH; intro a w hF hH
    refine wl_end (by kernel_rfl) ?_
    refine then_n ?_
    refine wp_seqE (by kernel_rfl) ?_
    refine wp_regE (by kernel_rfl) ?_
    refine seg [.p, .p, .p] [0, 2, 4, 8, 70] (fun K => K [⟨0, none, sl x0.length gx0⟩, ⟨2, none, .pointer (some ⟨g1, 0, none⟩)⟩, ⟨4, none, .pointer (some ⟨g3, 0, none⟩)⟩, ⟨8, none, sl r5.1.length s4⟩, ⟨70, none, .bool (r5.2 != 0)⟩] [.box g1 27 (cTBlock TBlock.z (gu none 0)), .box g3 27 (cTBlock (⟨((x0.getD 0 0).toNat : Int), bits .or .i64 ((x0.getD 1 0).toNat : Int) (w64 (((x0.getD 2 0).toNat : Int) * 2 ^ 8)), x0.getD 3 0, x0.getD 4 0, r1, r2, ((x0.getD 13 0).toNat : Int), x0.getD 14 0, ((x0.getD 15 0).toNat : Int) == 1, r4⟩ : TBlock) s3), vw elB 1 [143] (gu (some ⟨g6, 0, none⟩) 1), rw 5 elB r4.length r4 s3, rw 5 elB r5.1.length r5.1 s4]) (fun K => by kernel_rfl) hF hH ?_
    clear hF hH; intro a w hF hH
    rcases Bool.eq_false_or_eq_true (r5.2 != 0) with hx6 | hx6
    · have hm := condT hx6 hm
      rw [hx6] at hF
      have hx6p := ne_of_bne hx6
      refine seg [.sk, .sk, .sk, .sk, .p] [2, 4, 75] (fun K => (true = !false) ∧ (true = !false) ∧ (true = !false) ∧ (true = !false) ∧ K [⟨2, none, .pointer (some ⟨g1, 0, none⟩)⟩, ⟨4, none, .pointer (some ⟨g3, 0, none⟩)⟩, ⟨75, none, .bool true⟩] [.box g1 27 (cTBlock TBlock.z (gu none 0)), .box g3 27 (cTBlock (⟨((x0.getD 0 0).toNat : Int), bits .or .i64 ((x0.getD 1 0).toNat : Int) (w64 (((x0.getD 2 0).toNat : Int) * 2 ^ 8)), x0.getD 3 0, x0.getD 4 0, r1, r2, ((x0.getD 13 0).toNat : Int), x0.getD 14 0, ((x0.getD 15 0).toNat : Int) == 1, r4⟩ : TBlock) s3), vw elB 1 [143] (gu (some ⟨g6, 0, none⟩) 1), rw 5 elB r4.length r4 s3, rw 5 elB r5.1.length r5.1 s4]) (fun K => by kernel_rfl) hF hH ?_
      refine ⟨rfl, ?_⟩
      refine ⟨rfl, ?_⟩
      refine ⟨rfl, ?_⟩
      refine ⟨rfl, ?_⟩
      clear hF hH; intro a w hF hH
      refine wl_end (by kernel_rfl) ?_
      refine then_n ?_
      refine wp_condE (b := true) (by kernel_rfl) (by kernel_rfl) hF (fun _ => ?_) (fun h => by cases h)
      refine wp_seqE (by kernel_rfl) ?_
      refine wp_regE (by kernel_rfl) ?_
      refine seg [.p, .st 0, .p] [2, 3] (fun K => ((g1 : Nat) = g1 ∧ (none : Option Nat) = none) ∧ K [⟨2, none, .pointer (some ⟨g1, 0, none⟩)⟩, ⟨3, none, .int .i64 4⟩] [.box g1 27 (cTBlock TBlock.z (gu none 0)), .box g3 27 (cTBlock (⟨((x0.getD 0 0).toNat : Int), bits .or .i64 ((x0.getD 1 0).toNat : Int) (w64 (((x0.getD 2 0).toNat : Int) * 2 ^ 8)), x0.getD 3 0, x0.getD 4 0, r1, r2, ((x0.getD 13 0).toNat : Int), x0.getD 14 0, ((x0.getD 15 0).toNat : Int) == 1, r4⟩ : TBlock) s3), vw elB 1 [143] (gu (some ⟨g6, 0, none⟩) 1), rw 5 elB r4.length r4 s3, rw 5 elB r5.1.length r5.1 s4]) (fun K => by kernel_rfl) hF hH ?_
      refine ⟨⟨rfl, rfl⟩, ?_⟩
      clear hF hH; intro a w hF hH
      refine wl_end (by kernel_rfl) ?_
      refine then_n ?_
      refine wp_retE (by kernel_rfl) ?_
      refine then_ret ?_
      have hH := hH.nilRw 5 elB (gu none 0) rfl rfl
      have hH := hH.freeze (k := 5) rfl (imp_rv (by simp)) rfl
      refine retE (vs := [ag (cTBlock TBlock.z (gu none 0)), .int .i64 4]) (p := (((g1 : Nat) = g1 ∧ (none : Option Nat) = none)) ∧ True) (v := .tuple #[ag (cTBlock TBlock.z (gu none 0)), .int .i64 4]) [0] (by kernel_rfl) ⟨⟨rfl, rfl⟩, trivial⟩ (by kernel_rfl) hF hH ?_
      obtain rfl := Option.some.inj hm
      exact ⟨(gu none 0), by kernel_rfl, hH.below, trivial, newK hH [5] [] (by kernel_rfl) (by kernel_rfl) (by kernel_rfl) (by kernel_rfl)⟩
    · have hm := condF hx6 hm
      rw [hx6] at hF
      have hx6p := eq_of_bne_false hx6
      refine seg [.gt (.p), .gt (.p)] [2, 4, 70, 71, 72] (fun K => (false = false) ∧ (false = false) ∧ K [⟨2, none, .pointer (some ⟨g1, 0, none⟩)⟩, ⟨4, none, .pointer (some ⟨g3, 0, none⟩)⟩, ⟨70, none, .bool false⟩, ⟨71, none, sl x0.length gx0⟩, ⟨72, none, sl r5.1.length s4⟩] [.box g1 27 (cTBlock TBlock.z (gu none 0)), .box g3 27 (cTBlock (⟨((x0.getD 0 0).toNat : Int), bits .or .i64 ((x0.getD 1 0).toNat : Int) (w64 (((x0.getD 2 0).toNat : Int) * 2 ^ 8)), x0.getD 3 0, x0.getD 4 0, r1, r2, ((x0.getD 13 0).toNat : Int), x0.getD 14 0, ((x0.getD 15 0).toNat : Int) == 1, r4⟩ : TBlock) s3), vw elB 1 [143] (gu (some ⟨g6, 0, none⟩) 1), rw 5 elB r4.length r4 s3, rw 5 elB r5.1.length r5.1 s4]) (fun K => by kernel_rfl) hF hH ?_
      refine ⟨rfl, ?_⟩
      refine ⟨rfl, ?_⟩
      clear hF hH; intro a w hF hH
      obtain ⟨r6, hx7, hm⟩ := bnd_some hm
      refine callE (d := 73) (b := true) (p := (((∀ w, Res.ok w (rw 5 elB r5.1.length r5.1 s4) → Res.ok w (vw elB r5.1.length r5.1 s4)) ∧ ∀ b, (vw elB r5.1.length r5.1 s4).fp b → (rw 5 elB r5.1.length r5.1 s4).fp b) ∧ True)) (c_bytes_Equal N x0 gx0 r5.1 s4 r6 hx7) [.v (.n 0), .b 4 (vw elB r5.1.length r5.1 s4)] [] (by kernel_rfl) ⟨⟨(imp_rv (rfl)).ok, (imp_rv (rfl)).fp⟩, trivial⟩ (.inr fun _ => rfl) (by kernel_rfl) (by kernel_rfl) (by kernel_rfl) (by kernel_rfl) hF hH ?_
      clear hF hH; rintro ⟨⟩ - a w hF hH
      refine seg [.gt (.p), .p] [2, 4, 75] (fun K => (false = false) ∧ K [⟨2, none, .pointer (some ⟨g1, 0, none⟩)⟩, ⟨4, none, .pointer (some ⟨g3, 0, none⟩)⟩, ⟨75, none, .bool (!r6)⟩] [.box g1 27 (cTBlock TBlock.z (gu none 0)), .box g3 27 (cTBlock (⟨((x0.getD 0 0).toNat : Int), bits .or .i64 ((x0.getD 1 0).toNat : Int) (w64 (((x0.getD 2 0).toNat : Int) * 2 ^ 8)), x0.getD 3 0, x0.getD 4 0, r1, r2, ((x0.getD 13 0).toNat : Int), x0.getD 14 0, ((x0.getD 15 0).toNat : Int) == 1, r4⟩ : TBlock) s3), vw elB 1 [143] (gu (some ⟨g6, 0, none⟩) 1), rw 5 elB r4.length r4 s3, rw 5 elB r5.1.length r5.1 s4]) (fun K => by kernel_rfl) hF hH ?_
      refine ⟨rfl, ?_⟩
      clear hF hH; intro a w hF hH
      refine wl_end (by kernel_rfl) ?_
      refine then_n ?_
      refine wp_condE (b := !r6) (by kernel_rfl) (by kernel_rfl) hF (fun hb2 => ?_) (fun hb2 => ?_)
      · have hm := condT hb2 hm
        refine wp_seqE (by kernel_rfl) ?_
        refine wp_regE (by kernel_rfl) ?_
        refine seg [.p, .st 0, .p] [2, 3] (fun K => ((g1 : Nat) = g1 ∧ (none : Option Nat) = none) ∧ K [⟨2, none, .pointer (some ⟨g1, 0, none⟩)⟩, ⟨3, none, .int .i64 4⟩] [.box g1 27 (cTBlock TBlock.z (gu none 0)), .box g3 27 (cTBlock (⟨((x0.getD 0 0).toNat : Int), bits .or .i64 ((x0.getD 1 0).toNat : Int) (w64 (((x0.getD 2 0).toNat : Int) * 2 ^ 8)), x0.getD 3 0, x0.getD 4 0, r1, r2, ((x0.getD 13 0).toNat : Int), x0.getD 14 0, ((x0.getD 15 0).toNat : Int) == 1, r4⟩ : TBlock) s3), vw elB 1 [143] (gu (some ⟨g6, 0, none⟩) 1), rw 5 elB r4.length r4 s3, rw 5 elB r5.1.length r5.1 s4]) (fun K => by kernel_rfl) hF hH ?_
        refine ⟨⟨rfl, rfl⟩, ?_⟩
        clear hF hH; intro a w hF hH
        refine wl_end (by kernel_rfl) ?_
        refine then_n ?_
        refine wp_retE (by kernel_rfl) ?_
        refine then_ret ?_
        have hH := hH.nilRw 5 elB (gu none 0) rfl rfl
        have hH := hH.freeze (k := 5) rfl (imp_rv (by simp)) rfl
        refine retE (vs := [ag (cTBlock TBlock.z (gu none 0)), .int .i64 4]) (p := (((g1 : Nat) = g1 ∧ (none : Option Nat) = none)) ∧ True) (v := .tuple #[ag (cTBlock TBlock.z (gu none 0)), .int .i64 4]) [0] (by kernel_rfl) ⟨⟨rfl, rfl⟩, trivial⟩ (by kernel_rfl) hF hH ?_
        obtain rfl := Option.some.inj hm
        exact ⟨(gu none 0), by kernel_rfl, hH.below, trivial, newK hH [5] [] (by kernel_rfl) (by kernel_rfl) (by kernel_rfl) (by kernel_rfl)⟩
      · have hm := condF hb2 hm
        refine wp_skipE (by kernel_rfl) ?_
        refine then_n ?_
        refine wp_seqE (by kernel_rfl) ?_
        refine wp_regE (by kernel_rfl) ?_
        refine seg [.ld (.r 1), .st 0, .p] [2, 3] (fun K => (((g3 : Nat) = g3) ∧ ((none : Option Nat) = none)) ∧ ((g1 : Nat) = g1 ∧ (none : Option Nat) = none) ∧ K [⟨2, none, .pointer (some ⟨g1, 0, none⟩)⟩, ⟨3, none, .int .i64 0⟩] [.box g1 27 (cTBlock (⟨((x0.getD 0 0).toNat : Int), bits .or .i64 ((x0.getD 1 0).toNat : Int) (w64 (((x0.getD 2 0).toNat : Int) * 2 ^ 8)), x0.getD 3 0, x0.getD 4 0, r1, r2, ((x0.getD 13 0).toNat : Int), x0.getD 14 0, ((x0.getD 15 0).toNat : Int) == 1, r4⟩ : TBlock) s3), .box g3 27 (cTBlock (⟨((x0.getD 0 0).toNat : Int), bits .or .i64 ((x0.getD 1 0).toNat : Int) (w64 (((x0.getD 2 0).toNat : Int) * 2 ^ 8)), x0.getD 3 0, x0.getD 4 0, r1, r2, ((x0.getD 13 0).toNat : Int), x0.getD 14 0, ((x0.getD 15 0).toNat : Int) == 1, r4⟩ : TBlock) s3), vw elB 1 [143] (gu (some ⟨g6, 0, none⟩) 1), rw 5 elB r4.length r4 s3, rw 5 elB r5.1.length r5.1 s4]) (fun K => by kernel_rfl) hF hH ?_
        refine ⟨⟨rfl, rfl⟩, ?_⟩
        refine ⟨⟨rfl, rfl⟩, ?_⟩
        clear hF hH; intro a w hF hH
        refine wl_end (by kernel_rfl) ?_
        refine then_n ?_
        refine wp_retE (by kernel_rfl) ?_
        have hH := hH.freeze (k := 3) rfl (imp_rv (rfl)) rfl
        refine retE (vs := [ag (cTBlock (⟨((x0.getD 0 0).toNat : Int), bits .or .i64 ((x0.getD 1 0).toNat : Int) (w64 (((x0.getD 2 0).toNat : Int) * 2 ^ 8)), x0.getD 3 0, x0.getD 4 0, r1, r2, ((x0.getD 13 0).toNat : Int), x0.getD 14 0, ((x0.getD 15 0).toNat : Int) == 1, r4⟩ : TBlock) s3), .int .i64 0]) (p := (((g1 : Nat) = g1 ∧ (none : Option Nat) = none)) ∧ True) (v := .tuple #[ag (cTBlock (⟨((x0.getD 0 0).toNat : Int), bits .or .i64 ((x0.getD 1 0).toNat : Int) (w64 (((x0.getD 2 0).toNat : Int) * 2 ^ 8)), x0.getD 3 0, x0.getD 4 0, r1, r2, ((x0.getD 13 0).toNat : Int), x0.getD 14 0, ((x0.getD 15 0).toNat : Int) == 1, r4⟩ : TBlock) s3), .int .i64 0]) [0] (by kernel_rfl) ⟨⟨rfl, rfl⟩, trivial⟩ (by kernel_rfl) hF hH ?_
        obtain rfl := Option.some.inj hm
        exact ⟨s3, by kernel_rfl, hH.below, trivial, newK hH [3] [] (by kernel_rfl) (by kernel_rfl) (by kernel_rfl) (by kernel_rfl)⟩

theorem c_r23_fields (N : Nat) (x0 : List UInt8) (gx0 : Gs Unit) (r : TBlock) (hm : r23_fields N x0 = some r) : CallOk Try.prog 36 [sl x0.length gx0] [vw elB x0.length x0 gx0] [] (U := Gs Unit) (fun u => ag (cTBlock r u)) (fun u => [rw 5 elB r.Text.length r.Text u]) (fun _ => []) (fun _ => True) := by
  unfold r23_fields at hm
  refine callI (N := 73) Try.func36 (by kernel_rfl) (by kernel_rfl) (by kernel_rfl) ?_
  intro w0 B M a hF hH
  refine wp_seqE (by kernel_rfl) ?_
  refine wp_regE (by kernel_rfl) ?_
  refine seg [.al] [0, 2] (fun K => ∀ g1, K [⟨0, none, sl x0.length gx0⟩, ⟨2, none, .pointer (some ⟨g1, 0, none⟩)⟩] [.box g1 27 (cTBlock TBlock.z (gu none 0))]) (fun K => by kernel_rfl) hF hH ?_
  intro g1
  clear hF hH; intro a w hF hH
  refine wl_end (by kernel_rfl) ?_
  refine then_n ?_
  refine wp_seqE (by kernel_rfl) ?_
  obtain ⟨hp1, hm⟩ := grd_some hm
  obtain ⟨hp2, hm⟩ := grd_some hm
  obtain ⟨hp3, hm⟩ := grd_some hm
  obtain ⟨hp4, hm⟩ := grd_some hm
  obtain ⟨hp5, hm⟩ := grd_some hm
  obtain ⟨hp6, hm⟩ := grd_some hm
  obtain ⟨hp7, hm⟩ := grd_some hm
  obtain ⟨hp8, hm⟩ := grd_some hm
  refine drawE (n := 34) (by kernel_rfl) (by kernel_rfl) (by kernel_rfl) (by kernel_rfl) [0] [0, 2, 3] (.take 0 (.p) (.take 1 (.ia (.n 0) 0) (.take 2 (.lv (.n 0) 0 0) (.take 3 (.pv (.int .i64 ((x0.getD 0 0).toNat : Int))) (.take 4 (.p) (.take 5 (.ia (.n 0) 1) (.take 6 (.lv (.n 0) 1 0) (.take 7 (.pv (.int .i64 ((x0.getD 1 0).toNat : Int))) (.take 8 (.p) (.take 9 (.ia (.n 0) 2) (.take 10 (.lv (.n 0) 2 0) (.take 11 (.pv (.int .i64 ((x0.getD 2 0).toNat : Int))) (.take 12 (.p) (.take 13 (.p) (.take 14 (.p) (.take 15 (.ia (.n 0) 3) (.take 16 (.lv (.n 0) 3 0) (.take 17 (.p) (.take 18 (.ia (.n 0) 4) (.take 19 (.lv (.n 0) 4 0) (.take 20 (.p) (.take 21 (.ia (.n 0) 13) (.take 22 (.lv (.n 0) 13 0) (.take 23 (.pv (.int .i64 ((x0.getD 13 0).toNat : Int))) (.take 24 (.p) (.take 25 (.ia (.n 0) 14) (.take 26 (.lv (.n 0) 14 0) (.take 27 (.p) (.take 28 (.ia (.n 0) 15) (.take 29 (.lv (.n 0) 15 0) (.take 30 (.p) (.take 31 (.p) (.eff [(32, .al)] (fun _ => .eff [(33, .st 1)] (fun _ => (.done [0, 1])))))))))))))))))))))))))))))))))))) (fun l rs => ∃ (g3 : Nat), l = [⟨0, none, sl x0.length gx0⟩, ⟨2, none, .pointer (some ⟨g1, 0, none⟩)⟩, ⟨3, none, .pointer (some ⟨g3, 0, none⟩)⟩] ∧ rs = [.box g1 27 (cTBlock TBlock.z (gu none 0)), .box g3 27 (cTBlock (⟨((x0.getD 0 0).toNat : Int), w64 (((x0.getD 1 0).toNat : Int) + (w64 (256 * ((x0.getD 2 0).toNat : Int)))), x0.getD 3 0, x0.getD 4 0, TLabel.z, TLabel.z, ((x0.getD 13 0).toNat : Int), x0.getD 14 0, ((x0.getD 15 0).toNat : Int) == 1, []⟩ : TBlock) (gu none 0))]) (fun K => (((gx0.a : Option Addr) = gx0.a) ∧ ((x0.length : Nat) = x0.length) ∧ ((1 : Nat) = 1) ∧ ((0 : Int) = ((0 : Nat) : Int)) ∧ (0 < x0.length)) ∧ (((gx0.a.getD nilA).add (0 * 1) = ((gx0.a.getD nilA).add (0 * 1)).add 0) ∧ (0 < x0.length)) ∧ (Value.int .i64 (IntKind.wrap .i64 ((x0.getD 0 0).toNat : Int)) = .int .i64 ((x0.getD 0 0).toNat : Int)) ∧ (((gx0.a : Option Addr) = gx0.a) ∧ ((x0.length : Nat) = x0.length) ∧ ((1 : Nat) = 1) ∧ ((1 : Int) = ((1 : Nat) : Int)) ∧ (1 < x0.length)) ∧ (((gx0.a.getD nilA).add (1 * 1) = ((gx0.a.getD nilA).add (1 * 1)).add 0) ∧ (1 < x0.length)) ∧ (Value.int .i64 (IntKind.wrap .i64 ((x0.getD 1 0).toNat : Int)) = .int .i64 ((x0.getD 1 0).toNat : Int)) ∧ (((gx0.a : Option Addr) = gx0.a) ∧ ((x0.length : Nat) = x0.length) ∧ ((1 : Nat) = 1) ∧ ((2 : Int) = ((2 : Nat) : Int)) ∧ (2 < x0.length)) ∧ (((gx0.a.getD nilA).add (2 * 1) = ((gx0.a.getD nilA).add (2 * 1)).add 0) ∧ (2 < x0.length)) ∧ (Value.int .i64 (IntKind.wrap .i64 ((x0.getD 2 0).toNat : Int)) = .int .i64 ((x0.getD 2 0).toNat : Int)) ∧ (((gx0.a : Option Addr) = gx0.a) ∧ ((x0.length : Nat) = x0.length) ∧ ((1 : Nat) = 1) ∧ ((3 : Int) = ((3 : Nat) : Int)) ∧ (3 < x0.length)) ∧ (((gx0.a.getD nilA).add (3 * 1) = ((gx0.a.getD nilA).add (3 * 1)).add 0) ∧ (3 < x0.length)) ∧ (((gx0.a : Option Addr) = gx0.a) ∧ ((x0.length : Nat) = x0.length) ∧ ((1 : Nat) = 1) ∧ ((4 : Int) = ((4 : Nat) : Int)) ∧ (4 < x0.length)) ∧ (((gx0.a.getD nilA).add (4 * 1) = ((gx0.a.getD nilA).add (4 * 1)).add 0) ∧ (4 < x0.length)) ∧ (((gx0.a : Option Addr) = gx0.a) ∧ ((x0.length : Nat) = x0.length) ∧ ((1 : Nat) = 1) ∧ ((13 : Int) = ((13 : Nat) : Int)) ∧ (13 < x0.length)) ∧ (((gx0.a.getD nilA).add (13 * 1) = ((gx0.a.getD nilA).add (13 * 1)).add 0) ∧ (13 < x0.length)) ∧ (Value.int .i64 (IntKind.wrap .i64 ((x0.getD 13 0).toNat : Int)) = .int .i64 ((x0.getD 13 0).toNat : Int)) ∧ (((gx0.a : Option Addr) = gx0.a) ∧ ((x0.length : Nat) = x0.length) ∧ ((1 : Nat) = 1) ∧ ((14 : Int) = ((14 : Nat) : Int)) ∧ (14 < x0.length)) ∧ (((gx0.a.getD nilA).add (14 * 1) = ((gx0.a.getD nilA).add (14 * 1)).add 0) ∧ (14 < x0.length)) ∧ (((gx0.a : Option Addr) = gx0.a) ∧ ((x0.length : Nat) = x0.length) ∧ ((1 : Nat) = 1) ∧ ((15 : Int) = ((15 : Nat) : Int)) ∧ (15 < x0.length)) ∧ (((gx0.a.getD nilA).add (15 * 1) = ((gx0.a.getD nilA).add (15 * 1)).add 0) ∧ (15 < x0.length)) ∧ (∀ g3, (([.box g1 27 (cTBlock TBlock.z (gu none 0))] : List Res) = [.box g1 27 (cTBlock TBlock.z (gu none 0))]) ∧ (((g3 : Nat) = g3 ∧ (none : Option Nat) = none) ∧ (([.box g1 27 (cTBlock TBlock.z (gu none 0))] : List Res) = [.box g1 27 (cTBlock TBlock.z (gu none 0))]) ∧ K [⟨0, none, sl x0.length gx0⟩, ⟨2, none, .pointer (some ⟨g1, 0, none⟩)⟩, ⟨3, none, .pointer (some ⟨g3, 0, none⟩)⟩] [.box g1 27 (cTBlock TBlock.z (gu none 0)), .box g3 27 (cTBlock (⟨((x0.getD 0 0).toNat : Int), w64 (((x0.getD 1 0).toNat : Int) + (w64 (256 * ((x0.getD 2 0).toNat : Int)))), x0.getD 3 0, x0.getD 4 0, TLabel.z, TLabel.z, ((x0.getD 13 0).toNat : Int), x0.getD 14 0, ((x0.getD 15 0).toNat : Int) == 1, []⟩ : TBlock) (gu none 0))]))) (fun K => by kernel_rfl) hF hH (⟨⟨rfl, rfl, rfl, by omega, by omega⟩, ⟨⟨rfl, by omega⟩, ⟨u8_wr_i64 _, ⟨⟨rfl, rfl, rfl, by omega, by omega⟩, ⟨⟨rfl, by omega⟩, ⟨u8_wr_i64 _, ⟨⟨rfl, rfl, rfl, by omega, by omega⟩, ⟨⟨rfl, by omega⟩, ⟨u8_wr_i64 _, ⟨⟨rfl, rfl, rfl, by omega, by omega⟩, ⟨⟨rfl, by omega⟩, ⟨⟨rfl, rfl, rfl, by omega, by omega⟩, ⟨⟨rfl, by omega⟩, ⟨⟨rfl, rfl, rfl, by omega, by omega⟩, ⟨⟨rfl, by omega⟩, ⟨u8_wr_i64 _, ⟨⟨rfl, rfl, rfl, by omega, by omega⟩, ⟨⟨rfl, by omega⟩, ⟨⟨rfl, rfl, rfl, by omega, by omega⟩, ⟨⟨rfl, by omega⟩, (fun g3 => ⟨rfl, (⟨⟨rfl, rfl⟩, ⟨rfl, ⟨g3, rfl, rfl⟩⟩⟩)⟩)⟩⟩⟩⟩⟩⟩⟩⟩⟩⟩⟩⟩⟩⟩⟩⟩⟩⟩⟩⟩) ?_
  clear hF hH; rintro l rs a w ⟨g3, rfl, rfl⟩ hF hH
  refine then_n ?_
  refine wp_seqE (by kernel_rfl) ?_
  obtain ⟨hp9, hm⟩ := grd_some hm
  obtain ⟨hp10, hm⟩ := grd_some hm
  obtain ⟨hp11, hm⟩ := grd_some hm
  obtain ⟨hp12, hm⟩ := grd_some hm
  refine drawE (n := 19) (by kernel_rfl) (by kernel_rfl) (by kernel_rfl) (by kernel_rfl) [0] [0, 2, 3] (.take 0 (.p) (.take 1 (.ia (.n 0) 5) (.take 2 (.lv (.n 0) 5 0) (.take 3 (.pv (.int .i64 ((x0.getD 5 0).toNat : Int))) (.take 4 (.p) (.take 5 (.ia (.n 0) 6) (.take 6 (.lv (.n 0) 6 0) (.take 7 (.pv (.int .i64 ((x0.getD 6 0).toNat : Int))) (.take 8 (.p) (.take 9 (.ia (.n 0) 7) (.take 10 (.lv (.n 0) 7 0) (.take 11 (.pv (.int .i64 ((x0.getD 7 0).toNat : Int))) (.take 12 (.p) (.take 13 (.ia (.n 0) 8) (.take 14 (.lv (.n 0) 8 0) (.take 15 (.pv (.int .i64 ((x0.getD 8 0).toNat : Int))) (.take 16 (.p) (.take 17 (.p) (.eff [(18, .st 1)] (fun _ => (.done [0, 1]))))))))))))))))))))) (fun l rs => l = [⟨0, none, sl x0.length gx0⟩, ⟨2, none, .pointer (some ⟨g1, 0, none⟩)⟩, ⟨3, none, .pointer (some ⟨g3, 0, none⟩)⟩] ∧ rs = [.box g1 27 (cTBlock TBlock.z (gu none 0)), .box g3 27 (cTBlock (⟨((x0.getD 0 0).toNat : Int), w64 (((x0.getD 1 0).toNat : Int) + (w64 (256 * ((x0.getD 2 0).toNat : Int)))), x0.getD 3 0, x0.getD 4 0, (⟨((x0.getD 5 0).toNat : Int), ((x0.getD 6 0).toNat : Int), ((x0.getD 7 0).toNat : Int), ((x0.getD 8 0).toNat : Int), false⟩ : TLabel), TLabel.z, ((x0.getD 13 0).toNat : Int), x0.getD 14 0, ((x0.getD 15 0).toNat : Int) == 1, []⟩ : TBlock) (gu none 0))]) (fun K => (((gx0.a : Option Addr) = gx0.a) ∧ ((x0.length : Nat) = x0.length) ∧ ((1 : Nat) = 1) ∧ ((5 : Int) = ((5 : Nat) : Int)) ∧ (5 < x0.length)) ∧ (((gx0.a.getD nilA).add (5 * 1) = ((gx0.a.getD nilA).add (5 * 1)).add 0) ∧ (5 < x0.length)) ∧ (Value.int .i64 (IntKind.wrap .i64 ((x0.getD 5 0).toNat : Int)) = .int .i64 ((x0.getD 5 0).toNat : Int)) ∧ (((gx0.a : Option Addr) = gx0.a) ∧ ((x0.length : Nat) = x0.length) ∧ ((1 : Nat) = 1) ∧ ((6 : Int) = ((6 : Nat) : Int)) ∧ (6 < x0.length)) ∧ (((gx0.a.getD nilA).add (6 * 1) = ((gx0.a.getD nilA).add (6 * 1)).add 0) ∧ (6 < x0.length)) ∧ (Value.int .i64 (IntKind.wrap .i64 ((x0.getD 6 0).toNat : Int)) = .int .i64 ((x0.getD 6 0).toNat : Int)) ∧ (((gx0.a : Option Addr) = gx0.a) ∧ ((x0.length : Nat) = x0.length) ∧ ((1 : Nat) = 1) ∧ ((7 : Int) = ((7 : Nat) : Int)) ∧ (7 < x0.length)) ∧ (((gx0.a.getD nilA).add (7 * 1) = ((gx0.a.getD nilA).add (7 * 1)).add 0) ∧ (7 < x0.length)) ∧ (Value.int .i64 (IntKind.wrap .i64 ((x0.getD 7 0).toNat : Int)) = .int .i64 ((x0.getD 7 0).toNat : Int)) ∧ (((gx0.a : Option Addr) = gx0.a) ∧ ((x0.length : Nat) = x0.length) ∧ ((1 : Nat) = 1) ∧ ((8 : Int) = ((8 : Nat) : Int)) ∧ (8 < x0.length)) ∧ (((gx0.a.getD nilA).add (8 * 1) = ((gx0.a.getD nilA).add (8 * 1)).add 0) ∧ (8 < x0.length)) ∧ (Value.int .i64 (IntKind.wrap .i64 ((x0.getD 8 0).toNat : Int)) = .int .i64 ((x0.getD 8 0).toNat : Int)) ∧ (((g3 : Nat) = g3 ∧ (none : Option Nat) = none) ∧ (([.box g1 27 (cTBlock TBlock.z (gu none 0))] : List Res) = [.box g1 27 (cTBlock TBlock.z (gu none 0))]) ∧ K [⟨0, none, sl x0.length gx0⟩, ⟨2, none, .pointer (some ⟨g1, 0, none⟩)⟩, ⟨3, none, .pointer (some ⟨g3, 0, none⟩)⟩] [.box g1 27 (cTBlock TBlock.z (gu none 0)), .box g3 27 (cTBlock (⟨((x0.getD 0 0).toNat : Int), w64 (((x0.getD 1 0).toNat : Int) + (w64 (256 * ((x0.getD 2 0).toNat : Int)))), x0.getD 3 0, x0.getD 4 0, (⟨((x0.getD 5 0).toNat : Int), ((x0.getD 6 0).toNat : Int), ((x0.getD 7 0).toNat : Int), ((x0.getD 8 0).toNat : Int), false⟩ : TLabel), TLabel.z, ((x0.getD 13 0).toNat : Int), x0.getD 14 0, ((x0.getD 15 0).toNat : Int) == 1, []⟩ : TBlock) (gu none 0))])) (fun K => by kernel_rfl) hF hH (⟨⟨rfl, rfl, rfl, by omega, by omega⟩, ⟨⟨rfl, by omega⟩, ⟨u8_wr_i64 _, ⟨⟨rfl, rfl, rfl, by omega, by omega⟩, ⟨⟨rfl, by omega⟩, ⟨u8_wr_i64 _, ⟨⟨rfl, rfl, rfl, by omega, by omega⟩, ⟨⟨rfl, by omega⟩, ⟨u8_wr_i64 _, ⟨⟨rfl, rfl, rfl, by omega, by omega⟩, ⟨⟨rfl, by omega⟩, ⟨u8_wr_i64 _, (⟨⟨rfl, rfl⟩, ⟨rfl, ⟨rfl, rfl⟩⟩⟩)⟩⟩⟩⟩⟩⟩⟩⟩⟩⟩⟩⟩) ?_
  clear hF hH; rintro l rs a w ⟨rfl, rfl⟩ hF hH
  refine then_n ?_
  refine wp_seqE (by kernel_rfl) ?_
  obtain ⟨hp13, hm⟩ := grd_some hm
  obtain ⟨hp14, hm⟩ := grd_some hm
  obtain ⟨hp15, hm⟩ := grd_some hm
  obtain ⟨hp16, hm⟩ := grd_some hm
  refine drawE (n := 19) (by kernel_rfl) (by kernel_rfl) (by kernel_rfl) (by kernel_rfl) [0] [2, 3] (.take 0 (.p) (.take 1 (.ia (.n 0) 9) (.take 2 (.lv (.n 0) 9 0) (.take 3 (.pv (.int .i64 ((x0.getD 9 0).toNat : Int))) (.take 4 (.p) (.take 5 (.ia (.n 0) 10) (.take 6 (.lv (.n 0) 10 0) (.take 7 (.pv (.int .i64 ((x0.getD 10 0).toNat : Int))) (.take 8 (.p) (.take 9 (.ia (.n 0) 11) (.take 10 (.lv (.n 0) 11 0) (.take 11 (.pv (.int .i64 ((x0.getD 11 0).toNat : Int))) (.take 12 (.p) (.take 13 (.ia (.n 0) 12) (.take 14 (.lv (.n 0) 12 0) (.take 15 (.pv (.int .i64 ((x0.getD 12 0).toNat : Int))) (.take 16 (.p) (.take 17 (.p) (.eff [(18, .st 1)] (fun _ => (.done [0, 1]))))))))))))))))))))) (fun l rs => l = [⟨2, none, .pointer (some ⟨g1, 0, none⟩)⟩, ⟨3, none, .pointer (some ⟨g3, 0, none⟩)⟩] ∧ rs = [.box g1 27 (cTBlock TBlock.z (gu none 0)), .box g3 27 (cTBlock (⟨((x0.getD 0 0).toNat : Int), w64 (((x0.getD 1 0).toNat : Int) + (w64 (256 * ((x0.getD 2 0).toNat : Int)))), x0.getD 3 0, x0.getD 4 0, (⟨((x0.getD 5 0).toNat : Int), ((x0.getD 6 0).toNat : Int), ((x0.getD 7 0).toNat : Int), ((x0.getD 8 0).toNat : Int), false⟩ : TLabel), (⟨((x0.getD 9 0).toNat : Int), ((x0.getD 10 0).toNat : Int), ((x0.getD 11 0).toNat : Int), ((x0.getD 12 0).toNat : Int), false⟩ : TLabel), ((x0.getD 13 0).toNat : Int), x0.getD 14 0, ((x0.getD 15 0).toNat : Int) == 1, []⟩ : TBlock) (gu none 0))]) (fun K => (((gx0.a : Option Addr) = gx0.a) ∧ ((x0.length : Nat) = x0.length) ∧ ((1 : Nat) = 1) ∧ ((9 : Int) = ((9 : Nat) : Int)) ∧ (9 < x0.length)) ∧ (((gx0.a.getD nilA).add (9 * 1) = ((gx0.a.getD nilA).add (9 * 1)).add 0) ∧ (9 < x0.length)) ∧ (Value.int .i64 (IntKind.wrap .i64 ((x0.getD 9 0).toNat : Int)) = .int .i64 ((x0.getD 9 0).toNat : Int)) ∧ (((gx0.a : Option Addr) = gx0.a) ∧ ((x0.length : Nat) = x0.length) ∧ ((1 : Nat) = 1) ∧ ((10 : Int) = ((10 : Nat) : Int)) ∧ (10 < x0.length)) ∧ (((gx0.a.getD nilA).add (10 * 1) = ((gx0.a.getD nilA).add (10 * 1)).add 0) ∧ (10 < x0.length)) ∧ (Value.int .i64 (IntKind.wrap .i64 ((x0.getD 10 0).toNat : Int)) = .int .i64 ((x0.getD 10 0).toNat : Int)) ∧ (((gx0.a : Option Addr) = gx0.a) ∧ ((x0.length : Nat) = x0.length) ∧ ((1 : Nat) = 1) ∧ ((11 : Int) = ((11 : Nat) : Int)) ∧ (11 < x0.length)) ∧ (((gx0.a.getD nilA).add (11 * 1) = ((gx0.a.getD nilA).add (11 * 1)).add 0) ∧ (11 < x0.length)) ∧ (Value.int .i64 (IntKind.wrap .i64 ((x0.getD 11 0).toNat : Int)) = .int .i64 ((x0.getD 11 0).toNat : Int)) ∧ (((gx0.a : Option Addr) = gx0.a) ∧ ((x0.length : Nat) = x0.length) ∧ ((1 : Nat) = 1) ∧ ((12 : Int) = ((12 : Nat) : Int)) ∧ (12 < x0.length)) ∧ (((gx0.a.getD nilA).add (12 * 1) = ((gx0.a.getD nilA).add (12 * 1)).add 0) ∧ (12 < x0.length)) ∧ (Value.int .i64 (IntKind.wrap .i64 ((x0.getD 12 0).toNat : Int)) = .int .i64 ((x0.getD 12 0).toNat : Int)) ∧ (((g3 : Nat) = g3 ∧ (none : Option Nat) = none) ∧ (([.box g1 27 (cTBlock TBlock.z (gu none 0))] : List Res) = [.box g1 27 (cTBlock TBlock.z (gu none 0))]) ∧ K [⟨2, none, .pointer (some ⟨g1, 0, none⟩)⟩, ⟨3, none, .pointer (some ⟨g3, 0, none⟩)⟩] [.box g1 27 (cTBlock TBlock.z (gu none 0)), .box g3 27 (cTBlock (⟨((x0.getD 0 0).toNat : Int), w64 (((x0.getD 1 0).toNat : Int) + (w64 (256 * ((x0.getD 2 0).toNat : Int)))), x0.getD 3 0, x0.getD 4 0, (⟨((x0.getD 5 0).toNat : Int), ((x0.getD 6 0).toNat : Int), ((x0.getD 7 0).toNat : Int), ((x0.getD 8 0).toNat : Int), false⟩ : TLabel), (⟨((x0.getD 9 0).toNat : Int), ((x0.getD 10 0).toNat : Int), ((x0.getD 11 0).toNat : Int), ((x0.getD 12 0).toNat : Int), false⟩ : TLabel), ((x0.getD 13 0).toNat : Int), x0.getD 14 0, ((x0.getD 15 0).toNat : Int) == 1, []⟩ : TBlock) (gu none 0))])) (fun K => by kernel_rfl) hF hH (⟨⟨rfl, rfl, rfl, by omega, by omega⟩, ⟨⟨rfl, by omega⟩, ⟨u8_wr_i64 _, ⟨⟨rfl, rfl, rfl, by omega, by omega⟩, ⟨⟨rfl, by omega⟩, ⟨u8_wr_i64 _, ⟨⟨rfl, rfl, rfl, by omega, by omega⟩, ⟨⟨rfl, by omega⟩, ⟨u8_wr_i64 _, ⟨⟨rfl, rfl, rfl, by omega, by omega⟩, ⟨⟨rfl, by omega⟩, ⟨u8_wr_i64 _, (⟨⟨rfl, rfl⟩, ⟨rfl, ⟨rfl, rfl⟩⟩⟩)⟩⟩⟩⟩⟩⟩⟩⟩⟩⟩⟩⟩) ?_
  clear hF hH; rintro l rs a w ⟨rfl, rfl⟩ hF hH
  refine then_n ?_
  refine wp_seqE (by kernel_rfl) ?_
  refine wp_regE (by kernel_rfl) ?_
  refine seg [.ld (.r 1), .st 0] [2] (fun K => (((g3 : Nat) = g3) ∧ ((none : Option Nat) = none)) ∧ ((g1 : Nat) = g1 ∧ (none : Option Nat) = none) ∧ K [⟨2, none, .pointer (some ⟨g1, 0, none⟩)⟩] [.box g1 27 (cTBlock (⟨((x0.getD 0 0).toNat : Int), w64 (((x0.getD 1 0).toNat : Int) + (w64 (256 * ((x0.getD 2 0).toNat : Int)))), x0.getD 3 0, x0.getD 4 0, (⟨((x0.getD 5 0).toNat : Int), ((x0.getD 6 0).toNat : Int), ((x0.getD 7 0).toNat : Int), ((x0.getD 8 0).toNat : Int), false⟩ : TLabel), (⟨((x0.getD 9 0).toNat : Int), ((x0.getD 10 0).toNat : Int), ((x0.getD 11 0).toNat : Int), ((x0.getD 12 0).toNat : Int), false⟩ : TLabel), ((x0.getD 13 0).toNat : Int), x0.getD 14 0, ((x0.getD 15 0).toNat : Int) == 1, []⟩ : TBlock) (gu none 0)), .box g3 27 (cTBlock (⟨((x0.getD 0 0).toNat : Int), w64 (((x0.getD 1 0).toNat : Int) + (w64 (256 * ((x0.getD 2 0).toNat : Int)))), x0.getD 3 0, x0.getD 4 0, (⟨((x0.getD 5 0).toNat : Int), ((x0.getD 6 0).toNat : Int), ((x0.getD 7 0).toNat : Int), ((x0.getD 8 0).toNat : Int), false⟩ : TLabel), (⟨((x0.getD 9 0).toNat : Int), ((x0.getD 10 0).toNat : Int), ((x0.getD 11 0).toNat : Int), ((x0.getD 12 0).toNat : Int), false⟩ : TLabel), ((x0.getD 13 0).toNat : Int), x0.getD 14 0, ((x0.getD 15 0).toNat : Int) == 1, []⟩ : TBlock) (gu none 0))]) (fun K => by kernel_rfl) hF hH ?_
  refine ⟨⟨rfl, rfl⟩, ?_⟩
  refine ⟨⟨rfl, rfl⟩, ?_⟩
  clear hF hH; intro a w hF hH
  refine wl_end (by kernel_rfl) ?_
  refine then_n ?_
  refine wp_retE (by kernel_rfl) ?_
  have hH := hH.nilRw 5 elB (gu none 0) rfl rfl
  refine retE (vs := [ag (cTBlock (⟨((x0.getD 0 0).toNat : Int), w64 (((x0.getD 1 0).toNat : Int) + (w64 (256 * ((x0.getD 2 0).toNat : Int)))), x0.getD 3 0, x0.getD 4 0, (⟨((x0.getD 5 0).toNat : Int), ((x0.getD 6 0).toNat : Int), ((x0.getD 7 0).toNat : Int), ((x0.getD 8 0).toNat : Int), false⟩ : TLabel), (⟨((x0.getD 9 0).toNat : Int), ((x0.getD 10 0).toNat : Int), ((x0.getD 11 0).toNat : Int), ((x0.getD 12 0).toNat : Int), false⟩ : TLabel), ((x0.getD 13 0).toNat : Int), x0.getD 14 0, ((x0.getD 15 0).toNat : Int) == 1, []⟩ : TBlock) (gu none 0))]) (p := (((g1 : Nat) = g1 ∧ (none : Option Nat) = none)) ∧ True) (v := ag (cTBlock (⟨((x0.getD 0 0).toNat : Int), w64 (((x0.getD 1 0).toNat : Int) + (w64 (256 * ((x0.getD 2 0).toNat : Int)))), x0.getD 3 0, x0.getD 4 0, (⟨((x0.getD 5 0).toNat : Int), ((x0.getD 6 0).toNat : Int), ((x0.getD 7 0).toNat : Int), ((x0.getD 8 0).toNat : Int), false⟩ : TLabel), (⟨((x0.getD 9 0).toNat : Int), ((x0.getD 10 0).toNat : Int), ((x0.getD 11 0).toNat : Int), ((x0.getD 12 0).toNat : Int), false⟩ : TLabel), ((x0.getD 13 0).toNat : Int), x0.getD 14 0, ((x0.getD 15 0).toNat : Int) == 1, []⟩ : TBlock) (gu none 0))) [0] (by kernel_rfl) ⟨⟨rfl, rfl⟩, trivial⟩ (by kernel_rfl) hF hH ?_
  obtain rfl := Option.some.inj hm
  exact ⟨(gu none 0), by kernel_rfl, hH.below, trivial, newK hH [2] [] (by kernel_rfl) (by kernel_rfl) (by kernel_rfl) (by kernel_rfl)⟩

theorem c_r23_equal (N : Nat) (x0 : List UInt8) (gx0 : Gs Unit) (x1 : List UInt8) (gx1 : Gs Unit) (r : Bool) (hm : r23_equal N x0 x1 = some r) : CallOk Try.prog 37 [sl x0.length gx0, sl x1.length gx1] [vw elB x0.length x0 gx0, vw elB x1.length x1 gx1] [] (U := Unit) (fun _ => .bool r) (fun _ => []) (fun _ => []) (fun _ => True) := by
  unfold r23_equal at hm
  refine callI (N := 10) Try.func37 (by kernel_rfl) (by kernel_rfl) (by kernel_rfl) ?_
  intro w0 B M a hF hH
  refine wp_seqE (by kernel_rfl) ?_
  refine wp_regE (by kernel_rfl) ?_
  refine seg [.p] [0, 1] (fun K => K [⟨0, none, sl x0.length gx0⟩, ⟨1, none, sl x1.length gx1⟩] []) (fun K => by kernel_rfl) hF hH ?_
  clear hF hH; intro a w hF hH
  refine wl_end (by kernel_rfl) ?_
  refine then_n ?_
  refine wp_seqE (by kernel_rfl) ?_
  refine wp_regE (by kernel_rfl) ?_
  refine seg [.p, .tos (.n 0) x0, .p, .tos (.n 1) x1, .pv (.bool (decide (x0 = x1))), .p] [4] (fun K => (((gx0.a : Option Addr) = gx0.a) ∧ ((x0.length : Nat) = x0.length) ∧ ((1 : Nat) = 1) ∧ ((x0.length : Nat) = x0.length) ∧ ∀ i, i < x0.length → elB.cel (x0.getD i elB.d) (gx0.g i) = [.int .u8 ((x0.getD i 0).toNat : Int)]) ∧ (((gx1.a : Option Addr) = gx1.a) ∧ ((x1.length : Nat) = x1.length) ∧ ((1 : Nat) = 1) ∧ ((x1.length : Nat) = x1.length) ∧ ∀ i, i < x1.length → elB.cel (x1.getD i elB.d) (gx1.g i) = [.int .u8 ((x1.getD i 0).toNat : Int)]) ∧ (Value.bool (((bst x0).toList == (bst x1).toList)) = .bool (decide (x0 = x1))) ∧ K [⟨4, none, .bool (decide (x0 = x1))⟩] []) (fun K => by kernel_rfl) hF hH ?_
  refine ⟨⟨rfl, rfl, rfl, by first | rfl | simp, fun _ _ => rfl⟩, ?_⟩
  refine ⟨⟨rfl, rfl, rfl, by first | rfl | simp, fun _ _ => rfl⟩, ?_⟩
  refine ⟨vstr_eq (k := fun b => b) _ _, ?_⟩
  clear hF hH; intro a w hF hH
  refine wl_end (by kernel_rfl) ?_
  refine then_n ?_
  refine wp_retE (by kernel_rfl) ?_
  refine retE (vs := [.bool (decide (x0 = x1))]) (p := True) (v := .bool (decide (x0 = x1))) [] (by kernel_rfl) trivial (by kernel_rfl) hF hH ?_
  obtain rfl := Option.some.inj hm
  exact ⟨(), by kernel_rfl, hH.below, trivial, newK hH [] [] (by kernel_rfl) (by kernel_rfl) (by kernel_rfl) (by kernel_rfl)⟩

theorem c_r23_Get (N : Nat) (x0 : List UInt8) (gx0 : Gs Unit) (r : TBlock × Int) (hm : r23_Get N x0 = some r) : CallOk Try.prog 22 [sl x0.length gx0] [vw elB x0.length x0 gx0] [] (U := Gs Unit) (fun u => .tuple #[ag (cTBlock r.1 u), .int .i64 r.2]) (fun u => [vw elB r.1.Text.length r.1.Text u]) (fun _ => []) (fun _ => True) := by
  unfold r23_Get at hm
  refine callI (N := 46) Try.func22 (by kernel_rfl) (by kernel_rfl) (by kernel_rfl) ?_
  intro w0 B M a hF hH
  refine wp_seqE (by kernel_rfl) ?_
  refine wp_regE (by kernel_rfl) ?_
  refine seg [.al, .p] [0, 2] (fun K => ∀ g1, K [⟨0, none, sl x0.length gx0⟩, ⟨2, none, .pointer (some ⟨g1, 0, none⟩)⟩] [.box g1 27 (cTBlock TBlock.z (gu none 0))]) (fun K => by kernel_rfl) hF hH ?_
  intro g1
  clear hF hH; intro a w hF hH
  refine wl_end (by kernel_rfl) ?_
  refine then_n ?_
  refine wp_seqE (by kernel_rfl) ?_
  refine wp_seqE (by kernel_rfl) ?_
  refine wp_regE (by kernel_rfl) ?_
  refine seg [.p, .p, .p] [0, 2, 11] (fun K => K [⟨0, none, sl x0.length gx0⟩, ⟨2, none, .pointer (some ⟨g1, 0, none⟩)⟩, ⟨11, none, .bool ((x0.length : Int) != 128)⟩] [.box g1 27 (cTBlock TBlock.z (gu none 0))]) (fun K => by kernel_rfl) hF hH ?_
  clear hF hH; intro a w hF hH
  refine wl_end (by kernel_rfl) ?_
  refine then_n ?_
  refine wp_condE (b := (x0.length : Int) != 128) (by kernel_rfl) (by kernel_rfl) hF (fun hb1 => ?_) (fun hb1 => ?_)
  · have hm := condT hb1 hm
    have hb1p := ne_of_bne hb1
    refine wp_seqE (by kernel_rfl) ?_
    refine wp_regE (by kernel_rfl) ?_
    refine seg [.p, .st 0, .p] [2, 3] (fun K => ((g1 : Nat) = g1 ∧ (none : Option Nat) = none) ∧ K [⟨2, none, .pointer (some ⟨g1, 0, none⟩)⟩, ⟨3, none, .int .i64 4⟩] [.box g1 27 (cTBlock TBlock.z (gu none 0))]) (fun K => by kernel_rfl) hF hH ?_
    refine ⟨⟨rfl, rfl⟩, ?_⟩
    clear hF hH; intro a w hF hH
    refine wl_end (by kernel_rfl) ?_
    refine then_n ?_
    refine wp_retE (by kernel_rfl) ?_
    refine then_ret ?_
    have hH := hH.nilRw 5 elB (gu none 0) rfl rfl
    have hH := hH.freeze (k := 1) rfl (imp_rv (by simp)) rfl
    refine retE (vs := [ag (cTBlock TBlock.z (gu none 0)), .int .i64 4]) (p := (((g1 : Nat) = g1 ∧ (none : Option Nat) = none)) ∧ True) (v := .tuple #[ag (cTBlock TBlock.z (gu none 0)), .int .i64 4]) [0] (by kernel_rfl) ⟨⟨rfl, rfl⟩, trivial⟩ (by kernel_rfl) hF hH ?_
    obtain rfl := Option.some.inj hm
    exact ⟨(gu none 0), by kernel_rfl, hH.below, trivial, newK hH [1] [] (by kernel_rfl) (by kernel_rfl) (by kernel_rfl) (by kernel_rfl)⟩
  · have hm := condF hb1 hm
    have hb1p := eq_of_bne_false hb1
    refine wp_skipE (by kernel_rfl) ?_
    refine then_n ?_
    refine wp_seqE (by kernel_rfl) ?_
    refine wp_regE (by kernel_rfl) ?_
    refine seg [.p] [0, 2, 13] (fun K => K [⟨0, none, sl x0.length gx0⟩, ⟨2, none, .pointer (some ⟨g1, 0, none⟩)⟩, ⟨13, none, sl x0.length gx0⟩] [.box g1 27 (cTBlock TBlock.z (gu none 0))]) (fun K => by kernel_rfl) hF hH ?_
    clear hF hH; intro a w hF hH
    obtain ⟨r1, hx1, hm⟩ := bnd_some hm
    refine callE (d := 14) (c_r23_fields N x0 gx0 r1 hx1) [.v (.n 0)] [] (by kernel_rfl) trivial (.inl rfl) (by kernel_rfl) (by kernel_rfl) (by kernel_rfl) (by kernel_rfl) hF hH ?_
    clear hF hH; rintro s1 - a w hF hH
    refine seg [.al, .st 2] [0, 2, 4] (fun K => ∀ g2, ((g2 : Nat) = g2 ∧ (none : Option Nat) = none) ∧ K [⟨0, none, sl x0.length gx0⟩, ⟨2, none, .pointer (some ⟨g1, 0, none⟩)⟩, ⟨4, none, .pointer (some ⟨g2, 0, none⟩)⟩] [.box g1 27 (cTBlock TBlock.z (gu none 0)), rw 5 elB r1.Text.length r1.Text s1, .box g2 27 (cTBlock r1 s1)]) (fun K => by kernel_rfl) hF hH ?_
    intro g2
    refine ⟨⟨rfl, rfl⟩, ?_⟩
    clear hF hH; intro a w hF hH
    refine wl_end (by kernel_rfl) ?_
    refine then_n ?_
    refine wp_seqE (by kernel_rfl) ?_
    refine wp_seqE (by kernel_rfl) ?_
    refine wp_regE (by kernel_rfl) ?_
    obtain ⟨hp1, hm⟩ := grd_some hm
    refine seg [.p, .as (.sl 16 x0.length) (sl ((x0.drop 16).length) (cutS gx0 16 1)), .p, .p] [0, 2, 4, 16, 17, 18] (fun K => ((((16 : Int) = ((16 : Nat) : Int)) ∧ ((x0.length : Nat) = x0.length) ∧ (16 ≤ x0.length) ∧ (x0.length ≤ gx0.c)) ∧ (Value.slice (if gx0.c = 16 then gx0.a else gx0.a.map (·.add (16 * 1))) (x0.length - 16) (gx0.c - 16) = sl ((x0.drop 16).length) (cutS gx0 16 1))) ∧ K [⟨0, none, sl x0.length gx0⟩, ⟨2, none, .pointer (some ⟨g1, 0, none⟩)⟩, ⟨4, none, .pointer (some ⟨g2, 0, none⟩)⟩, ⟨16, none, sl ((x0.drop 16).length) (cutS gx0 16 1)⟩, ⟨17, none, .int .i64 ((x0.drop 16).length : Int)⟩, ⟨18, none, .int .i64 0⟩] [.box g1 27 (cTBlock TBlock.z (gu none 0)), rw 5 elB r1.Text.length r1.Text s1, .box g2 27 (cTBlock r1 s1)]) (fun K => by kernel_rfl) hF hH ?_
    refine ⟨⟨⟨by omega, rfl, by omega, by have := vw_cap hH (.n 0) rfl; omega⟩, sl_cut (by simp only [List.length_drop])⟩, ?_⟩
    clear hF hH; intro a w hF hH
    refine wl_end (by kernel_rfl) ?_
    refine then_n ?_
    obtain ⟨jk1, hjk1, hm⟩ := jn_some hm
    refine wp_blockJ (id := 0) (by kernel_rfl) (fun a w => ∃ (v1 : List UInt8), ∃ (s2 : Gs Unit), jk1 v1 = some r ∧ Fr 46 [⟨0, none, sl x0.length gx0⟩, ⟨2, none, .pointer (some ⟨g1, 0, none⟩)⟩, ⟨4, none, .pointer (some ⟨g2, 0, none⟩)⟩] a ∧ Hp w0 B M [vw elB x0.length x0 gx0] [.box g2 27 (cTBlock ({ r1 with Text := v1 }) s2), .box g1 27 (cTBlock TBlock.z (gu none 0)), rw 5 elB v1.length v1 s2] w) ?_ ?_
    · skip
      refine wp_loopE (by kernel_rfl) (fun msr a w => ∃ (v2 : Int), ∃ (v3 : List UInt8), ∃ (s3 : Gs Unit), r23_Get_L5 N x0 jk1 msr v2 v3 = some r ∧ Fr 46 [⟨0, none, sl x0.length gx0⟩, ⟨2, none, .pointer (some ⟨g1, 0, none⟩)⟩, ⟨4, none, .pointer (some ⟨g2, 0, none⟩)⟩, ⟨16, none, sl ((x0.drop 16).length) (cutS gx0 16 1)⟩, ⟨17, none, .int .i64 ((x0.drop 16).length : Int)⟩, ⟨18, none, .int .i64 v2⟩] a ∧ Hp w0 B M [vw elB x0.length x0 gx0] [.box g2 27 (cTBlock ({ r1 with Text := v3 }) s3), .box g1 27 (cTBlock TBlock.z (gu none 0)), rw 5 elB v3.length v3 s3] w) N ⟨0, r1.Text, s1, hm, frK hF [0, 2, 4, 16, 17, 18] (by kernel_rfl), hpKN hH [0] [2, 0, 1] (by kernel_rfl) (by kernel_rfl) (by kernel_rfl)⟩ ?_
      clear hF hH hm; rintro msr a w ⟨v2, v3, s3, hm, hF, hH⟩
      rcases msr with _ | msr
      · exact absurd hm (by simp [r23_Get_L5])
      rw [r23_Get_L5] at hm
      refine wp_seqE (by kernel_rfl) ?_
      refine wp_regE (by kernel_rfl) ?_
      refine seg [.p] [0, 2, 4, 16, 17, 18, 19] (fun K => K [⟨0, none, sl x0.length gx0⟩, ⟨2, none, .pointer (some ⟨g1, 0, none⟩)⟩, ⟨4, none, .pointer (some ⟨g2, 0, none⟩)⟩, ⟨16, none, sl ((x0.drop 16).length) (cutS gx0 16 1)⟩, ⟨17, none, .int .i64 ((x0.drop 16).length : Int)⟩, ⟨18, none, .int .i64 v2⟩, ⟨19, none, .bool (decide (v2 < ((x0.drop 16).length : Int)))⟩] [.box g2 27 (cTBlock ({ r1 with Text := v3 }) s3), .box g1 27 (cTBlock TBlock.z (gu none 0)), rw 5 elB v3.length v3 s3]) (fun K => by kernel_rfl) hF hH ?_
      clear hF hH; intro a w hF hH
      refine wl_end (by kernel_rfl) ?_
      refine then_n ?_
      refine wp_seqE (by kernel_rfl) ?_
      refine wp_condE (b := decide (v2 < ((x0.drop 16).length : Int))) (by kernel_rfl) (by kernel_rfl) hF (fun hb2 => ?_) (fun hb2 => ?_)
      · have hm := condT hb2 hm
        have hb2p := of_decide_eq_true hb2
        refine wp_skipE (by kernel_rfl) ?_
        refine then_n ?_
        refine wp_seqE (by kernel_rfl) ?_
        refine wp_blockE (id := 1) (by kernel_rfl) ?_
        refine wp_seqE (by kernel_rfl) ?_
        refine wp_regE (by kernel_rfl) ?_
        have hH := hH.lookN (k := 0) rfl (imp_tailL (lo := 16) (by first | rfl | simp) (by omega))
        obtain ⟨hp2, hm⟩ := grd_some hm
        refine seg [.ia (.n 1) v2.toNat, .lv (.n 1) v2.toNat 0, .p] [0, 2, 4, 16, 17, 18, 6] (fun K => ((((cutS gx0 16 1).a : Option Addr) = (cutS gx0 16 1).a) ∧ (((x0.drop 16).length : Nat) = (x0.drop 16).length) ∧ ((1 : Nat) = 1) ∧ ((v2 : Int) = ((v2.toNat : Nat) : Int)) ∧ (v2.toNat < (x0.drop 16).length)) ∧ ((((cutS gx0 16 1).a.getD nilA).add (v2.toNat * 1) = (((cutS gx0 16 1).a.getD nilA).add (v2.toNat * 1)).add 0) ∧ (v2.toNat < (x0.drop 16).length)) ∧ K [⟨0, none, sl x0.length gx0⟩, ⟨2, none, .pointer (some ⟨g1, 0, none⟩)⟩, ⟨4, none, .pointer (some ⟨g2, 0, none⟩)⟩, ⟨16, none, sl ((x0.drop 16).length) (cutS gx0 16 1)⟩, ⟨17, none, .int .i64 ((x0.drop 16).length : Int)⟩, ⟨18, none, .int .i64 v2⟩, ⟨6, none, .int .u8 (((x0.drop 16).getD v2.toNat 0).toNat : Int)⟩] [.box g2 27 (cTBlock ({ r1 with Text := v3 }) s3), .box g1 27 (cTBlock TBlock.z (gu none 0)), rw 5 elB v3.length v3 s3]) (fun K => by kernel_rfl) hF hH ?_
        refine ⟨⟨rfl, rfl, rfl, by omega, by omega⟩, ?_⟩
        refine ⟨⟨rfl, by omega⟩, ?_⟩
        clear hF hH; intro a w hF hH
        refine wl_end (by kernel_rfl) ?_
        refine then_n ?_
        refine wp_seqE (by kernel_rfl) ?_
        refine wp_seqE (by kernel_rfl) ?_
        refine wp_regE (by kernel_rfl) ?_
        refine seg [.p, .p] [0, 2, 4, 16, 17, 18, 6, 23] (fun K => K [⟨0, none, sl x0.length gx0⟩, ⟨2, none, .pointer (some ⟨g1, 0, none⟩)⟩, ⟨4, none, .pointer (some ⟨g2, 0, none⟩)⟩, ⟨16, none, sl ((x0.drop 16).length) (cutS gx0 16 1)⟩, ⟨17, none, .int .i64 ((x0.drop 16).length : Int)⟩, ⟨18, none, .int .i64 v2⟩, ⟨6, none, .int .u8 (((x0.drop 16).getD v2.toNat 0).toNat : Int)⟩, ⟨23, none, .bool ((((x0.drop 16).getD v2.toNat 0).toNat : Int) == 143)⟩] [.box g2 27 (cTBlock ({ r1 with Text := v3 }) s3), .box g1 27 (cTBlock TBlock.z (gu none 0)), rw 5 elB v3.length v3 s3]) (fun K => by kernel_rfl) hF hH ?_
        clear hF hH; intro a w hF hH
        refine wl_end (by kernel_rfl) ?_
        refine then_n ?_
        refine wp_condE (b := (((x0.drop 16).getD v2.toNat 0).toNat : Int) == 143) (by kernel_rfl) (by kernel_rfl) hF (fun hb3 => ?_) (fun hb3 => ?_)
        · have hm := condT hb3 hm
          have hb3p := eq_of_beq hb3
          refine wp_exitE (id := 0) (by kernel_rfl) ?_
          refine then_exit ?_
          refine block_other (by kernel_rfl) ?_
          refine then_exit ?_
          refine then_exit ?_
          refine block_exit ?_
          refine then_n ?_
          exact ⟨v3, s3, hm, frK hF [0, 2, 4] (by kernel_rfl), hpKN hH [0] [0, 1, 2] (by kernel_rfl) (by kernel_rfl) (by kernel_rfl)⟩
        · have hm := condF hb3 hm
          have hb3p := ne_of_beq_false hb3
          refine wp_skipE (by kernel_rfl) ?_
          refine then_n ?_
          refine wp_regE (by kernel_rfl) ?_
          obtain ⟨hp3, hm⟩ := grd_some hm
          refine seg [.p, .ld (.r 0), .p, .bs, .ap 2 (.r 3) (rowC elB [((x0.drop 16).getD v2.toNat 0)] (fun _ => ())) ((v3 ++ [((x0.drop 16).getD v2.toNat 0)]).length) (rowC elB (v3 ++ [((x0.drop 16).getD v2.toNat 0)]) (fun _ => ())), .p, .st 0] [0, 2, 4, 16, 17, 18] (fun K => (((g2 : Nat) = g2) ∧ ((none : Option Nat) = none)) ∧ ∀ g3, (((s3.a : Option Addr) = s3.a) ∧ ((s3.c : Nat) = s3.c) ∧ ((v3.length : Nat) = v3.length) ∧ srcP (.box g3 5 [.int .u8 (((x0.drop 16).getD v2.toNat 0).toNat : Int)]) (gu (some ⟨g3, 0, none⟩) 1).a 1 1 (rowC elB [((x0.drop 16).getD v2.toNat 0)] (fun _ => ())) ∧ (∀ u ∈ (rowC elB [((x0.drop 16).getD v2.toNat 0)] (fun _ => ()) : List Value), u.oneCell' = true) ∧ (v3.length + 1 ≤ maxLen) ∧ ((v3.length + 1) * 1 ≤ 140737488355328) ∧ (v3.length + 1 = (v3 ++ [((x0.drop 16).getD v2.toNat 0)]).length) ∧ (rowC elB v3 s3.g ++ rowC elB [((x0.drop 16).getD v2.toNat 0)] (fun _ => ()) = rowC elB (v3 ++ [((x0.drop 16).getD v2.toNat 0)]) (fun _ => ()))) ∧ ∀ A1 c1, ((g2 : Nat) = g2 ∧ (none : Option Nat) = none) ∧ K [⟨0, none, sl x0.length gx0⟩, ⟨2, none, .pointer (some ⟨g1, 0, none⟩)⟩, ⟨4, none, .pointer (some ⟨g2, 0, none⟩)⟩, ⟨16, none, sl ((x0.drop 16).length) (cutS gx0 16 1)⟩, ⟨17, none, .int .i64 ((x0.drop 16).length : Int)⟩, ⟨18, none, .int .i64 v2⟩] [.box g2 27 (cTBlock ({ r1 with Text := v3 ++ [((x0.drop 16).getD v2.toNat 0)] }) (gu A1 c1)), .box g1 27 (cTBlock TBlock.z (gu none 0)), rw 5 elB ((v3 ++ [((x0.drop 16).getD v2.toNat 0)]).length) (v3 ++ [((x0.drop 16).getD v2.toNat 0)]) (gu A1 c1), .box g3 5 [.int .u8 (((x0.drop 16).getD v2.toNat 0).toNat : Int)]]) (fun K => by kernel_rfl) hF hH ?_
          refine ⟨⟨rfl, rfl⟩, ?_⟩
          intro g3
          refine ⟨⟨rfl, rfl, rfl, ⟨rfl, rfl, rfl⟩, rowC_one _ _ _, by (unfold maxLen; omega), by omega, by first | rfl | omega | (simp only [List.length_append, List.length_cons, List.length_nil] <;> omega), (rowC_appU _ _ _ _ _ _).symm⟩, ?_⟩
          intro A1 c1
          refine ⟨⟨rfl, rfl⟩, ?_⟩
          clear hF hH; intro a w hF hH
          refine wl_end (by kernel_rfl) ?_
          refine block_n ?_
          refine then_n ?_
          refine wp_regE (by kernel_rfl) ?_
          refine seg [.p, .p] [0, 2, 4, 16, 17, 18] (fun K => K [⟨0, none, sl x0.length gx0⟩, ⟨2, none, .pointer (some ⟨g1, 0, none⟩)⟩, ⟨4, none, .pointer (some ⟨g2, 0, none⟩)⟩, ⟨16, none, sl ((x0.drop 16).length) (cutS gx0 16 1)⟩, ⟨17, none, .int .i64 ((x0.drop 16).length : Int)⟩, ⟨18, none, .int .i64 (w64 (v2 + 1))⟩] [.box g2 27 (cTBlock ({ r1 with Text := v3 ++ [((x0.drop 16).getD v2.toNat 0)] }) (gu A1 c1)), .box g1 27 (cTBlock TBlock.z (gu none 0)), rw 5 elB ((v3 ++ [((x0.drop 16).getD v2.toNat 0)]).length) (v3 ++ [((x0.drop 16).getD v2.toNat 0)]) (gu A1 c1), .box g3 5 [.int .u8 (((x0.drop 16).getD v2.toNat 0).toNat : Int)]]) (fun K => by kernel_rfl) hF hH ?_
          clear hF hH; intro a w hF hH
          refine wl_end (by kernel_rfl) ?_
          refine then_n ?_
          exact ⟨msr, Nat.lt_succ_self _, w64 (v2 + 1), v3 ++ [((x0.drop 16).getD v2.toNat 0)], (gu A1 c1), hm, frK hF [0, 2, 4, 16, 17, 18] (by kernel_rfl), hpKN hH [0] [0, 1, 2] (by kernel_rfl) (by kernel_rfl) (by kernel_rfl)⟩
      · have hm := condF hb2 hm
        have hb2p := of_decide_eq_false hb2
        refine wp_exitE (id := 0) (by kernel_rfl) ?_
        refine then_exit ?_
        refine then_exit ?_
        refine block_exit ?_
        refine then_n ?_
        exact ⟨v3, s3, hm, frK hF [0, 2, 4] (by kernel_rfl), hpKN hH [0] [0, 1, 2] (by kernel_rfl) (by kernel_rfl) (by kernel_rfl)⟩
    · clear hF hH hm; rintro a w ⟨v1, s2, hm, hF, hH⟩
      rw [hjk1] at hm
      refine then_n ?_
      refine wp_seqE (by kernel_rfl) ?_
      refine wp_seqE (by kernel_rfl) ?_
      refine wp_regE (by kernel_rfl) ?_
      refine seg [.ld (.r 0)] [0, 2, 4, 32] (fun K => (((g2 : Nat) = g2) ∧ ((none : Option Nat) = none)) ∧ K [⟨0, none, sl x0.length gx0⟩, ⟨2, none, .pointer (some ⟨g1, 0, none⟩)⟩, ⟨4, none, .pointer (some ⟨g2, 0, none⟩)⟩, ⟨32, none, ag (cTBlock ({ r1 with Text := v1 }) s2)⟩] [.box g2 27 (cTBlock ({ r1 with Text := v1 }) s2), .box g1 27 (cTBlock TBlock.z (gu none 0)), rw 5 elB v1.length v1 s2]) (fun K => by kernel_rfl) hF hH ?_
      refine ⟨⟨rfl, rfl⟩, ?_⟩
      clear hF hH; intro a w hF hH
      obtain ⟨r2, hx2, hm⟩ := bnd_some hm
      refine callE (d := 33) (b := true) (p := (((∀ w, Res.ok w (rw 5 elB v1.length v1 s2) → Res.ok w (vw elB v1.length v1 s2)) ∧ ∀ b, (vw elB v1.length v1 s2).fp b → (rw 5 elB v1.length v1 s2).fp b) ∧ True)) (c_r23_Put N ({ r1 with Text := v1 }) s2 r2 hx2) [.b 2 (vw elB v1.length v1 s2)] [] (by kernel_rfl) ⟨⟨(imp_rv (rfl)).ok, (imp_rv (rfl)).fp⟩, trivial⟩ (.inr fun _ => rfl) (by kernel_rfl) (by kernel_rfl) (by kernel_rfl) (by kernel_rfl) hF hH ?_
      clear hF hH; rintro s4 - a w hF hH
      refine seg [.p, .p, .p, .p, .p] [0, 2, 4, 7, 8] (fun K => K [⟨0, none, sl x0.length gx0⟩, ⟨2, none, .pointer (some ⟨g1, 0, none⟩)⟩, ⟨4, none, .pointer (some ⟨g2, 0, none⟩)⟩, ⟨7, none, sl r2.1.length s4⟩, ⟨8, none, .int .i64 r2.2⟩] [.box g2 27 (cTBlock ({ r1 with Text := v1 }) s2), .box g1 27 (cTBlock TBlock.z (gu none 0)), rw 5 elB v1.length v1 s2, rw 5 elB r2.1.length r2.1 s4]) (fun K => by kernel_rfl) hF hH ?_
      clear hF hH; intro a w hF hH
      refine wl_end (by kernel_rfl) ?_
      refine then_n ?_
      refine wp_seqE (by kernel_rfl) ?_
      refine wp_regE (by kernel_rfl) ?_
      refine seg [.p, .p, .p] [0, 2, 4, 7, 38] (fun K => K [⟨0, none, sl x0.length gx0⟩, ⟨2, none, .pointer (some ⟨g1, 0, none⟩)⟩, ⟨4, none, .pointer (some ⟨g2, 0, none⟩)⟩, ⟨7, none, sl r2.1.length s4⟩, ⟨38, none, .bool (r2.2 != 0)⟩] [.box g2 27 (cTBlock ({ r1 with Text := v1 }) s2), .box g1 27 (cTBlock TBlock.z (gu none 0)), rw 5 elB v1.length v1 s2, rw 5 elB r2.1.length r2.1 s4]) (fun K => by kernel_rfl) hF hH ?_
      clear hF hH; intro a w hF hH
      rcases Bool.eq_false_or_eq_true (r2.2 != 0) with hx3 | hx3
      · have hm := condT hx3 hm
        rw [hx3] at hF
        have hx3p := ne_of_bne hx3
        refine seg [.sk, .sk, .sk, .sk, .p] [2, 4, 43] (fun K => (true = !false) ∧ (true = !false) ∧ (true = !false) ∧ (true = !false) ∧ K [⟨2, none, .pointer (some ⟨g1, 0, none⟩)⟩, ⟨4, none, .pointer (some ⟨g2, 0, none⟩)⟩, ⟨43, none, .bool true⟩] [.box g2 27 (cTBlock ({ r1 with Text := v1 }) s2), .box g1 27 (cTBlock TBlock.z (gu none 0)), rw 5 elB v1.length v1 s2, rw 5 elB r2.1.length r2.1 s4]) (fun K => by kernel_rfl) hF hH ?_
        refine ⟨rfl, ?_⟩
        refine ⟨rfl, ?_⟩
        refine ⟨rfl, ?_⟩
        refine ⟨rfl, ?_⟩
        clear hF hH; intro a w hF hH
        refine wl_end (by kernel_rfl) ?_
        refine then_n ?_
        refine wp_condE (b := true) (by kernel_rfl) (by kernel_rfl) hF (fun _ => ?_) (fun h => by cases h)
        refine wp_seqE (by kernel_rfl) ?_
        refine wp_regE (by kernel_rfl) ?_
        refine seg [.p, .st 1, .p] [2, 3] (fun K => ((g1 : Nat) = g1 ∧ (none : Option Nat) = none) ∧ K [⟨2, none, .pointer (some ⟨g1, 0, none⟩)⟩, ⟨3, none, .int .i64 4⟩] [.box g2 27 (cTBlock ({ r1 with Text := v1 }) s2), .box g1 27 (cTBlock TBlock.z (gu none 0)), rw 5 elB v1.length v1 s2, rw 5 elB r2.1.length r2.1 s4]) (fun K => by kernel_rfl) hF hH ?_
        refine ⟨⟨rfl, rfl⟩, ?_⟩
        clear hF hH; intro a w hF hH
        refine wl_end (by kernel_rfl) ?_
        refine then_n ?_
        refine wp_retE (by kernel_rfl) ?_
        refine then_ret ?_
        have hH := hH.nilRw 5 elB (gu none 0) rfl rfl
        have hH := hH.freeze (k := 4) rfl (imp_rv (by simp)) rfl
        refine retE (vs := [ag (cTBlock TBlock.z (gu none 0)), .int .i64 4]) (p := (((g1 : Nat) = g1 ∧ (none : Option Nat) = none)) ∧ True) (v := .tuple #[ag (cTBlock TBlock.z (gu none 0)), .int .i64 4]) [1] (by kernel_rfl) ⟨⟨rfl, rfl⟩, trivial⟩ (by kernel_rfl) hF hH ?_
        obtain rfl := Option.some.inj hm
        exact ⟨(gu none 0), by kernel_rfl, hH.below, trivial, newK hH [4] [] (by kernel_rfl) (by kernel_rfl) (by kernel_rfl) (by kernel_rfl)⟩
      · have hm := condF hx3 hm
        rw [hx3] at hF
        have hx3p := eq_of_bne_false hx3
        refine seg [.gt (.p), .gt (.p)] [2, 4, 38, 39, 40] (fun K => (false = false) ∧ (false = false) ∧ K [⟨2, none, .pointer (some ⟨g1, 0, none⟩)⟩, ⟨4, none, .pointer (some ⟨g2, 0, none⟩)⟩, ⟨38, none, .bool false⟩, ⟨39, none, sl x0.length gx0⟩, ⟨40, none, sl r2.1.length s4⟩] [.box g2 27 (cTBlock ({ r1 with Text := v1 }) s2), .box g1 27 (cTBlock TBlock.z (gu none 0)), rw 5 elB v1.length v1 s2, rw 5 elB r2.1.length r2.1 s4]) (fun K => by kernel_rfl) hF hH ?_
        refine ⟨rfl, ?_⟩
        refine ⟨rfl, ?_⟩
        clear hF hH; intro a w hF hH
        obtain ⟨r3, hx4, hm⟩ := bnd_some hm
        refine callE (d := 41) (b := true) (p := (((∀ w, Res.ok w (rw 5 elB r2.1.length r2.1 s4) → Res.ok w (vw elB r2.1.length r2.1 s4)) ∧ ∀ b, (vw elB r2.1.length r2.1 s4).fp b → (rw 5 elB r2.1.length r2.1 s4).fp b) ∧ True)) (c_r23_equal N x0 gx0 r2.1 s4 r3 hx4) [.v (.n 0), .b 3 (vw elB r2.1.length r2.1 s4)] [] (by kernel_rfl) ⟨⟨(imp_rv (rfl)).ok, (imp_rv (rfl)).fp⟩, trivial⟩ (.inr fun _ => rfl) (by kernel_rfl) (by kernel_rfl) (by kernel_rfl) (by kernel_rfl) hF hH ?_
        clear hF hH; rintro ⟨⟩ - a w hF hH
        refine seg [.gt (.p), .p] [2, 4, 43] (fun K => (false = false) ∧ K [⟨2, none, .pointer (some ⟨g1, 0, none⟩)⟩, ⟨4, none, .pointer (some ⟨g2, 0, none⟩)⟩, ⟨43, none, .bool (!r3)⟩] [.box g2 27 (cTBlock ({ r1 with Text := v1 }) s2), .box g1 27 (cTBlock TBlock.z (gu none 0)), rw 5 elB v1.length v1 s2, rw 5 elB r2.1.length r2.1 s4]) (fun K => by kernel_rfl) hF hH ?_
        refine ⟨rfl, ?_⟩
        clear hF hH; intro a w hF hH
        refine wl_end (by kernel_rfl) ?_
        refine then_n ?_
        refine wp_condE (b := !r3) (by kernel_rfl) (by kernel_rfl) hF (fun hb4 => ?_) (fun hb4 => ?_)
        · have hm := condT hb4 hm
          refine wp_seqE (by kernel_rfl) ?_
          refine wp_regE (by kernel_rfl) ?_
          refine seg [.p, .st 1, .p] [2, 3] (fun K => ((g1 : Nat) = g1 ∧ (none : Option Nat) = none) ∧ K [⟨2, none, .pointer (some ⟨g1, 0, none⟩)⟩, ⟨3, none, .int .i64 4⟩] [.box g2 27 (cTBlock ({ r1 with Text := v1 }) s2), .box g1 27 (cTBlock TBlock.z (gu none 0)), rw 5 elB v1.length v1 s2, rw 5 elB r2.1.length r2.1 s4]) (fun K => by kernel_rfl) hF hH ?_
          refine ⟨⟨rfl, rfl⟩, ?_⟩
          clear hF hH; intro a w hF hH
          refine wl_end (by kernel_rfl) ?_
          refine then_n ?_
          refine wp_retE (by kernel_rfl) ?_
          refine then_ret ?_
          have hH := hH.nilRw 5 elB (gu none 0) rfl rfl
          have hH := hH.freeze (k := 4) rfl (imp_rv (by simp)) rfl
          refine retE (vs := [ag (cTBlock TBlock.z (gu none 0)), .int .i64 4]) (p := (((g1 : Nat) = g1 ∧ (none : Option Nat) = none)) ∧ True) (v := .tuple #[ag (cTBlock TBlock.z (gu none 0)), .int .i64 4]) [1] (by kernel_rfl) ⟨⟨rfl, rfl⟩, trivial⟩ (by kernel_rfl) hF hH ?_
          obtain rfl := Option.some.inj hm
          exact ⟨(gu none 0), by kernel_rfl, hH.below, trivial, newK hH [4] [] (by kernel_rfl) (by kernel_rfl) (by kernel_rfl) (by kernel_rfl)⟩
        · have hm := condF hb4 hm
          refine wp_skipE (by kernel_rfl) ?_
          refine then_n ?_
          refine wp_seqE (by kernel_rfl) ?_
          refine wp_regE (by kernel_rfl) ?_
          refine seg [.ld (.r 0), .st 1, .p] [2, 3] (fun K => (((g2 : Nat) = g2) ∧ ((none : Option Nat) = none)) ∧ ((g1 : Nat) = g1 ∧ (none : Option Nat) = none) ∧ K [⟨2, none, .pointer (some ⟨g1, 0, none⟩)⟩, ⟨3, none, .int .i64 0⟩] [.box g2 27 (cTBlock ({ r1 with Text := v1 }) s2), .box g1 27 (cTBlock ({ r1 with Text := v1 }) s2), rw 5 elB v1.length v1 s2, rw 5 elB r2.1.length r2.1 s4]) (fun K => by kernel_rfl) hF hH ?_
          refine ⟨⟨rfl, rfl⟩, ?_⟩
          refine ⟨⟨rfl, rfl⟩, ?_⟩
          clear hF hH; intro a w hF hH
          refine wl_end (by kernel_rfl) ?_
          refine then_n ?_
          refine wp_retE (by kernel_rfl) ?_
          have hH := hH.freeze (k := 2) rfl (imp_rv (rfl)) rfl
          refine retE (vs := [ag (cTBlock ({ r1 with Text := v1 }) s2), .int .i64 0]) (p := (((g1 : Nat) = g1 ∧ (none : Option Nat) = none)) ∧ True) (v := .tuple #[ag (cTBlock ({ r1 with Text := v1 }) s2), .int .i64 0]) [1] (by kernel_rfl) ⟨⟨rfl, rfl⟩, trivial⟩ (by kernel_rfl) hF hH ?_
          obtain rfl := Option.some.inj hm
          exact ⟨s2, by kernel_rfl, hH.below, trivial, newK hH [2] [] (by kernel_rfl) (by kernel_rfl) (by kernel_rfl) (by kernel_rfl)⟩

theorem c_l23_TapeGets (N : Nat) (x0 : List UInt8) (gx0 : Gs Unit) (r : Bool) (hm : l23_TapeGets N x0 = some r) : CallOk Try.prog 7 [sl x0.length gx0] [vw elB x0.length x0 gx0] [] (U := Unit) (fun _ => .bool r) (fun _ => []) (fun _ => []) (fun _ => True) := by
  unfold l23_TapeGets at hm
  refine callI (N := 51) Try.func7 (by kernel_rfl) (by kernel_rfl) (by kernel_rfl) ?_
  intro w0 B M a hF hH
  refine wp_seqE (by kernel_rfl) ?_
  refine wp_regE (by kernel_rfl) ?_
  refine seg [.p] [0] (fun K => K [⟨0, none, sl x0.length gx0⟩] []) (fun K => by kernel_rfl) hF hH ?_
  clear hF hH; intro a w hF hH
  refine wl_end (by kernel_rfl) ?_
  refine then_n ?_
  refine wp_seqE (by kernel_rfl) ?_
  refine wp_seqE (by kernel_rfl) ?_
  refine wp_regE (by kernel_rfl) ?_
  obtain ⟨r1, hx1, hm⟩ := bnd_some hm
  refine callE (d := 9) (c_l23_awake N r1 hx1) [] [] (by kernel_rfl) trivial (.inl rfl) (by kernel_rfl) (by kernel_rfl) (by kernel_rfl) (by kernel_rfl) hF hH ?_
  clear hF hH; rintro ⟨⟩ - a w hF hH
  refine seg [.p] [0, 10] (fun K => K [⟨0, none, sl x0.length gx0⟩, ⟨10, none, .bool (!r1)⟩] []) (fun K => by kernel_rfl) hF hH ?_
  clear hF hH; intro a w hF hH
  refine wl_end (by kernel_rfl) ?_
  refine then_n ?_
  refine wp_condE (b := !r1) (by kernel_rfl) (by kernel_rfl) hF (fun hb1 => ?_) (fun hb1 => ?_)
  · have hm := condT hb1 hm
    refine wp_seqE (by kernel_rfl) ?_
    refine wp_regE (by kernel_rfl) ?_
    refine seg [.p] [2] (fun K => K [⟨2, none, .bool false⟩] []) (fun K => by kernel_rfl) hF hH ?_
    clear hF hH; intro a w hF hH
    refine wl_end (by kernel_rfl) ?_
    refine then_n ?_
    refine wp_retE (by kernel_rfl) ?_
    refine then_ret ?_
    refine retE (vs := [.bool false]) (p := True) (v := .bool false) [] (by kernel_rfl) trivial (by kernel_rfl) hF hH ?_
    obtain rfl := Option.some.inj hm
    exact ⟨(), by kernel_rfl, hH.below, trivial, newK hH [] [] (by kernel_rfl) (by kernel_rfl) (by kernel_rfl) (by kernel_rfl)⟩
  · have hm := condF hb1 hm
    refine wp_skipE (by kernel_rfl) ?_
    refine then_n ?_
    refine wp_seqE (by kernel_rfl) ?_
    refine wp_regE (by kernel_rfl) ?_
    obtain ⟨hp1, hm⟩ := grd_some hm
    refine seg [.p, .p, .p, .pv (.int .i64 (min (x0.length : Int) 130)), .as (.sh ((min (x0.length : Int) 130).toNat)) (sl ((x0.take ((min (x0.length : Int) 130).toNat)).length) gx0), .p] [0] (fun K => (Value.int .i64 (if 130 < (x0.length : Int) then 130 else (x0.length : Int)) = .int .i64 (min (x0.length : Int) 130)) ∧ ((((min (x0.length : Int) 130 : Int) = (((min (x0.length : Int) 130).toNat : Nat) : Int)) ∧ ((min (x0.length : Int) 130).toNat ≤ gx0.c)) ∧ (Value.slice gx0.a ((min (x0.length : Int) 130).toNat) gx0.c = sl ((x0.take ((min (x0.length : Int) 130).toNat)).length) gx0)) ∧ K [⟨0, none, sl ((x0.take ((min (x0.length : Int) 130).toNat)).length) gx0⟩] []) (fun K => by kernel_rfl) hF hH ?_
    refine ⟨minE _ _, ?_⟩
    refine ⟨⟨⟨by omega, by have := vw_cap hH (.n 0) rfl; omega⟩, sl_head (by simp only [List.length_take]; omega)⟩, ?_⟩
    clear hF hH; intro a w hF hH
    refine wl_end (by kernel_rfl) ?_
    refine then_n ?_
    refine wp_seqE (by kernel_rfl) ?_
    refine wp_regE (by kernel_rfl) ?_
    refine seg [.p] [0, 17] (fun K => K [⟨0, none, sl ((x0.take ((min (x0.length : Int) 130).toNat)).length) gx0⟩, ⟨17, none, sl ((x0.take ((min (x0.length : Int) 130).toNat)).length) gx0⟩] []) (fun K => by kernel_rfl) hF hH ?_
    clear hF hH; intro a w hF hH
    have hH := hH.lookN (k := 0) rfl (imp_headL (hi := ((min (x0.length : Int) 130).toNat)) (by first | rfl | simp) (by omega))
    obtain ⟨r2, hx2, hm⟩ := bnd_some hm
    refine callE (d := 18) (c_tape_Get N (x0.take ((min (x0.length : Int) 130).toNat)) gx0 r2 hx2) [.v (.n 1)] [] (by kernel_rfl) trivial (.inl rfl) (by kernel_rfl) (by kernel_rfl) (by kernel_rfl) (by kernel_rfl) hF hH ?_
    clear hF hH; rintro s1 - a w hF hH
    refine seg [.p, .p, .p, .al, .st 1, .p] [0, 3, 4] (fun K => ∀ g1, ((g1 : Nat) = g1 ∧ (none : Option Nat) = none) ∧ K [⟨0, none, sl ((x0.take ((min (x0.length : Int) 130).toNat)).length) gx0⟩, ⟨3, none, .pointer (some ⟨g1, 0, none⟩)⟩, ⟨4, none, .int .i64 r2.2⟩] [vw elB r2.1.Text.length r2.1.Text s1, .box g1 27 (cTBlock r2.1 s1)]) (fun K => by kernel_rfl) hF hH ?_
    intro g1
    refine ⟨⟨rfl, rfl⟩, ?_⟩
    clear hF hH; intro a w hF hH
    refine wl_end (by kernel_rfl) ?_
    refine then_n ?_
    refine wp_seqE (by kernel_rfl) ?_
    refine wp_regE (by kernel_rfl) ?_
    refine seg [.p] [0, 3, 4, 22] (fun K => K [⟨0, none, sl ((x0.take ((min (x0.length : Int) 130).toNat)).length) gx0⟩, ⟨3, none, .pointer (some ⟨g1, 0, none⟩)⟩, ⟨4, none, .int .i64 r2.2⟩, ⟨22, none, sl ((x0.take ((min (x0.length : Int) 130).toNat)).length) gx0⟩] [vw elB r2.1.Text.length r2.1.Text s1, .box g1 27 (cTBlock r2.1 s1)]) (fun K => by kernel_rfl) hF hH ?_
    clear hF hH; intro a w hF hH
    obtain ⟨r3, hx3, hm⟩ := bnd_some hm
    refine callE (d := 23) (c_r23_Get N (x0.take ((min (x0.length : Int) 130).toNat)) gx0 r3 hx3) [.v (.n 1)] [] (by kernel_rfl) trivial (.inl rfl) (by kernel_rfl) (by kernel_rfl) (by kernel_rfl) (by kernel_rfl) hF hH ?_
    clear hF hH; rintro s2 - a w hF hH
    refine seg [.p, .p, .p, .al, .st 3, .p] [0, 3, 4, 5, 6] (fun K => ∀ g2, ((g2 : Nat) = g2 ∧ (none : Option Nat) = none) ∧ K [⟨0, none, sl ((x0.take ((min (x0.length : Int) 130).toNat)).length) gx0⟩, ⟨3, none, .pointer (some ⟨g1, 0, none⟩)⟩, ⟨4, none, .int .i64 r2.2⟩, ⟨5, none, .pointer (some ⟨g2, 0, none⟩)⟩, ⟨6, none, .int .i64 r3.2⟩] [vw elB r2.1.Text.length r2.1.Text s1, .box g1 27 (cTBlock r2.1 s1), vw elB r3.1.Text.length r3.1.Text s2, .box g2 27 (cTBlock r3.1 s2)]) (fun K => by kernel_rfl) hF hH ?_
    intro g2
    refine ⟨⟨rfl, rfl⟩, ?_⟩
    clear hF hH; intro a w hF hH
    refine wl_end (by kernel_rfl) ?_
    refine then_n ?_
    refine wp_seqE (by kernel_rfl) ?_
    refine wp_seqE (by kernel_rfl) ?_
    refine wp_regE (by kernel_rfl) ?_
    refine seg [.ld (.r 1), .ld (.r 3)] [0, 3, 4, 6, 26, 27] (fun K => (((g1 : Nat) = g1) ∧ ((none : Option Nat) = none)) ∧ (((g2 : Nat) = g2) ∧ ((none : Option Nat) = none)) ∧ K [⟨0, none, sl ((x0.take ((min (x0.length : Int) 130).toNat)).length) gx0⟩, ⟨3, none, .pointer (some ⟨g1, 0, none⟩)⟩, ⟨4, none, .int .i64 r2.2⟩, ⟨6, none, .int .i64 r3.2⟩, ⟨26, none, ag (cTBlock r2.1 s1)⟩, ⟨27, none, ag (cTBlock r3.1 s2)⟩] [vw elB r2.1.Text.length r2.1.Text s1, .box g1 27 (cTBlock r2.1 s1), vw elB r3.1.Text.length r3.1.Text s2, .box g2 27 (cTBlock r3.1 s2)]) (fun K => by kernel_rfl) hF hH ?_
    refine ⟨⟨rfl, rfl⟩, ?_⟩
    refine ⟨⟨rfl, rfl⟩, ?_⟩
    clear hF hH; intro a w hF hH
    obtain ⟨r4, hx4, hm⟩ := bnd_some hm
    refine callE (d := 28) (c_l23_same N r2.1 s1 r3.1 s2 r4 hx4) [.v (.r 0), .v (.r 2)] [] (by kernel_rfl) trivial (.inl rfl) (by kernel_rfl) (by kernel_rfl) (by kernel_rfl) (by kernel_rfl) hF hH ?_
    clear hF hH; rintro ⟨⟩ - a w hF hH
    refine seg [.p, .p, .p, .p, .p, .pk] [0, 3, 4, 34] (fun K => K [⟨0, none, sl ((x0.take ((min (x0.length : Int) 130).toNat)).length) gx0⟩, ⟨3, none, .pointer (some ⟨g1, 0, none⟩)⟩, ⟨4, none, .int .i64 r2.2⟩, ⟨34, none, .bool ((!r4) || (r2.2 != r3.2))⟩] [vw elB r2.1.Text.length r2.1.Text s1, .box g1 27 (cTBlock r2.1 s1), vw elB r3.1.Text.length r3.1.Text s2, .box g2 27 (cTBlock r3.1 s2)]) (fun K => by kernel_rfl) hF hH ?_
    clear hF hH; intro a w hF hH
    refine wl_end (by kernel_rfl) ?_
    refine then_n ?_
    refine wp_condE (b := (!r4) || (r2.2 != r3.2)) (by kernel_rfl) (by kernel_rfl) hF (fun hb2 => ?_) (fun hb2 => ?_)
    · have hm := condT hb2 hm
      refine wp_seqE (by kernel_rfl) ?_
      refine wp_regE (by kernel_rfl) ?_
      refine seg [.p] [2] (fun K => K [⟨2, none, .bool false⟩] [vw elB r2.1.Text.length r2.1.Text s1, .box g1 27 (cTBlock r2.1 s1), vw elB r3.1.Text.length r3.1.Text s2, .box g2 27 (cTBlock r3.1 s2)]) (fun K => by kernel_rfl) hF hH ?_
      clear hF hH; intro a w hF hH
      refine wl_end (by kernel_rfl) ?_
      refine then_n ?_
      refine wp_retE (by kernel_rfl) ?_
      refine then_ret ?_
      refine retE (vs := [.bool false]) (p := True) (v := .bool false) [] (by kernel_rfl) trivial (by kernel_rfl) hF hH ?_
      obtain rfl := Option.some.inj hm
      exact ⟨(), by kernel_rfl, hH.below, trivial, newK hH [] [] (by kernel_rfl) (by kernel_rfl) (by kernel_rfl) (by kernel_rfl)⟩
    · have hm := condF hb2 hm
      refine wp_skipE (by kernel_rfl) ?_
      refine then_n ?_
      refine wp_seqE (by kernel_rfl) ?_
      refine wp_regE (by kernel_rfl) ?_
      refine seg [.ld (.r 1)] [0, 4, 36] (fun K => (((g1 : Nat) = g1) ∧ ((none : Option Nat) = none)) ∧ K [⟨0, none, sl ((x0.take ((min (x0.length : Int) 130).toNat)).length) gx0⟩, ⟨4, none, .int .i64 r2.2⟩, ⟨36, none, ag (cTBlock r2.1 s1)⟩] [vw elB r2.1.Text.length r2.1.Text s1, .box g1 27 (cTBlock r2.1 s1), vw elB r3.1.Text.length r3.1.Text s2, .box g2 27 (cTBlock r3.1 s2)]) (fun K => by kernel_rfl) hF hH ?_
      refine ⟨⟨rfl, rfl⟩, ?_⟩
      clear hF hH; intro a w hF hH
      obtain ⟨r5, hx5, hm⟩ := bnd_some hm
      refine callE (d := 37) (c_tape_Put N r2.1 s1 r5 hx5) [.v (.r 0)] [] (by kernel_rfl) trivial (.inl rfl) (by kernel_rfl) (by kernel_rfl) (by kernel_rfl) (by kernel_rfl) hF hH ?_
      clear hF hH; rintro s3 - a w hF hH
      refine seg [.p, .p, .p, .p, .p] [0, 4, 7, 8] (fun K => K [⟨0, none, sl ((x0.take ((min (x0.length : Int) 130).toNat)).length) gx0⟩, ⟨4, none, .int .i64 r2.2⟩, ⟨7, none, sl r5.1.length s3⟩, ⟨8, none, .int .i64 r5.2⟩] [vw elB r2.1.Text.length r2.1.Text s1, .box g1 27 (cTBlock r2.1 s1), vw elB r3.1.Text.length r3.1.Text s2, .box g2 27 (cTBlock r3.1 s2), rw 5 elB r5.1.length r5.1 s3]) (fun K => by kernel_rfl) hF hH ?_
      clear hF hH; intro a w hF hH
      refine wl_end (by kernel_rfl) ?_
      refine then_n ?_
      refine wp_seqE (by kernel_rfl) ?_
      refine wp_regE (by kernel_rfl) ?_
      refine seg [.p, .p, .p] [0, 7, 8, 42] (fun K => K [⟨0, none, sl ((x0.take ((min (x0.length : Int) 130).toNat)).length) gx0⟩, ⟨7, none, sl r5.1.length s3⟩, ⟨8, none, .int .i64 r5.2⟩, ⟨42, none, .bool (r2.2 != 0)⟩] [vw elB r2.1.Text.length r2.1.Text s1, .box g1 27 (cTBlock r2.1 s1), vw elB r3.1.Text.length r3.1.Text s2, .box g2 27 (cTBlock r3.1 s2), rw 5 elB r5.1.length r5.1 s3]) (fun K => by kernel_rfl) hF hH ?_
      clear hF hH; intro a w hF hH
      rcases Bool.eq_false_or_eq_true (r2.2 != 0) with hx6 | hx6
      · have hm := condT hx6 hm
        rw [hx6] at hF
        have hx6p := ne_of_bne hx6
        refine seg [.sk, .sk, .sk, .sk, .sk, .sk, .sk, .p, .p] [2] (fun K => (true = !false) ∧ (true = !false) ∧ (true = !false) ∧ (true = !false) ∧ K [⟨2, none, .bool true⟩] [vw elB r2.1.Text.length r2.1.Text s1, .box g1 27 (cTBlock r2.1 s1), vw elB r3.1.Text.length r3.1.Text s2, .box g2 27 (cTBlock r3.1 s2), rw 5 elB r5.1.length r5.1 s3]) (fun K => by kernel_rfl) hF hH ?_
        refine ⟨rfl, ?_⟩
        refine ⟨rfl, ?_⟩
        refine ⟨rfl, ?_⟩
        refine ⟨rfl, ?_⟩
        clear hF hH; intro a w hF hH
        refine wl_end (by kernel_rfl) ?_
        refine then_n ?_
        refine wp_retE (by kernel_rfl) ?_
        refine retE (vs := [.bool true]) (p := True) (v := .bool true) [] (by kernel_rfl) trivial (by kernel_rfl) hF hH ?_
        obtain rfl := Option.some.inj hm
        exact ⟨(), by kernel_rfl, hH.below, trivial, newK hH [] [] (by kernel_rfl) (by kernel_rfl) (by kernel_rfl) (by kernel_rfl)⟩
      · have hm := condF hx6 hm
        rw [hx6] at hF
        have hx6p := eq_of_bne_false hx6
        refine seg [.gt (.p), .gt (.p), .gt (.p)] [0, 7, 42, 45] (fun K => (false = false) ∧ (false = false) ∧ (false = false) ∧ K [⟨0, none, sl ((x0.take ((min (x0.length : Int) 130).toNat)).length) gx0⟩, ⟨7, none, sl r5.1.length s3⟩, ⟨42, none, .bool false⟩, ⟨45, none, .bool (r5.2 == 0)⟩] [vw elB r2.1.Text.length r2.1.Text s1, .box g1 27 (cTBlock r2.1 s1), vw elB r3.1.Text.length r3.1.Text s2, .box g2 27 (cTBlock r3.1 s2), rw 5 elB r5.1.length r5.1 s3]) (fun K => by kernel_rfl) hF hH ?_
        refine ⟨rfl, ?_⟩
        refine ⟨rfl, ?_⟩
        refine ⟨rfl, ?_⟩
        clear hF hH; intro a w hF hH
        rcases Bool.eq_false_or_eq_true (r5.2 == 0) with hx7 | hx7
        · have hm := condT hx7 hm
          rw [hx7] at hF
          have hx7p := eq_of_beq hx7
          refine seg [.gt (.p), .gt (.p)] [42, 45, 46, 47] (fun K => (true = true) ∧ (true = true) ∧ K [⟨42, none, .bool false⟩, ⟨45, none, .bool true⟩, ⟨46, none, sl ((x0.take ((min (x0.length : Int) 130).toNat)).length) gx0⟩, ⟨47, none, sl r5.1.length s3⟩] [vw elB r2.1.Text.length r2.1.Text s1, .box g1 27 (cTBlock r2.1 s1), vw elB r3.1.Text.length r3.1.Text s2, .box g2 27 (cTBlock r3.1 s2), rw 5 elB r5.1.length r5.1 s3]) (fun K => by kernel_rfl) hF hH ?_
          refine ⟨rfl, ?_⟩
          refine ⟨rfl, ?_⟩
          clear hF hH; intro a w hF hH
          obtain ⟨r6, hx8, hm⟩ := bnd_some hm
          refine callE (d := 48) (b := true) (p := (((∀ w, Res.ok w (rw 5 elB r5.1.length r5.1 s3) → Res.ok w (vw elB r5.1.length r5.1 s3)) ∧ ∀ b, (vw elB r5.1.length r5.1 s3).fp b → (rw 5 elB r5.1.length r5.1 s3).fp b) ∧ True)) (c_slices_Equal_Lbyte N (x0.take ((min (x0.length : Int) 130).toNat)) gx0 r5.1 s3 r6 hx8) [.v (.n 1), .b 4 (vw elB r5.1.length r5.1 s3)] [] (by kernel_rfl) ⟨⟨(imp_rv (rfl)).ok, (imp_rv (rfl)).fp⟩, trivial⟩ (.inr fun _ => rfl) (by kernel_rfl) (by kernel_rfl) (by kernel_rfl) (by kernel_rfl) hF hH ?_
          clear hF hH; rintro ⟨⟩ - a w hF hH
          refine seg [.gt (.p), .p, .p] [2] (fun K => (false = false) ∧ K [⟨2, none, .bool r6⟩] [vw elB r2.1.Text.length r2.1.Text s1, .box g1 27 (cTBlock r2.1 s1), vw elB r3.1.Text.length r3.1.Text s2, .box g2 27 (cTBlock r3.1 s2), rw 5 elB r5.1.length r5.1 s3]) (fun K => by kernel_rfl) hF hH ?_
          refine ⟨rfl, ?_⟩
          clear hF hH; intro a w hF hH
          refine wl_end (by kernel_rfl) ?_
          refine then_n ?_
          refine wp_retE (by kernel_rfl) ?_
          refine retE (vs := [.bool r6]) (p := True) (v := .bool r6) [] (by kernel_rfl) trivial (by kernel_rfl) hF hH ?_
          obtain rfl := Option.some.inj hm
          exact ⟨(), by kernel_rfl, hH.below, trivial, newK hH [] [] (by kernel_rfl) (by kernel_rfl) (by kernel_rfl) (by kernel_rfl)⟩
        · have hm := condF hx7 hm
          rw [hx7] at hF
          have hx7p := ne_of_beq_false hx7
          refine seg [.sk, .sk, .sk, .gt (.p), .p, .p] [2] (fun K => (false = !true) ∧ (false = !true) ∧ (false = !true) ∧ (false = false) ∧ K [⟨2, none, .bool false⟩] [vw elB r2.1.Text.length r2.1.Text s1, .box g1 27 (cTBlock r2.1 s1), vw elB r3.1.Text.length r3.1.Text s2, .box g2 27 (cTBlock r3.1 s2), rw 5 elB r5.1.length r5.1 s3]) (fun K => by kernel_rfl) hF hH ?_
          refine ⟨rfl, ?_⟩
          refine ⟨rfl, ?_⟩
          refine ⟨rfl, ?_⟩
          refine ⟨rfl, ?_⟩
          clear hF hH; intro a w hF hH
          refine wl_end (by kernel_rfl) ?_
          refine then_n ?_
          refine wp_retE (by kernel_rfl) ?_
          refine retE (vs := [.bool false]) (p := True) (v := .bool false) [] (by kernel_rfl) trivial (by kernel_rfl) hF hH ?_
          obtain rfl := Option.some.inj hm
          exact ⟨(), by kernel_rfl, hH.below, trivial, newK hH [] [] (by kernel_rfl) (by kernel_rfl) (by kernel_rfl) (by kernel_rfl)⟩

end Go.Proofs.Ytcccboodapgejaa
