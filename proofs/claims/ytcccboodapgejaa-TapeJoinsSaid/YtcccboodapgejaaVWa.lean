/-
  A call of each function gives what its model gives: printed by a program, checked by the kernel.
-/
import Derived.Test.YtcccboodapgejaaVMod
import Derived.Test.YtcccboodapgejaaProg
namespace Go.Proofs.Ytcccboodapgejaa
open Go.Sym Go.Cap

def cTLabel (x : TLabel) : List Value := [.int .i64 x.H, .int .i64 x.M, .int .i64 x.S, .int .i64 x.F, .bool x.Drop]
def eTLabel : El TLabel Unit := ⟨5, fun x _ => cTLabel x, TLabel.z, fun _ _ => rfl, fun _ _ v hv => by
  simp only [cTLabel, List.mem_cons, List.not_mem_nil, or_false] at hv
  rcases hv with rfl | rfl | rfl | rfl | rfl <;> rfl, by decide⟩
def cTBlock (x : TBlock) (g : Gs Unit) : List Value := [.int .i64 x.Group, .int .i64 x.Number, .int .u8 (x.Extension.toNat : Int), .int .u8 (x.Status.toNat : Int)] ++ (cTLabel x.In ++ (cTLabel x.Out ++ ([.int .i64 x.Row, .int .u8 (x.Align.toNat : Int), .bool x.Comment, sl x.Text.length g])))
def eTBlock : El TBlock (Gs Unit) := ⟨18, fun x g => cTBlock x g, TBlock.z, fun _ _ => rfl, fun _ _ v hv => by
  simp only [cTBlock, cTLabel, List.cons_append, List.nil_append, List.mem_cons, List.not_mem_nil, or_false] at hv
  rcases hv with rfl | rfl | rfl | rfl | rfl | rfl | rfl | rfl | rfl | rfl | rfl | rfl | rfl | rfl | rfl | rfl | rfl | rfl <;> rfl, by decide⟩
def nTBlock_0 (x : TBlock) (g : Gs Unit) : Res := (nS elB) x.Text g

theorem c_bits_Mul32 (N : Nat) (x0 : Int) (x1 : Int) (r : Int × Int) (hm : bits_Mul32 N x0 x1 = some r) : CallOk Try.prog 44 [.int .u32 x0, .int .u32 x1] [] [] (U := Unit) (fun _ => .tuple #[.int .u32 r.1, .int .u32 r.2]) (fun _ => []) (fun _ => []) (fun _ => True) := by
  unfold bits_Mul32 at hm
  refine callI (N := 17) Try.func44 (by kernel_rfl) (by kernel_rfl) (by kernel_rfl) ?_
  intro w0 B M a hF hH
  refine wp_seqE (by kernel_rfl) ?_
  refine wp_regE (by kernel_rfl) ?_
  refine seg [.p, .p] [0, 1] (fun K => K [⟨0, none, .int .u32 x0⟩, ⟨1, none, .int .u32 x1⟩] []) (fun K => by kernel_rfl) hF hH ?_
  clear hF hH; intro a w hF hH
  refine wl_end (by kernel_rfl) ?_
  refine then_n ?_
  refine wp_seqE (by kernel_rfl) ?_
  refine wp_regE (by kernel_rfl) ?_
  refine seg [.p, .p, .p, .p, .p, .p] [6] (fun K => K [⟨6, none, .int .u64 (IntKind.wrap .u64 ((IntKind.wrap .u64 x0) * (IntKind.wrap .u64 x1)))⟩] []) (fun K => by kernel_rfl) hF hH ?_
  clear hF hH; intro a w hF hH
  refine wl_end (by kernel_rfl) ?_
  refine then_n ?_
  refine wp_seqE (by kernel_rfl) ?_
  refine wp_regE (by kernel_rfl) ?_
  refine seg [.p, .p, .p, .p, .p, .p, .p] [4, 5] (fun K => K [⟨4, none, .int .u32 (IntKind.wrap .u32 (Int.fdiv (IntKind.wrap .u64 ((IntKind.wrap .u64 x0) * (IntKind.wrap .u64 x1))) (2 ^ 32)))⟩, ⟨5, none, .int .u32 (IntKind.wrap .u32 (IntKind.wrap .u64 ((IntKind.wrap .u64 x0) * (IntKind.wrap .u64 x1))))⟩] []) (fun K => by kernel_rfl) hF hH ?_
  clear hF hH; intro a w hF hH
  refine wl_end (by kernel_rfl) ?_
  refine then_n ?_
  refine wp_retE (by kernel_rfl) ?_
  refine retE (vs := [.int .u32 (IntKind.wrap .u32 (Int.fdiv (IntKind.wrap .u64 ((IntKind.wrap .u64 x0) * (IntKind.wrap .u64 x1))) (2 ^ 32))), .int .u32 (IntKind.wrap .u32 (IntKind.wrap .u64 ((IntKind.wrap .u64 x0) * (IntKind.wrap .u64 x1))))]) (p := True) (v := .tuple #[.int .u32 (IntKind.wrap .u32 (Int.fdiv (IntKind.wrap .u64 ((IntKind.wrap .u64 x0) * (IntKind.wrap .u64 x1))) (2 ^ 32))), .int .u32 (IntKind.wrap .u32 (IntKind.wrap .u64 ((IntKind.wrap .u64 x0) * (IntKind.wrap .u64 x1))))]) [] (by kernel_rfl) trivial (by kernel_rfl) hF hH ?_
  obtain rfl := Option.some.inj hm
  exact ⟨(), by kernel_rfl, hH.below, trivial, newK hH [] [] (by kernel_rfl) (by kernel_rfl) (by kernel_rfl) (by kernel_rfl)⟩

theorem c_bits_Mul64 (N : Nat) (x0 : Int) (x1 : Int) (r : Int × Int) (hm : bits_Mul64 N x0 x1 = some r) : CallOk Try.prog 45 [.int .u64 x0, .int .u64 x1] [] [] (U := Unit) (fun _ => .tuple #[.int .u64 r.1, .int .u64 r.2]) (fun _ => []) (fun _ => []) (fun _ => True) := by
  unfold bits_Mul64 at hm
  refine callI (N := 51) Try.func45 (by kernel_rfl) (by kernel_rfl) (by kernel_rfl) ?_
  intro w0 B M a hF hH
  refine wp_seqE (by kernel_rfl) ?_
  refine wp_regE (by kernel_rfl) ?_
  refine seg [.p, .p] [0, 1] (fun K => K [⟨0, none, .int .u64 x0⟩, ⟨1, none, .int .u64 x1⟩] []) (fun K => by kernel_rfl) hF hH ?_
  clear hF hH; intro a w hF hH
  refine wl_end (by kernel_rfl) ?_
  refine then_n ?_
  refine wp_seqE (by kernel_rfl) ?_
  refine wp_regE (by kernel_rfl) ?_
  refine seg [.p, .p, .p] [0, 1, 6] (fun K => K [⟨0, none, .int .u64 x0⟩, ⟨1, none, .int .u64 x1⟩, ⟨6, none, .int .u64 (bits .and .u64 x0 4294967295)⟩] []) (fun K => by kernel_rfl) hF hH ?_
  clear hF hH; intro a w hF hH
  refine wl_end (by kernel_rfl) ?_
  refine then_n ?_
  refine wp_seqE (by kernel_rfl) ?_
  refine wp_regE (by kernel_rfl) ?_
  refine seg [.p, .p, .p] [0, 1, 6, 7] (fun K => K [⟨0, none, .int .u64 x0⟩, ⟨1, none, .int .u64 x1⟩, ⟨6, none, .int .u64 (bits .and .u64 x0 4294967295)⟩, ⟨7, none, .int .u64 (Int.fdiv x0 (2 ^ 32))⟩] []) (fun K => by kernel_rfl) hF hH ?_
  clear hF hH; intro a w hF hH
  refine wl_end (by kernel_rfl) ?_
  refine then_n ?_
  refine wp_seqE (by kernel_rfl) ?_
  refine wp_regE (by kernel_rfl) ?_
  refine seg [.p, .p, .p] [0, 1, 6, 7, 8] (fun K => K [⟨0, none, .int .u64 x0⟩, ⟨1, none, .int .u64 x1⟩, ⟨6, none, .int .u64 (bits .and .u64 x0 4294967295)⟩, ⟨7, none, .int .u64 (Int.fdiv x0 (2 ^ 32))⟩, ⟨8, none, .int .u64 (bits .and .u64 x1 4294967295)⟩] []) (fun K => by kernel_rfl) hF hH ?_
  clear hF hH; intro a w hF hH
  refine wl_end (by kernel_rfl) ?_
  refine then_n ?_
  refine wp_seqE (by kernel_rfl) ?_
  refine wp_regE (by kernel_rfl) ?_
  refine seg [.p, .p, .p] [0, 1, 6, 7, 8, 9] (fun K => K [⟨0, none, .int .u64 x0⟩, ⟨1, none, .int .u64 x1⟩, ⟨6, none, .int .u64 (bits .and .u64 x0 4294967295)⟩, ⟨7, none, .int .u64 (Int.fdiv x0 (2 ^ 32))⟩, ⟨8, none, .int .u64 (bits .and .u64 x1 4294967295)⟩, ⟨9, none, .int .u64 (Int.fdiv x1 (2 ^ 32))⟩] []) (fun K => by kernel_rfl) hF hH ?_
  clear hF hH; intro a w hF hH
  refine wl_end (by kernel_rfl) ?_
  refine then_n ?_
  refine wp_seqE (by kernel_rfl) ?_
  refine wp_regE (by kernel_rfl) ?_
  refine seg [.p, .p, .p, .p] [0, 1, 6, 7, 8, 9, 10] (fun K => K [⟨0, none, .int .u64 x0⟩, ⟨1, none, .int .u64 x1⟩, ⟨6, none, .int .u64 (bits .and .u64 x0 4294967295)⟩, ⟨7, none, .int .u64 (Int.fdiv x0 (2 ^ 32))⟩, ⟨8, none, .int .u64 (bits .and .u64 x1 4294967295)⟩, ⟨9, none, .int .u64 (Int.fdiv x1 (2 ^ 32))⟩, ⟨10, none, .int .u64 (IntKind.wrap .u64 ((bits .and .u64 x0 4294967295) * (bits .and .u64 x1 4294967295)))⟩] []) (fun K => by kernel_rfl) hF hH ?_
  clear hF hH; intro a w hF hH
  refine wl_end (by kernel_rfl) ?_
  refine then_n ?_
  refine wp_seqE (by kernel_rfl) ?_
  refine wp_regE (by kernel_rfl) ?_
  refine seg [.p, .p, .p, .p, .p, .p, .p] [0, 1, 6, 7, 9, 11] (fun K => K [⟨0, none, .int .u64 x0⟩, ⟨1, none, .int .u64 x1⟩, ⟨6, none, .int .u64 (bits .and .u64 x0 4294967295)⟩, ⟨7, none, .int .u64 (Int.fdiv x0 (2 ^ 32))⟩, ⟨9, none, .int .u64 (Int.fdiv x1 (2 ^ 32))⟩, ⟨11, none, .int .u64 (IntKind.wrap .u64 ((IntKind.wrap .u64 ((Int.fdiv x0 (2 ^ 32)) * (bits .and .u64 x1 4294967295))) + (Int.fdiv (IntKind.wrap .u64 ((bits .and .u64 x0 4294967295) * (bits .and .u64 x1 4294967295))) (2 ^ 32))))⟩] []) (fun K => by kernel_rfl) hF hH ?_
  clear hF hH; intro a w hF hH
  refine wl_end (by kernel_rfl) ?_
  refine then_n ?_
  refine wp_seqE (by kernel_rfl) ?_
  refine wp_regE (by kernel_rfl) ?_
  refine seg [.p, .p, .p] [0, 1, 6, 7, 9, 11, 12] (fun K => K [⟨0, none, .int .u64 x0⟩, ⟨1, none, .int .u64 x1⟩, ⟨6, none, .int .u64 (bits .and .u64 x0 4294967295)⟩, ⟨7, none, .int .u64 (Int.fdiv x0 (2 ^ 32))⟩, ⟨9, none, .int .u64 (Int.fdiv x1 (2 ^ 32))⟩, ⟨11, none, .int .u64 (IntKind.wrap .u64 ((IntKind.wrap .u64 ((Int.fdiv x0 (2 ^ 32)) * (bits .and .u64 x1 4294967295))) + (Int.fdiv (IntKind.wrap .u64 ((bits .and .u64 x0 4294967295) * (bits .and .u64 x1 4294967295))) (2 ^ 32))))⟩, ⟨12, none, .int .u64 (bits .and .u64 (IntKind.wrap .u64 ((IntKind.wrap .u64 ((Int.fdiv x0 (2 ^ 32)) * (bits .and .u64 x1 4294967295))) + (Int.fdiv (IntKind.wrap .u64 ((bits .and .u64 x0 4294967295) * (bits .and .u64 x1 4294967295))) (2 ^ 32)))) 4294967295)⟩] []) (fun K => by kernel_rfl) hF hH ?_
  clear hF hH; intro a w hF hH
  refine wl_end (by kernel_rfl) ?_
  refine then_n ?_
  refine wp_seqE (by kernel_rfl) ?_
  refine wp_regE (by kernel_rfl) ?_
  refine seg [.p, .p, .p] [0, 1, 6, 7, 9, 12, 13] (fun K => K [⟨0, none, .int .u64 x0⟩, ⟨1, none, .int .u64 x1⟩, ⟨6, none, .int .u64 (bits .and .u64 x0 4294967295)⟩, ⟨7, none, .int .u64 (Int.fdiv x0 (2 ^ 32))⟩, ⟨9, none, .int .u64 (Int.fdiv x1 (2 ^ 32))⟩, ⟨12, none, .int .u64 (bits .and .u64 (IntKind.wrap .u64 ((IntKind.wrap .u64 ((Int.fdiv x0 (2 ^ 32)) * (bits .and .u64 x1 4294967295))) + (Int.fdiv (IntKind.wrap .u64 ((bits .and .u64 x0 4294967295) * (bits .and .u64 x1 4294967295))) (2 ^ 32)))) 4294967295)⟩, ⟨13, none, .int .u64 (Int.fdiv (IntKind.wrap .u64 ((IntKind.wrap .u64 ((Int.fdiv x0 (2 ^ 32)) * (bits .and .u64 x1 4294967295))) + (Int.fdiv (IntKind.wrap .u64 ((bits .and .u64 x0 4294967295) * (bits .and .u64 x1 4294967295))) (2 ^ 32)))) (2 ^ 32))⟩] []) (fun K => by kernel_rfl) hF hH ?_
  clear hF hH; intro a w hF hH
  refine wl_end (by kernel_rfl) ?_
  refine then_n ?_
  refine wp_seqE (by kernel_rfl) ?_
  refine wp_regE (by kernel_rfl) ?_
  refine seg [.p, .p, .p, .p, .p, .p] [0, 1, 7, 9, 13, 12] (fun K => K [⟨0, none, .int .u64 x0⟩, ⟨1, none, .int .u64 x1⟩, ⟨7, none, .int .u64 (Int.fdiv x0 (2 ^ 32))⟩, ⟨9, none, .int .u64 (Int.fdiv x1 (2 ^ 32))⟩, ⟨13, none, .int .u64 (Int.fdiv (IntKind.wrap .u64 ((IntKind.wrap .u64 ((Int.fdiv x0 (2 ^ 32)) * (bits .and .u64 x1 4294967295))) + (Int.fdiv (IntKind.wrap .u64 ((bits .and .u64 x0 4294967295) * (bits .and .u64 x1 4294967295))) (2 ^ 32)))) (2 ^ 32))⟩, ⟨12, none, .int .u64 (IntKind.wrap .u64 ((bits .and .u64 (IntKind.wrap .u64 ((IntKind.wrap .u64 ((Int.fdiv x0 (2 ^ 32)) * (bits .and .u64 x1 4294967295))) + (Int.fdiv (IntKind.wrap .u64 ((bits .and .u64 x0 4294967295) * (bits .and .u64 x1 4294967295))) (2 ^ 32)))) 4294967295) + (IntKind.wrap .u64 ((bits .and .u64 x0 4294967295) * (Int.fdiv x1 (2 ^ 32))))))⟩] []) (fun K => by kernel_rfl) hF hH ?_
  clear hF hH; intro a w hF hH
  refine wl_end (by kernel_rfl) ?_
  refine then_n ?_
  refine wp_seqE (by kernel_rfl) ?_
  refine wp_regE (by kernel_rfl) ?_
  refine seg [.p, .p, .p, .p, .p, .p, .p, .p, .p] [0, 1, 4] (fun K => K [⟨0, none, .int .u64 x0⟩, ⟨1, none, .int .u64 x1⟩, ⟨4, none, .int .u64 (IntKind.wrap .u64 ((IntKind.wrap .u64 ((IntKind.wrap .u64 ((Int.fdiv x0 (2 ^ 32)) * (Int.fdiv x1 (2 ^ 32)))) + (Int.fdiv (IntKind.wrap .u64 ((IntKind.wrap .u64 ((Int.fdiv x0 (2 ^ 32)) * (bits .and .u64 x1 4294967295))) + (Int.fdiv (IntKind.wrap .u64 ((bits .and .u64 x0 4294967295) * (bits .and .u64 x1 4294967295))) (2 ^ 32)))) (2 ^ 32)))) + (Int.fdiv (IntKind.wrap .u64 ((bits .and .u64 (IntKind.wrap .u64 ((IntKind.wrap .u64 ((Int.fdiv x0 (2 ^ 32)) * (bits .and .u64 x1 4294967295))) + (Int.fdiv (IntKind.wrap .u64 ((bits .and .u64 x0 4294967295) * (bits .and .u64 x1 4294967295))) (2 ^ 32)))) 4294967295) + (IntKind.wrap .u64 ((bits .and .u64 x0 4294967295) * (Int.fdiv x1 (2 ^ 32)))))) (2 ^ 32))))⟩] []) (fun K => by kernel_rfl) hF hH ?_
  clear hF hH; intro a w hF hH
  refine wl_end (by kernel_rfl) ?_
  refine then_n ?_
  refine wp_seqE (by kernel_rfl) ?_
  refine wp_regE (by kernel_rfl) ?_
  refine seg [.p, .p, .p, .p] [4, 5] (fun K => K [⟨4, none, .int .u64 (IntKind.wrap .u64 ((IntKind.wrap .u64 ((IntKind.wrap .u64 ((Int.fdiv x0 (2 ^ 32)) * (Int.fdiv x1 (2 ^ 32)))) + (Int.fdiv (IntKind.wrap .u64 ((IntKind.wrap .u64 ((Int.fdiv x0 (2 ^ 32)) * (bits .and .u64 x1 4294967295))) + (Int.fdiv (IntKind.wrap .u64 ((bits .and .u64 x0 4294967295) * (bits .and .u64 x1 4294967295))) (2 ^ 32)))) (2 ^ 32)))) + (Int.fdiv (IntKind.wrap .u64 ((bits .and .u64 (IntKind.wrap .u64 ((IntKind.wrap .u64 ((Int.fdiv x0 (2 ^ 32)) * (bits .and .u64 x1 4294967295))) + (Int.fdiv (IntKind.wrap .u64 ((bits .and .u64 x0 4294967295) * (bits .and .u64 x1 4294967295))) (2 ^ 32)))) 4294967295) + (IntKind.wrap .u64 ((bits .and .u64 x0 4294967295) * (Int.fdiv x1 (2 ^ 32)))))) (2 ^ 32))))⟩, ⟨5, none, .int .u64 (IntKind.wrap .u64 (x0 * x1))⟩] []) (fun K => by kernel_rfl) hF hH ?_
  clear hF hH; intro a w hF hH
  refine wl_end (by kernel_rfl) ?_
  refine then_n ?_
  refine wp_retE (by kernel_rfl) ?_
  refine retE (vs := [.int .u64 (IntKind.wrap .u64 ((IntKind.wrap .u64 ((IntKind.wrap .u64 ((Int.fdiv x0 (2 ^ 32)) * (Int.fdiv x1 (2 ^ 32)))) + (Int.fdiv (IntKind.wrap .u64 ((IntKind.wrap .u64 ((Int.fdiv x0 (2 ^ 32)) * (bits .and .u64 x1 4294967295))) + (Int.fdiv (IntKind.wrap .u64 ((bits .and .u64 x0 4294967295) * (bits .and .u64 x1 4294967295))) (2 ^ 32)))) (2 ^ 32)))) + (Int.fdiv (IntKind.wrap .u64 ((bits .and .u64 (IntKind.wrap .u64 ((IntKind.wrap .u64 ((Int.fdiv x0 (2 ^ 32)) * (bits .and .u64 x1 4294967295))) + (Int.fdiv (IntKind.wrap .u64 ((bits .and .u64 x0 4294967295) * (bits .and .u64 x1 4294967295))) (2 ^ 32)))) 4294967295) + (IntKind.wrap .u64 ((bits .and .u64 x0 4294967295) * (Int.fdiv x1 (2 ^ 32)))))) (2 ^ 32)))), .int .u64 (IntKind.wrap .u64 (x0 * x1))]) (p := True) (v := .tuple #[.int .u64 (IntKind.wrap .u64 ((IntKind.wrap .u64 ((IntKind.wrap .u64 ((Int.fdiv x0 (2 ^ 32)) * (Int.fdiv x1 (2 ^ 32)))) + (Int.fdiv (IntKind.wrap .u64 ((IntKind.wrap .u64 ((Int.fdiv x0 (2 ^ 32)) * (bits .and .u64 x1 4294967295))) + (Int.fdiv (IntKind.wrap .u64 ((bits .and .u64 x0 4294967295) * (bits .and .u64 x1 4294967295))) (2 ^ 32)))) (2 ^ 32)))) + (Int.fdiv (IntKind.wrap .u64 ((bits .and .u64 (IntKind.wrap .u64 ((IntKind.wrap .u64 ((Int.fdiv x0 (2 ^ 32)) * (bits .and .u64 x1 4294967295))) + (Int.fdiv (IntKind.wrap .u64 ((bits .and .u64 x0 4294967295) * (bits .and .u64 x1 4294967295))) (2 ^ 32)))) 4294967295) + (IntKind.wrap .u64 ((bits .and .u64 x0 4294967295) * (Int.fdiv x1 (2 ^ 32)))))) (2 ^ 32)))), .int .u64 (IntKind.wrap .u64 (x0 * x1))]) [] (by kernel_rfl) trivial (by kernel_rfl) hF hH ?_
  obtain rfl := Option.some.inj hm
  exact ⟨(), by kernel_rfl, hH.below, trivial, newK hH [] [] (by kernel_rfl) (by kernel_rfl) (by kernel_rfl) (by kernel_rfl)⟩

theorem c_bits_Mul (N : Nat) (x0 : Int) (x1 : Int) (r : Int × Int) (hm : bits_Mul N x0 x1 = some r) : CallOk Try.prog 41 [.int .u64 x0, .int .u64 x1] [] [] (U := Unit) (fun _ => .tuple #[.int .u64 r.1, .int .u64 r.2]) (fun _ => []) (fun _ => []) (fun _ => True) := by
  unfold bits_Mul at hm
  refine callI (N := 30) Try.func41 (by kernel_rfl) (by kernel_rfl) (by kernel_rfl) ?_
  intro w0 B M a hF hH
  refine wp_seqE (by kernel_rfl) ?_
  refine wp_regE (by kernel_rfl) ?_
  refine seg [.p, .p] [0, 1] (fun K => K [⟨0, none, .int .u64 x0⟩, ⟨1, none, .int .u64 x1⟩] []) (fun K => by kernel_rfl) hF hH ?_
  clear hF hH; intro a w hF hH
  refine wl_end (by kernel_rfl) ?_
  refine then_n ?_
  refine wp_seqE (by kernel_rfl) ?_
  refine wp_condE (b := false) (by kernel_rfl) (by kernel_rfl) hF (fun h => by cases h) (fun _ => ?_)
  refine wp_skipE (by kernel_rfl) ?_
  refine then_n ?_
  refine wp_seqE (by kernel_rfl) ?_
  refine wp_regE (by kernel_rfl) ?_
  refine seg [.p, .p] [23, 24] (fun K => K [⟨23, none, .int .u64 x0⟩, ⟨24, none, .int .u64 x1⟩] []) (fun K => by kernel_rfl) hF hH ?_
  clear hF hH; intro a w hF hH
  obtain ⟨r1, hx1, hm⟩ := bnd_some hm
  refine callE (d := 25) (c_bits_Mul64 N x0 x1 r1 hx1) [] [] (by kernel_rfl) trivial (.inl rfl) (by kernel_rfl) (by kernel_rfl) (by kernel_rfl) (by kernel_rfl) hF hH ?_
  clear hF hH; rintro ⟨⟩ - a w hF hH
  refine seg [.p, .p, .p, .p, .p] [8, 9] (fun K => K [⟨8, none, .int .u64 r1.1⟩, ⟨9, none, .int .u64 r1.2⟩] []) (fun K => by kernel_rfl) hF hH ?_
  clear hF hH; intro a w hF hH
  refine wl_end (by kernel_rfl) ?_
  refine then_n ?_
  refine wp_seqE (by kernel_rfl) ?_
  refine wp_regE (by kernel_rfl) ?_
  refine seg [.p, .p, .p, .p] [4, 5] (fun K => K [⟨4, none, .int .u64 r1.1⟩, ⟨5, none, .int .u64 r1.2⟩] []) (fun K => by kernel_rfl) hF hH ?_
  clear hF hH; intro a w hF hH
  refine wl_end (by kernel_rfl) ?_
  refine then_n ?_
  refine wp_retE (by kernel_rfl) ?_
  refine retE (vs := [.int .u64 r1.1, .int .u64 r1.2]) (p := True) (v := .tuple #[.int .u64 r1.1, .int .u64 r1.2]) [] (by kernel_rfl) trivial (by kernel_rfl) hF hH ?_
  obtain rfl := Option.some.inj hm
  exact ⟨(), by kernel_rfl, hH.below, trivial, newK hH [] [] (by kernel_rfl) (by kernel_rfl) (by kernel_rfl) (by kernel_rfl)⟩

theorem and32 {n : Nat} (h : n ≤ 4294967295) : bits .and .u64 (n : Int) 4294967295 = (n : Int) := by
  simp [bits, IntKind.bits]
  have e : (BitVec.ofNat 64 n &&& 4294967295#64).toNat = n := by
    have h1 : n % 2 ^ 64 = n := Nat.mod_eq_of_lt (by omega)
    have h2 : n &&& 4294967295 = n % 2 ^ 32 := Nat.and_two_pow_sub_one_eq_mod n 32
    simp only [BitVec.toNat_and, BitVec.toNat_ofNat, h1]
    simp only [Nat.reducePow, Nat.reduceMod] at h2 ⊢
    rw [h2]
    omega
  refine (congrArg (fun m : Nat => IntKind.wrap .u64 (m : Int)) e).trans ?_
  show IntKind.wrap .u64 (n : Int) = _
  rw [wrap_u64]
  omega
theorem mul_small (n : Nat) (h : n ≤ 65536) : bits_Mul 0 1 ((n : Nat) : Int) = some (0, ((n : Nat) : Int)) := by
  have e1 : Int.fdiv (n : Int) (2 ^ 32) = 0 := by
    rw [Int.fdiv_eq_ediv_of_nonneg _ (by decide)]
    omega
  have e2 : bits .and .u64 ((n : Nat) : Int) 4294967295 = n := and32 (by omega)
  have e3 : bits .and .u64 1 4294967295 = 1 := by decide +kernel
  have e4 : Int.fdiv 1 (2 ^ 32) = 0 := by decide
  have e5 : IntKind.wrap .u64 (1 * (n : Int)) = n := by rw [wrap_u64]; omega
  have e6 : IntKind.wrap .u64 0 = 0 := by rw [wrap_u64]; rfl
  have e7 : bits .and .u64 0 4294967295 = 0 := by decide +kernel
  have e8 : Int.fdiv 0 (2 ^ 32) = 0 := by decide
  unfold bits_Mul bits_Mul64
  simp only [e1, e2, e3, e4, e5, e6, e7, e8, Int.zero_mul, Int.mul_zero, Int.add_zero, Option.bind_some]
theorem repeat_core (A : Option Addr) (c : Nat) (x : UInt8) (n : Nat) (hn1 : n ≤ 8192) : CallOk Try.prog 30 [.slice A 1 c, .int .i64 ((n : Nat) : Int)] [.view A 1 c 1 (byE [x])] [] (U := Option Addr × Nat) (fun u => .slice u.1 n u.2) (fun u => [.row u.1 u.2 5 1 n (byC (List.replicate n x))]) (fun _ => []) (fun _ => True) := by
  refine callI (N := 77) Try.func30 (by kernel_rfl) (by kernel_rfl) (by kernel_rfl) ?_
  intro w0 B M a hF hH
  refine wp_seqE (by kernel_rfl) ?_
  refine wp_regE (by kernel_rfl) ?_
  refine seg [.p] [0, 1] (fun K => K [⟨0, none, .slice A 1 c⟩, ⟨1, none, .int .i64 ((n : Nat) : Int)⟩] []) (fun K => by kernel_rfl) hF hH ?_
  clear hF hH; intro a w hF hH
  refine wl_end (by kernel_rfl) ?_
  refine then_n ?_
  refine wp_seqE (by kernel_rfl) ?_
  refine wp_seqE (by kernel_rfl) ?_
  refine wp_regE (by kernel_rfl) ?_
  refine seg [.p, .p] [0, 1, 13] (fun K => K [⟨0, none, .slice A 1 c⟩, ⟨1, none, .int .i64 ((n : Nat) : Int)⟩, ⟨13, none, .bool (((n : Nat) : Int) == 0)⟩] []) (fun K => by kernel_rfl) hF hH ?_
  clear hF hH; intro a w hF hH
  refine wl_end (by kernel_rfl) ?_
  refine then_n ?_
  refine wp_condE (b := ((n : Nat) : Int) == 0) (by kernel_rfl) (by kernel_rfl) hF (fun hb1 => ?_) (fun hb1 => ?_)
  · skip
    have hb1p := eq_of_beq hb1
    refine wp_seqE (by kernel_rfl) ?_
    refine wp_regE (by kernel_rfl) ?_
    refine seg [.bs, .p] [4] (fun K => ∀ g1, K [⟨4, none, .slice (some ⟨g1, 0, none⟩) 0 0⟩] [.box g1 5 []]) (fun K => by kernel_rfl) hF hH ?_
    intro g1
    clear hF hH; intro a w hF hH
    refine wl_end (by kernel_rfl) ?_
    refine then_n ?_
    refine wp_retE (by kernel_rfl) ?_
    refine then_ret ?_
    refine retE (vs := [.slice (some ⟨g1, 0, none⟩) 0 0]) (p := True) (v := .slice (some ⟨g1, 0, none⟩) 0 0) [] (by kernel_rfl) trivial (by kernel_rfl) hF hH ?_
    have hn0 : n = 0 := by omega
    subst hn0
    have hH := hH.boxRow (k := 0) rfl 1 0 0 (by omega) (by unfold maxLen; omega) rfl
    exact ⟨(some ⟨g1, 0, none⟩, 0), rfl, hH.below, trivial, newK hH [0] [] (by kernel_rfl) rfl rfl (by kernel_rfl)⟩
  · skip
    have hb1p := ne_of_beq_false hb1
    refine wp_skipE (by kernel_rfl) ?_
    refine then_n ?_
    refine wp_seqE (by kernel_rfl) ?_
    refine wp_seqE (by kernel_rfl) ?_
    refine wp_regE (by kernel_rfl) ?_
    refine seg [.p, .p] [0, 1, 16] (fun K => K [⟨0, none, .slice A 1 c⟩, ⟨1, none, .int .i64 ((n : Nat) : Int)⟩, ⟨16, none, .bool (decide (((n : Nat) : Int) < 0))⟩] []) (fun K => by kernel_rfl) hF hH ?_
    clear hF hH; intro a w hF hH
    refine wl_end (by kernel_rfl) ?_
    refine then_n ?_
    refine wp_condE (b := decide (((n : Nat) : Int) < 0)) (by kernel_rfl) (by kernel_rfl) hF (fun hb2 => ?_) (fun hb2 => ?_)
    · skip
      have hb2p := of_decide_eq_true hb2
      exact False.elim (by omega)
    · skip
      have hb2p := of_decide_eq_false hb2
      refine wp_skipE (by kernel_rfl) ?_
      refine then_n ?_
      refine wp_seqE (by kernel_rfl) ?_
      refine wp_regE (by kernel_rfl) ?_
      refine seg [.p, .p, .p, .p, .pv (.int .u64 ((n : Nat) : Int))] [0, 21, 23] (fun K => (Value.int .u64 (IntKind.wrap .u64 ((n : Nat) : Int)) = .int .u64 ((n : Nat) : Int)) ∧ K [⟨0, none, .slice A 1 c⟩, ⟨21, none, .int .u64 1⟩, ⟨23, none, .int .u64 ((n : Nat) : Int)⟩] []) (fun K => by kernel_rfl) hF hH ?_
      refine ⟨wr_u64 (by omega), ?_⟩
      clear hF hH; intro a w hF hH
      refine callE (d := 24) (c_bits_Mul 0 1 ((n : Nat) : Int) (0, ((n : Nat) : Int)) (mul_small n (by omega))) [] [] (by kernel_rfl) trivial (.inl rfl) (by kernel_rfl) (by kernel_rfl) (by kernel_rfl) (by kernel_rfl) hF hH ?_
      clear hF hH; rintro ⟨⟩ - a w hF hH
      refine seg [.p, .p, .p, .p, .p] [0, 5, 6] (fun K => K [⟨0, none, .slice A 1 c⟩, ⟨5, none, .int .u64 0⟩, ⟨6, none, .int .u64 ((n : Nat) : Int)⟩] []) (fun K => by kernel_rfl) hF hH ?_
      clear hF hH; intro a w hF hH
      refine wl_end (by kernel_rfl) ?_
      refine then_n ?_
      refine wp_seqE (by kernel_rfl) ?_
      refine wp_seqE (by kernel_rfl) ?_
      refine wp_regE (by kernel_rfl) ?_
      refine seg [.p, .p, .p, .gt (.p), .gt (.p), .p] [0, 6, 32] (fun K => (false = false) ∧ (false = false) ∧ K [⟨0, none, .slice A 1 c⟩, ⟨6, none, .int .u64 ((n : Nat) : Int)⟩, ⟨32, none, .bool (decide (9223372036854775807 < ((n : Nat) : Int)))⟩] []) (fun K => by kernel_rfl) hF hH ?_
      refine ⟨rfl, ?_⟩
      refine ⟨rfl, ?_⟩
      clear hF hH; intro a w hF hH
      refine wl_end (by kernel_rfl) ?_
      refine then_n ?_
      refine wp_condE (b := decide (9223372036854775807 < ((n : Nat) : Int))) (by kernel_rfl) (by kernel_rfl) hF (fun hb3 => ?_) (fun hb3 => ?_)
      · skip
        have hb3p := of_decide_eq_true hb3
        exact False.elim (by omega)
      · skip
        have hb3p := of_decide_eq_false hb3
        refine wp_skipE (by kernel_rfl) ?_
        refine then_n ?_
        refine wp_seqE (by kernel_rfl) ?_
        refine wp_regE (by kernel_rfl) ?_
        refine seg [.p, .pv (.int .i64 ((n : Nat) : Int)), .p] [0, 7] (fun K => (Value.int .i64 (IntKind.wrap .i64 ((n : Nat) : Int)) = .int .i64 ((n : Nat) : Int)) ∧ K [⟨0, none, .slice A 1 c⟩, ⟨7, none, .int .i64 ((n : Nat) : Int)⟩] []) (fun K => by kernel_rfl) hF hH ?_
        refine ⟨wr_i64 (by omega), ?_⟩
        clear hF hH; intro a w hF hH
        refine wl_end (by kernel_rfl) ?_
        refine then_n ?_
        refine wp_seqE (by kernel_rfl) ?_
        refine wp_seqE (by kernel_rfl) ?_
        refine wp_regE (by kernel_rfl) ?_
        refine seg [.p, .p, .p] [0, 7, 38] (fun K => K [⟨0, none, .slice A 1 c⟩, ⟨7, none, .int .i64 ((n : Nat) : Int)⟩, ⟨38, none, .bool false⟩] []) (fun K => by kernel_rfl) hF hH ?_
        clear hF hH; intro a w hF hH
        refine wl_end (by kernel_rfl) ?_
        refine then_n ?_
        refine wp_condE (b := false) (by kernel_rfl) (by kernel_rfl) hF (fun h => by cases h) (fun _ => ?_)
        refine wp_skipE (by kernel_rfl) ?_
        refine then_n ?_
        refine wp_seqE (by kernel_rfl) ?_
        refine wp_regE (by kernel_rfl) ?_
        refine seg [.p, .p] [0, 7, 8] (fun K => K [⟨0, none, .slice A 1 c⟩, ⟨7, none, .int .i64 ((n : Nat) : Int)⟩, ⟨8, none, .int .i64 ((n : Nat) : Int)⟩] []) (fun K => by kernel_rfl) hF hH ?_
        clear hF hH; intro a w hF hH
        refine wl_end (by kernel_rfl) ?_
        refine then_n ?_
        refine wp_seqE (by kernel_rfl) ?_
        refine wp_seqE (by kernel_rfl) ?_
        refine wp_regE (by kernel_rfl) ?_
        refine seg [.p, .p] [0, 7, 8, 42] (fun K => K [⟨0, none, .slice A 1 c⟩, ⟨7, none, .int .i64 ((n : Nat) : Int)⟩, ⟨8, none, .int .i64 ((n : Nat) : Int)⟩, ⟨42, none, .bool (decide (8192 < ((n : Nat) : Int)))⟩] []) (fun K => by kernel_rfl) hF hH ?_
        clear hF hH; intro a w hF hH
        refine wl_end (by kernel_rfl) ?_
        refine then_n ?_
        refine wp_condE (b := decide (8192 < ((n : Nat) : Int))) (by kernel_rfl) (by kernel_rfl) hF (fun hb4 => ?_) (fun hb4 => ?_)
        · skip
          have hb4p := of_decide_eq_true hb4
          exact False.elim (by omega)
        · skip
          have hb4p := of_decide_eq_false hb4
          refine wp_skipE (by kernel_rfl) ?_
          refine then_n ?_
          refine wp_seqE (by kernel_rfl) ?_
          refine wp_regE (by kernel_rfl) ?_
          refine seg [.p, .xc (U := Option Addr × Nat × List Value) (fun u => .slice u.1 n u.2.1) (fun u => [.row u.1 u.2.1 5 1 n u.2.2]) (fun u => n ≤ u.2.1 ∧ u.2.2.length = n)] [0, 7, 8, 54] (fun K => ExtOk Try.prog 42 [.int .i64 ((n : Nat) : Int)] (U := Option Addr × Nat × List Value) (fun u => .slice u.1 n u.2.1) (fun u => [.row u.1 u.2.1 5 1 n u.2.2]) (fun u => n ≤ u.2.1 ∧ u.2.2.length = n) ∧ ∀ u : Option Addr × Nat × List Value, (fun u => n ≤ u.2.1 ∧ u.2.2.length = n) u → K [⟨0, none, .slice A 1 c⟩, ⟨7, none, .int .i64 ((n : Nat) : Int)⟩, ⟨8, none, .int .i64 ((n : Nat) : Int)⟩, ⟨54, none, .slice u.1 n u.2.1⟩] [.row u.1 u.2.1 5 1 n u.2.2]) (fun K => by kernel_rfl) hF hH ?_
          refine ⟨ext_makeNoZero (ps := #[3]) (t := 25) Try.func42 (by kernel_rfl) (by kernel_rfl) (by kernel_rfl) (by kernel_rfl) (by kernel_rfl) n (by omega), ?_⟩
          rintro ⟨A1, c1, xs1⟩ ⟨hcap, hxl⟩
          replace hcap : n ≤ c1 := hcap
          replace hxl : xs1.length = n := hxl
          clear hF hH; intro a w hF hH
          refine seg [.p, .p, .s3 n n, .p] [0, 7, 8, 9] (fun K => ((((n : Nat) : Int) : Int) = ((n : Nat) : Int) ∧ (((n : Nat) : Int) : Int) = ((n : Nat) : Int) ∧ n ≤ n ∧ n ≤ c1) ∧ K [⟨0, none, .slice A 1 c⟩, ⟨7, none, .int .i64 ((n : Nat) : Int)⟩, ⟨8, none, .int .i64 ((n : Nat) : Int)⟩, ⟨9, none, .slice A1 n n⟩] [.row A1 c1 5 1 n xs1]) (fun K => by kernel_rfl) hF hH ?_
          refine ⟨⟨by omega, by omega, by omega, by omega⟩, ?_⟩
          clear hF hH; intro a w hF hH
          refine wl_end (by kernel_rfl) ?_
          refine then_n ?_
          refine wp_seqE (by kernel_rfl) ?_
          refine wp_regE (by kernel_rfl) ?_
          have hH := hH.rowCap (k := 0) rfl n n (Nat.le_refl _) (by omega) (Nat.le_refl _) (by omega)
          have htk : xs1.take (n * 1) = xs1 := List.take_of_length_le (by omega)
          rw [htk] at hH
          refine seg [.p, .p, .cp 0 0 true (.n 0) (byC [x]), .p] [7, 8, 9, 10] (fun K => ((A1 : Option Addr) = (if true then A1 else cutA A1 n 0 1) ∧ (true = true → 0 = 0) ∧ 0 + (byC [x]).length ≤ n ∧ (byC [x]).length = Nat.min 1 n ∧ cpyP (.view A 1 c 1 (byE ([x]))) A 1 (byC [x]) ∧ (∀ u ∈ (byC [x] : List Value), u.oneCell' = true)) ∧ K [⟨7, none, .int .i64 ((n : Nat) : Int)⟩, ⟨8, none, .int .i64 ((n : Nat) : Int)⟩, ⟨9, none, .slice A1 n n⟩, ⟨10, none, .int .i64 1⟩] [.row A1 n 5 1 n (xs1.take 0 ++ (byC [x]) ++ xs1.drop (0 + (byC [x]).length))]) (fun K => by kernel_rfl) hF hH ?_
          refine ⟨⟨rfl, fun _ => rfl, by simp [byC]; omega, by show 1 = min 1 n; omega, ⟨rfl, Nat.le_refl _, rfl, rfl⟩, (by_one [x])⟩, ?_⟩
          clear hF hH; intro a w hF hH
          refine wl_end (by kernel_rfl) ?_
          refine then_n ?_
          refine wp_seqE (by kernel_rfl) ?_
          refine wp_blockE (id := 0) (by kernel_rfl) ?_
          refine wp_loopE (by kernel_rfl) (fun msr a w => ∃ (k : Nat), ∃ (xs : List Value), msr = n - k ∧ (1 ≤ k) ∧ (k ≤ n) ∧ (xs.length = n) ∧ (xs.take k = List.replicate k (Value.int .u8 (x.toNat : Int))) ∧ Fr 77 [⟨7, none, .int .i64 ((n : Nat) : Int)⟩, ⟨8, none, .int .i64 ((n : Nat) : Int)⟩, ⟨9, none, .slice A1 n n⟩, ⟨10, none, .int .i64 ((k : Nat) : Int)⟩] a ∧ Hp w0 B M [.view A 1 c 1 (byE ([x]))] [.row A1 n 5 1 n xs] w) _ ⟨1, (xs1.take 0 ++ (byC [x]) ++ xs1.drop (0 + (byC [x]).length)), rfl, Nat.le_refl _, by omega, by simp [byC]; omega, by simp [byC], frK hF [7, 8, 9, 10] (by kernel_rfl), hpKN hH [0] [0] (by kernel_rfl) (by kernel_rfl) (by kernel_rfl)⟩ ?_
          clear hF hH; rintro msr a w ⟨k, xs, rfl, hk1, hk, hxl2, hrep, hF, hH⟩
          refine wp_seqE (by kernel_rfl) ?_
          refine wp_seqE (by kernel_rfl) ?_
          refine wp_regE (by kernel_rfl) ?_
          refine seg [.p, .p, .p] [7, 8, 9, 10, 63] (fun K => K [⟨7, none, .int .i64 ((n : Nat) : Int)⟩, ⟨8, none, .int .i64 ((n : Nat) : Int)⟩, ⟨9, none, .slice A1 n n⟩, ⟨10, none, .int .i64 ((k : Nat) : Int)⟩, ⟨63, none, .bool (decide (((k : Nat) : Int) < ((n : Nat) : Int)))⟩] [.row A1 n 5 1 n xs]) (fun K => by kernel_rfl) hF hH ?_
          clear hF hH; intro a w hF hH
          refine wl_end (by kernel_rfl) ?_
          refine then_n ?_
          refine wp_condE (b := decide (((k : Nat) : Int) < ((n : Nat) : Int))) (by kernel_rfl) (by kernel_rfl) hF (fun hb5 => ?_) (fun hb5 => ?_)
          · skip
            have hb5p := of_decide_eq_true hb5
            have hlen : (List.replicate (min (min k n) (n - k)) (Value.int .u8 (x.toNat : Int))).length = (min (min k n) (n - k)) := by simp
            refine wp_skipE (by kernel_rfl) ?_
            refine then_n ?_
            refine wp_blockE (id := 1) (by kernel_rfl) ?_
            refine wp_seqE (by kernel_rfl) ?_
            refine wp_regE (by kernel_rfl) ?_
            refine seg [.p, .p, .pv (.int .i64 ((min k n : Nat) : Int)), .p] [7, 8, 9, 10, 11] (fun K => (Value.int .i64 (if ((n : Nat) : Int) < ((k : Nat) : Int) then ((n : Nat) : Int) else ((k : Nat) : Int)) = .int .i64 ((min k n : Nat) : Int)) ∧ K [⟨7, none, .int .i64 ((n : Nat) : Int)⟩, ⟨8, none, .int .i64 ((n : Nat) : Int)⟩, ⟨9, none, .slice A1 n n⟩, ⟨10, none, .int .i64 ((k : Nat) : Int)⟩, ⟨11, none, .int .i64 ((min k n : Nat) : Int)⟩] [.row A1 n 5 1 n xs]) (fun K => by kernel_rfl) hF hH ?_
            refine ⟨natmin _ _, ?_⟩
            clear hF hH; intro a w hF hH
            refine wl_end (by kernel_rfl) ?_
            refine then_n ?_
            refine drawE (n := 10) (by kernel_rfl) (by kernel_rfl) (by kernel_rfl) (by kernel_rfl) [] [7, 8, 9, 10] (.take 0 (.p) (.take 1 (.p) (.take 2 (.p) (.take 3 (.sl k n) (.take 4 (.p) (.take 5 (.p) (.take 6 (.sh (min k n)) (.eff [(7, .cp 0 k false (.r 0) (List.replicate (min (min k n) (n - k)) (Value.int .u8 (x.toNat : Int))))] (fun _ => .take 8 (.pv (.int .i64 ((k + ((List.replicate (min (min k n) (n - k)) (Value.int .u8 (x.toNat : Int))).length) : Nat) : Int))) (.take 9 (.p) ((.done [0])))))))))))) (fun l rs => l = [⟨7, none, .int .i64 ((n : Nat) : Int)⟩, ⟨8, none, .int .i64 ((n : Nat) : Int)⟩, ⟨9, none, .slice A1 n n⟩, ⟨10, none, .int .i64 ((k + ((List.replicate (min (min k n) (n - k)) (Value.int .u8 (x.toNat : Int))).length) : Nat) : Int)⟩] ∧ rs = [.row A1 n 5 1 n (xs.take k ++ (List.replicate (min (min k n) (n - k)) (Value.int .u8 (x.toNat : Int))) ++ xs.drop (k + (List.replicate (min (min k n) (n - k)) (Value.int .u8 (x.toNat : Int))).length))]) (fun K => ((((k : Nat) : Int) : Int) = ((k : Nat) : Int) ∧ (n : Nat) = n ∧ k ≤ n ∧ n ≤ n) ∧ ((((min k n : Nat) : Int) : Int) = ((min k n : Nat) : Int) ∧ min k n ≤ n) ∧ (((cutA A1 n k 1 : Option Addr) = (if false then A1 else cutA A1 n k 1) ∧ (false = true → k = 0) ∧ k + (List.replicate (min (min k n) (n - k)) (Value.int .u8 (x.toNat : Int))).length ≤ n ∧ (List.replicate (min (min k n) (n - k)) (Value.int .u8 (x.toNat : Int))).length = Nat.min (min k n) (n - k) ∧ cpyP (.row A1 n 5 1 n xs) A1 (min k n) (List.replicate (min (min k n) (n - k)) (Value.int .u8 (x.toNat : Int))) ∧ (∀ u ∈ (List.replicate (min (min k n) (n - k)) (Value.int .u8 (x.toNat : Int)) : List Value), u.oneCell' = true)) ∧ (([] : List Res) = []) ∧ (Value.int .i64 (IntKind.wrap .i64 (((k : Nat) : Int) + (((List.replicate (min (min k n) (n - k)) (Value.int .u8 (x.toNat : Int))).length : Nat) : Int))) = .int .i64 ((k + ((List.replicate (min (min k n) (n - k)) (Value.int .u8 (x.toNat : Int))).length) : Nat) : Int)) ∧ K [⟨7, none, .int .i64 ((n : Nat) : Int)⟩, ⟨8, none, .int .i64 ((n : Nat) : Int)⟩, ⟨9, none, .slice A1 n n⟩, ⟨10, none, .int .i64 ((k + ((List.replicate (min (min k n) (n - k)) (Value.int .u8 (x.toNat : Int))).length) : Nat) : Int)⟩] [.row A1 n 5 1 n (xs.take k ++ (List.replicate (min (min k n) (n - k)) (Value.int .u8 (x.toNat : Int))) ++ xs.drop (k + (List.replicate (min (min k n) (n - k)) (Value.int .u8 (x.toNat : Int))).length))])) (fun K => by kernel_rfl) hF hH (⟨⟨by omega, rfl, by omega, by omega⟩, ⟨⟨by omega, by omega⟩, (⟨⟨rfl, (fun h => by cases h), by rw [hlen]; omega, by rw [hlen], ⟨rfl, by omega, rfl, rep_src hrep (by omega)⟩, (fun u hu => by rw [List.eq_of_mem_replicate hu]; rfl)⟩, ⟨rfl, ⟨natadd (by omega), ⟨rfl, rfl⟩⟩⟩⟩)⟩⟩) ?_
            clear hF hH; rintro l rs a w ⟨rfl, rfl⟩ hF hH
            refine block_n ?_
            refine then_n ?_
            simp only [List.length_replicate] at hF
            exact ⟨_, by omega, k + (min (min k n) (n - k)), _, rfl, by omega, by omega, rep_len hxl2 (by omega), rep_step hrep, frK hF [7, 8, 9, 10] (by kernel_rfl), hpKN hH [0] [0] (by kernel_rfl) (by kernel_rfl) (by kernel_rfl)⟩
          · skip
            have hb5p := of_decide_eq_false hb5
            refine wp_exitE (id := 0) (by kernel_rfl) ?_
            refine then_exit ?_
            refine then_exit ?_
            refine block_exit ?_
            refine then_n ?_
            refine wp_seqE (by kernel_rfl) ?_
            refine wp_regE (by kernel_rfl) ?_
            refine seg [.p, .p] [4] (fun K => K [⟨4, none, .slice A1 n n⟩] [.row A1 n 5 1 n xs]) (fun K => by kernel_rfl) hF hH ?_
            clear hF hH; intro a w hF hH
            refine wl_end (by kernel_rfl) ?_
            refine then_n ?_
            refine wp_retE (by kernel_rfl) ?_
            refine retE (vs := [.slice A1 n n]) (p := True) (v := .slice A1 n n) [] (by kernel_rfl) trivial (by kernel_rfl) hF hH ?_
            have hkn : k = n := by omega
            subst hkn
            rw [← hxl2, List.take_length, hxl2] at hrep
            subst hrep
            exact ⟨(A1, k), rfl, hH.below, trivial, newK hH [0] [] (by kernel_rfl) (by rw [byC_replicate]; rfl) rfl rfl⟩

theorem c_bytes_Repeat (N : Nat) (x0 : List UInt8) (gx0 : Gs Unit) (x1 : Int) (r : List UInt8) (hm : bytes_Repeat N x0 x1 = some r) : CallOk Try.prog 30 [sl x0.length gx0, .int .i64 x1] [vw elB x0.length x0 gx0] [] (U := Gs Unit) (fun u => sl r.length u) (fun u => [rw 5 elB r.length r u]) (fun _ => []) (fun _ => True) := by
  obtain ⟨⟨h1, h2, h3⟩, hm⟩ := grd_some hm
  obtain rfl := Option.some.inj hm
  obtain ⟨x, rfl⟩ : ∃ x, x0 = [x] := by
    match x0, h1 with
    | [x], _ => exact ⟨x, rfl⟩
  obtain ⟨n, rfl⟩ := Int.eq_ofNat_of_zero_le h2
  intro w hw
  refine (repeat_core gx0.a gx0.c x n (by omega) w hw).mono ?_
  rintro e w' ⟨u, rfl, hk, _, hn⟩
  refine ⟨gu u.1 u.2, ?_, hk, trivial, ⟨fun q hq => ?_, by simp, fun _ h => (by cases h), fun _ h => (by cases h)⟩⟩
  · simp [sl, gu]
  · simp only [List.mem_singleton] at hq
    subst hq
    have := hn.own _ (List.mem_singleton.2 rfl)
    have e : rw 5 elB (List.replicate (Int.toNat (n : Int)) (([x] : List UInt8).getD 0 0)).length (List.replicate (Int.toNat (n : Int)) (([x] : List UInt8).getD 0 0)) (gu u.1 u.2) = .row u.1 u.2 5 1 n (byC (List.replicate n x)) := by
      show Res.row u.1 u.2 5 1 _ (rowC elB _ _) = _
      rw [rowC_by]
      simp [byC]
    rw [e]
    exact this

theorem c_bytes_Clone_some (N : Nat) (x0 : List UInt8) (adx : Addr) (cx : Nat) (r : List UInt8) (hm : bytes_Clone_some N x0 = some r) : CallOk Try.prog 25 [sl x0.length (gu (some adx) cx)] [vw elB x0.length x0 (gu (some adx) cx)] [] (U := Gs Unit) (fun u => sl r.length u) (fun u => [rw 5 elB r.length r u]) (fun _ => []) (fun _ => True) := by
  unfold bytes_Clone_some at hm
  refine callI (N := 8) Try.func25 (by kernel_rfl) (by kernel_rfl) (by kernel_rfl) ?_
  intro w0 B M a hF hH
  refine wp_seqE (by kernel_rfl) ?_
  refine wp_regE (by kernel_rfl) ?_
  refine seg [.p] [0] (fun K => K [⟨0, none, sl x0.length (gu (some adx) cx)⟩] []) (fun K => by kernel_rfl) hF hH ?_
  clear hF hH; intro a w hF hH
  refine wl_end (by kernel_rfl) ?_
  refine then_n ?_
  refine wp_seqE (by kernel_rfl) ?_
  refine wp_seqE (by kernel_rfl) ?_
  refine wp_regE (by kernel_rfl) ?_
  refine seg [.p, .p] [0, 4] (fun K => K [⟨0, none, sl x0.length (gu (some adx) cx)⟩, ⟨4, none, .bool false⟩] []) (fun K => by kernel_rfl) hF hH ?_
  clear hF hH; intro a w hF hH
  refine wl_end (by kernel_rfl) ?_
  refine then_n ?_
  refine wp_condE (b := false) (by kernel_rfl) (by kernel_rfl) hF (fun h => by cases h) (fun _ => ?_)
  refine wp_skipE (by kernel_rfl) ?_
  refine then_n ?_
  refine wp_seqE (by kernel_rfl) ?_
  refine wp_regE (by kernel_rfl) ?_
  refine seg [.bs, .p] [5, 6] (fun K => ∀ g1, K [⟨5, none, sl 0 (gu (some ⟨g1, 0, none⟩) 0)⟩, ⟨6, none, sl x0.length (gu (some adx) cx)⟩] [.box g1 5 []]) (fun K => by kernel_rfl) hF hH ?_
  intro g1
  clear hF hH; intro a w hF hH
  have hH := hH.boxRw (n := 0) (k := 0) (e := elB) (xs := []) (s := (gu (some ⟨g1, 0, none⟩) 0)) rfl (by kernel_rfl) rfl rfl rfl (by unfold maxLen; omega)
  obtain ⟨hp1, hm⟩ := grd_some hm
  refine seg [.ap 0 (.n 0) (rowC elB x0 (fun _ => ())) x0.length (rowC elB x0 (fun _ => ())), .p] [2] (fun K => ((((gu (some ⟨g1, 0, none⟩) 0).a : Option Addr) = (gu (some ⟨g1, 0, none⟩) 0).a) ∧ (((gu (some ⟨g1, 0, none⟩) 0).c : Nat) = (gu (some ⟨g1, 0, none⟩) 0).c) ∧ ((0 : Nat) = 0) ∧ srcP (vw elB x0.length x0 (gu (some adx) cx)) (gu (some adx) cx).a x0.length 1 (rowC elB x0 (fun _ => ())) ∧ (∀ u ∈ (rowC elB x0 (fun _ => ()) : List Value), u.oneCell' = true) ∧ (0 + x0.length ≤ maxLen) ∧ ((0 + x0.length) * 1 ≤ 140737488355328) ∧ (0 + x0.length = x0.length) ∧ (rowC elB [] (gu (some ⟨g1, 0, none⟩) 0).g ++ rowC elB x0 (fun _ => ()) = rowC elB x0 (fun _ => ()))) ∧ ∀ A1 c1, K [⟨2, none, sl x0.length (gu A1 c1)⟩] [rw 5 elB x0.length x0 (gu A1 c1)]) (fun K => by kernel_rfl) hF hH ?_
  refine ⟨⟨rfl, rfl, rfl, ⟨rfl, rfl, rfl, (rowC_flatN _ _ _ (by first | rfl | simp)).symm⟩, rowC_one _ _ _, by (unfold maxLen; omega), by omega, by first | rfl | omega | (simp only [List.length_append, List.length_cons, List.length_nil] <;> omega), (rowC_appU _ _ _ _ _ _).symm⟩, ?_⟩
  intro A1 c1
  clear hF hH; intro a w hF hH
  refine wl_end (by kernel_rfl) ?_
  refine then_n ?_
  refine wp_retE (by kernel_rfl) ?_
  refine retE (vs := [sl x0.length (gu A1 c1)]) (p := True) (v := sl x0.length (gu A1 c1)) [] (by kernel_rfl) trivial (by kernel_rfl) hF hH ?_
  obtain rfl := Option.some.inj hm
  exact ⟨(gu A1 c1), by kernel_rfl, hH.below, trivial, newK hH [0] [] (by kernel_rfl) (by kernel_rfl) (by kernel_rfl) (by kernel_rfl)⟩
theorem c_bytes_Clone_none (N : Nat) (cx : Nat) (r : List UInt8) (hm : bytes_Clone_none N = some r) : CallOk Try.prog 25 [sl 0 (gu none cx)] [vw elB 0 [] (gu none cx)] [] (U := Gs Unit) (fun u => sl r.length u) (fun u => [rw 5 elB r.length r u]) (fun _ => []) (fun _ => True) := by
  unfold bytes_Clone_none at hm
  refine callI (N := 8) Try.func25 (by kernel_rfl) (by kernel_rfl) (by kernel_rfl) ?_
  intro w0 B M a hF hH
  refine wp_seqE (by kernel_rfl) ?_
  refine wp_regE (by kernel_rfl) ?_
  refine seg [.p] [0] (fun K => K [⟨0, none, sl 0 (gu none cx)⟩] []) (fun K => by kernel_rfl) hF hH ?_
  clear hF hH; intro a w hF hH
  refine wl_end (by kernel_rfl) ?_
  refine then_n ?_
  refine wp_seqE (by kernel_rfl) ?_
  refine wp_seqE (by kernel_rfl) ?_
  refine wp_regE (by kernel_rfl) ?_
  refine seg [.p, .p] [0, 4] (fun K => K [⟨0, none, sl 0 (gu none cx)⟩, ⟨4, none, .bool true⟩] []) (fun K => by kernel_rfl) hF hH ?_
  clear hF hH; intro a w hF hH
  refine wl_end (by kernel_rfl) ?_
  refine then_n ?_
  refine wp_condE (b := true) (by kernel_rfl) (by kernel_rfl) hF (fun _ => ?_) (fun h => by cases h)
  refine wp_seqE (by kernel_rfl) ?_
  refine wp_regE (by kernel_rfl) ?_
  refine seg [.p] [2] (fun K => K [⟨2, none, sl 0 (gu none 0)⟩] []) (fun K => by kernel_rfl) hF hH ?_
  clear hF hH; intro a w hF hH
  refine wl_end (by kernel_rfl) ?_
  refine then_n ?_
  refine wp_retE (by kernel_rfl) ?_
  refine then_ret ?_
  have hH := hH.nilRw 5 elB (gu none 0) rfl rfl
  refine retE (vs := [sl 0 (gu none 0)]) (p := True) (v := sl 0 (gu none 0)) [] (by kernel_rfl) trivial (by kernel_rfl) hF hH ?_
  obtain rfl := Option.some.inj hm
  exact ⟨(gu none 0), by kernel_rfl, hH.below, trivial, newK hH [0] [] (by kernel_rfl) (by kernel_rfl) (by kernel_rfl) (by kernel_rfl)⟩
theorem c_bytes_Clone (N : Nat) (x0 : List UInt8) (gx0 : Gs Unit) (r : List UInt8) (hm : bytes_Clone N x0 = some r) : CallOk Try.prog 25 [sl x0.length gx0] [vw elB x0.length x0 gx0] [] (U := Gs Unit) (fun u => sl r.length u) (fun u => [rw 5 elB r.length r u]) (fun u => []) (fun _ => True) := by
  obtain ⟨a, c, g⟩ := gx0
  cases a with
  | some ad => exact c_bytes_Clone_some N x0 ad c r hm
  | none =>
    intro w hn
    have hx : x0 = [] := nil_view (hn.rd _ (List.mem_cons_self ..)).2.1
    subst hx
    exact c_bytes_Clone_none N c r (by simpa [bytes_Clone, bytes_Clone_some, bytes_Clone_none, grd] using hm) w hn

theorem c_l23_example (N : Nat)  (r : TBlock) (hm : l23_example N = some r) : CallOk Try.prog 23 [] [] [] (U := Gs Unit) (fun u => ag (cTBlock r u)) (fun u => [vw elB r.Text.length r.Text u]) (fun _ => []) (fun _ => True) := by
  unfold l23_example at hm
  refine callI (N := 6) Try.func23 (by kernel_rfl) (by kernel_rfl) (by kernel_rfl) ?_
  intro w0 B M a hF hH
  refine wp_seqE (by kernel_rfl) ?_
  refine wp_regE (by kernel_rfl) ?_
  refine seg [.al] [0] (fun K => ∀ g1, K [⟨0, none, .pointer (some ⟨g1, 0, none⟩)⟩] [.box g1 27 (cTBlock TBlock.z (gu none 0))]) (fun K => by kernel_rfl) hF hH ?_
  intro g1
  clear hF hH; intro a w hF hH
  refine wl_end (by kernel_rfl) ?_
  refine then_n ?_
  refine wp_seqE (by kernel_rfl) ?_
  refine wp_regE (by kernel_rfl) ?_
  refine seg [.p, .p, .bs, .ms 1, .p, .st 0] [0] (fun K => ∀ g2, ((g2 : Nat) = g2) ∧ ((g1 : Nat) = g1 ∧ (none : Option Nat) = none) ∧ K [⟨0, none, .pointer (some ⟨g1, 0, none⟩)⟩] [.box g1 27 (cTBlock (⟨0, 258, 255, 0, (⟨1, 2, 3, 4, false⟩ : TLabel), (⟨1, 2, 5, 0, false⟩ : TLabel), 13, 2, false, [65]⟩ : TBlock) (gu (some ⟨g2, 0, none⟩) 1)), rw 5 elB 1 [65] (gu (some ⟨g2, 0, none⟩) 1)]) (fun K => by kernel_rfl) hF hH ?_
  intro g2
  refine ⟨rfl, ?_⟩
  refine ⟨⟨rfl, rfl⟩, ?_⟩
  clear hF hH; intro a w hF hH
  refine wl_end (by kernel_rfl) ?_
  refine then_n ?_
  refine wp_retE (by kernel_rfl) ?_
  have hH := hH.freeze (k := 1) rfl (imp_rv (by simp)) rfl
  refine retE (vs := [ag (cTBlock (⟨0, 258, 255, 0, (⟨1, 2, 3, 4, false⟩ : TLabel), (⟨1, 2, 5, 0, false⟩ : TLabel), 13, 2, false, [65]⟩ : TBlock) (gu (some ⟨g2, 0, none⟩) 1))]) (p := (((g1 : Nat) = g1 ∧ (none : Option Nat) = none)) ∧ True) (v := ag (cTBlock (⟨0, 258, 255, 0, (⟨1, 2, 3, 4, false⟩ : TLabel), (⟨1, 2, 5, 0, false⟩ : TLabel), 13, 2, false, [65]⟩ : TBlock) (gu (some ⟨g2, 0, none⟩) 1))) [0] (by kernel_rfl) ⟨⟨rfl, rfl⟩, trivial⟩ (by kernel_rfl) hF hH ?_
  obtain rfl := Option.some.inj hm
  exact ⟨(gu (some ⟨g2, 0, none⟩) 1), by kernel_rfl, hH.below, trivial, newK hH [1] [] (by kernel_rfl) (by kernel_rfl) (by kernel_rfl) (by kernel_rfl)⟩

theorem c_tape_timed (N : Nat) (x0 : TLabel) (r : Int) (hm : tape_timed N x0 = some r) : CallOk Try.prog 32 [ag (cTLabel x0)] [] [] (U := Unit) (fun _ => .int .i64 r) (fun _ => []) (fun _ => []) (fun _ => True) := by
  unfold tape_timed at hm
  refine callI (N := 41) Try.func32 (by kernel_rfl) (by kernel_rfl) (by kernel_rfl) ?_
  intro w0 B M a hF hH
  refine wp_seqE (by kernel_rfl) ?_
  refine wp_regE (by kernel_rfl) ?_
  refine seg [.bx, .p] [1] (fun K => ∀ g1, K [⟨1, none, .pointer (some ⟨g1, 0, none⟩)⟩] [.box g1 23 (cTLabel x0)]) (fun K => by kernel_rfl) hF hH ?_
  intro g1
  clear hF hH; intro a w hF hH
  refine wl_end (by kernel_rfl) ?_
  refine then_n ?_
  refine wp_seqE (by kernel_rfl) ?_
  refine wp_seqE (by kernel_rfl) ?_
  refine wp_regE (by kernel_rfl) ?_
  refine seg [.p, .ld (.r 0), .p, .p, .p, .ld (.r 0), .p, .pk, .p, .p, .ld (.r 0), .p, .pk, .p, .p, .ld (.r 0), .p, .pk, .p, .p, .ld (.r 0), .p, .pk, .p, .p, .ld (.r 0), .p, .pk, .p, .p, .ld (.r 0), .p, .pk, .p, .p, .ld (.r 0), .p, .pk] [40] (fun K => (((g1 : Nat) = g1) ∧ ((none : Option Nat) = none)) ∧ (((g1 : Nat) = g1) ∧ ((none : Option Nat) = none)) ∧ (((g1 : Nat) = g1) ∧ ((none : Option Nat) = none)) ∧ (((g1 : Nat) = g1) ∧ ((none : Option Nat) = none)) ∧ (((g1 : Nat) = g1) ∧ ((none : Option Nat) = none)) ∧ (((g1 : Nat) = g1) ∧ ((none : Option Nat) = none)) ∧ (((g1 : Nat) = g1) ∧ ((none : Option Nat) = none)) ∧ (((g1 : Nat) = g1) ∧ ((none : Option Nat) = none)) ∧ K [⟨40, none, .bool ((((((((decide (x0.H < 0)) || (decide (23 < x0.H))) || (decide (x0.M < 0))) || (decide (59 < x0.M))) || (decide (x0.S < 0))) || (decide (59 < x0.S))) || (decide (x0.F < 0))) || (decide (29 < x0.F)))⟩] [.box g1 23 (cTLabel x0)]) (fun K => by kernel_rfl) hF hH ?_
  refine ⟨⟨rfl, rfl⟩, ?_⟩
  refine ⟨⟨rfl, rfl⟩, ?_⟩
  refine ⟨⟨rfl, rfl⟩, ?_⟩
  refine ⟨⟨rfl, rfl⟩, ?_⟩
  refine ⟨⟨rfl, rfl⟩, ?_⟩
  refine ⟨⟨rfl, rfl⟩, ?_⟩
  refine ⟨⟨rfl, rfl⟩, ?_⟩
  refine ⟨⟨rfl, rfl⟩, ?_⟩
  clear hF hH; intro a w hF hH
  refine wl_end (by kernel_rfl) ?_
  refine then_n ?_
  refine wp_condE (b := (((((((decide (x0.H < 0)) || (decide (23 < x0.H))) || (decide (x0.M < 0))) || (decide (59 < x0.M))) || (decide (x0.S < 0))) || (decide (59 < x0.S))) || (decide (x0.F < 0))) || (decide (29 < x0.F))) (by kernel_rfl) (by kernel_rfl) hF (fun hb1 => ?_) (fun hb1 => ?_)
  · have hm := condT hb1 hm
    refine wp_seqE (by kernel_rfl) ?_
    refine wp_regE (by kernel_rfl) ?_
    refine seg [.p] [2] (fun K => K [⟨2, none, .int .i64 2⟩] [.box g1 23 (cTLabel x0)]) (fun K => by kernel_rfl) hF hH ?_
    clear hF hH; intro a w hF hH
    refine wl_end (by kernel_rfl) ?_
    refine then_n ?_
    refine wp_retE (by kernel_rfl) ?_
    refine then_ret ?_
    refine retE (vs := [.int .i64 2]) (p := True) (v := .int .i64 2) [] (by kernel_rfl) trivial (by kernel_rfl) hF hH ?_
    obtain rfl := Option.some.inj hm
    exact ⟨(), by kernel_rfl, hH.below, trivial, newK hH [] [] (by kernel_rfl) (by kernel_rfl) (by kernel_rfl) (by kernel_rfl)⟩
  · have hm := condF hb1 hm
    refine wp_skipE (by kernel_rfl) ?_
    refine then_n ?_
    refine wp_seqE (by kernel_rfl) ?_
    refine wp_regE (by kernel_rfl) ?_
    refine seg [.p] [2] (fun K => K [⟨2, none, .int .i64 0⟩] [.box g1 23 (cTLabel x0)]) (fun K => by kernel_rfl) hF hH ?_
    clear hF hH; intro a w hF hH
    refine wl_end (by kernel_rfl) ?_
    refine then_n ?_
    refine wp_retE (by kernel_rfl) ?_
    refine retE (vs := [.int .i64 0]) (p := True) (v := .int .i64 0) [] (by kernel_rfl) trivial (by kernel_rfl) hF hH ?_
    obtain rfl := Option.some.inj hm
    exact ⟨(), by kernel_rfl, hH.below, trivial, newK hH [] [] (by kernel_rfl) (by kernel_rfl) (by kernel_rfl) (by kernel_rfl)⟩

theorem c_bytes_IndexByte (N : Nat) (x0 : List UInt8) (gx0 : Gs Unit) (x1 : UInt8) (r : Int) (hm : bytes_IndexByte N x0 x1 = some r) : CallOk Try.prog 24 [sl x0.length gx0, .int .u8 (x1.toNat : Int)] [vw elB x0.length x0 gx0] [] (U := Unit) (fun _ => .int .i64 r) (fun _ => []) (fun _ => []) (fun _ => True) := by
  unfold bytes_IndexByte at hm
  refine callI (N := 8) Try.func24 (by kernel_rfl) (by kernel_rfl) (by kernel_rfl) ?_
  intro w0 B M a hF hH
  refine wp_seqE (by kernel_rfl) ?_
  refine wp_regE (by kernel_rfl) ?_
  refine seg [.p] [0, 1] (fun K => K [⟨0, none, sl x0.length gx0⟩, ⟨1, none, .int .u8 (x1.toNat : Int)⟩] []) (fun K => by kernel_rfl) hF hH ?_
  clear hF hH; intro a w hF hH
  refine wl_end (by kernel_rfl) ?_
  refine then_n ?_
  refine wp_seqE (by kernel_rfl) ?_
  refine wp_regE (by kernel_rfl) ?_
  refine seg [.p, .p, .ex [.n 0] (.int .i64 (ixB x0 x1)), .p] [4] (fun K => (∀ w, (∀ r ∈ ([vw elB x0.length x0 gx0] : List Res), r.ok w) → (callFunc 38 #[sl x0.length gx0, .int .u8 (x1.toNat : Int)]).run Try.prog w = .ok (.value (.int .i64 (ixB x0 x1))) w) ∧ K [⟨4, none, .int .i64 (ixB x0 x1)⟩] []) (fun K => by kernel_rfl) hF hH ?_
  refine ⟨call_indexByte Try.func38 (by kernel_rfl) (by kernel_rfl) (by kernel_rfl) (by kernel_rfl) _ _ _ (rfl) _, ?_⟩
  clear hF hH; intro a w hF hH
  refine wl_end (by kernel_rfl) ?_
  refine then_n ?_
  refine wp_retE (by kernel_rfl) ?_
  refine retE (vs := [.int .i64 (ixB x0 x1)]) (p := True) (v := .int .i64 (ixB x0 x1)) [] (by kernel_rfl) trivial (by kernel_rfl) hF hH ?_
  obtain rfl := Option.some.inj hm
  exact ⟨(), by kernel_rfl, hH.below, trivial, newK hH [] [] (by kernel_rfl) (by kernel_rfl) (by kernel_rfl) (by kernel_rfl)⟩

theorem c_tape_Check (N : Nat) (x0 : TBlock) (gx0 : Gs Unit) (r : Int) (hm : tape_Check N x0 = some r) : CallOk Try.prog 20 [ag (cTBlock x0 gx0)] [vw elB x0.Text.length x0.Text gx0] [] (U := Unit) (fun _ => .int .i64 r) (fun _ => []) (fun _ => []) (fun _ => True) := by
  unfold tape_Check at hm
  refine callI (N := 84) Try.func20 (by kernel_rfl) (by kernel_rfl) (by kernel_rfl) ?_
  intro w0 B M a hF hH
  refine wp_seqE (by kernel_rfl) ?_
  refine wp_regE (by kernel_rfl) ?_
  refine seg [.bx, .p] [1] (fun K => ∀ g1, K [⟨1, none, .pointer (some ⟨g1, 0, none⟩)⟩] [.box g1 27 (cTBlock x0 gx0)]) (fun K => by kernel_rfl) hF hH ?_
  intro g1
  clear hF hH; intro a w hF hH
  refine wl_end (by kernel_rfl) ?_
  refine then_n ?_
  refine wp_seqE (by kernel_rfl) ?_
  refine wp_blockE (id := 0) (by kernel_rfl) ?_
  refine wp_seqE (by kernel_rfl) ?_
  refine wp_regE (by kernel_rfl) ?_
  refine seg [.p, .ld (.r 0), .p, .p, .p, .ld (.r 0), .p, .pk, .p, .p, .ld (.r 0), .p, .pk, .p, .p, .ld (.r 0), .p, .pk, .p] [1, 3] (fun K => (((g1 : Nat) = g1) ∧ ((none : Option Nat) = none)) ∧ (((g1 : Nat) = g1) ∧ ((none : Option Nat) = none)) ∧ (((g1 : Nat) = g1) ∧ ((none : Option Nat) = none)) ∧ (((g1 : Nat) = g1) ∧ ((none : Option Nat) = none)) ∧ K [⟨1, none, .pointer (some ⟨g1, 0, none⟩)⟩, ⟨3, none, .bool ((((decide (x0.Group < 0)) || (decide (255 < x0.Group))) || (decide (x0.Number < 0))) || (decide (65535 < x0.Number)))⟩] [.box g1 27 (cTBlock x0 gx0)]) (fun K => by kernel_rfl) hF hH ?_
  refine ⟨⟨rfl, rfl⟩, ?_⟩
  refine ⟨⟨rfl, rfl⟩, ?_⟩
  refine ⟨⟨rfl, rfl⟩, ?_⟩
  refine ⟨⟨rfl, rfl⟩, ?_⟩
  clear hF hH; intro a w hF hH
  refine wl_end (by kernel_rfl) ?_
  refine then_n ?_
  refine wp_condE (b := (((decide (x0.Group < 0)) || (decide (255 < x0.Group))) || (decide (x0.Number < 0))) || (decide (65535 < x0.Number))) (by kernel_rfl) (by kernel_rfl) hF (fun hb1 => ?_) (fun hb1 => ?_)
  · have hm := condT hb1 hm
    refine wp_seqE (by kernel_rfl) ?_
    refine wp_regE (by kernel_rfl) ?_
    refine seg [.p] [2] (fun K => K [⟨2, none, .int .i64 2⟩] [.box g1 27 (cTBlock x0 gx0)]) (fun K => by kernel_rfl) hF hH ?_
    clear hF hH; intro a w hF hH
    refine wl_end (by kernel_rfl) ?_
    refine then_n ?_
    refine wp_retE (by kernel_rfl) ?_
    refine block_ret ?_
    refine then_ret ?_
    refine retE (vs := [.int .i64 2]) (p := True) (v := .int .i64 2) [] (by kernel_rfl) trivial (by kernel_rfl) hF hH ?_
    obtain rfl := Option.some.inj hm
    exact ⟨(), by kernel_rfl, hH.below, trivial, newK hH [] [] (by kernel_rfl) (by kernel_rfl) (by kernel_rfl) (by kernel_rfl)⟩
  · have hm := condF hb1 hm
    refine wp_seqE (by kernel_rfl) ?_
    refine wp_regE (by kernel_rfl) ?_
    refine seg [.p, .ld (.r 0), .p, .p, .p, .ld (.r 0), .p, .pk, .p, .p, .ld (.r 0), .p, .pk, .p] [1, 22] (fun K => (((g1 : Nat) = g1) ∧ ((none : Option Nat) = none)) ∧ (((g1 : Nat) = g1) ∧ ((none : Option Nat) = none)) ∧ (((g1 : Nat) = g1) ∧ ((none : Option Nat) = none)) ∧ K [⟨1, none, .pointer (some ⟨g1, 0, none⟩)⟩, ⟨22, none, .bool (((decide (240 ≤ (x0.Extension.toNat : Int))) && (decide ((x0.Extension.toNat : Int) < 255))) || (decide (3 < (x0.Status.toNat : Int))))⟩] [.box g1 27 (cTBlock x0 gx0)]) (fun K => by kernel_rfl) hF hH ?_
    refine ⟨⟨rfl, rfl⟩, ?_⟩
    refine ⟨⟨rfl, rfl⟩, ?_⟩
    refine ⟨⟨rfl, rfl⟩, ?_⟩
    clear hF hH; intro a w hF hH
    refine wl_end (by kernel_rfl) ?_
    refine then_n ?_
    refine wp_condE (b := ((decide (240 ≤ (x0.Extension.toNat : Int))) && (decide ((x0.Extension.toNat : Int) < 255))) || (decide (3 < (x0.Status.toNat : Int)))) (by kernel_rfl) (by kernel_rfl) hF (fun hb2 => ?_) (fun hb2 => ?_)
    · have hm := condT hb2 hm
      refine wp_seqE (by kernel_rfl) ?_
      refine wp_regE (by kernel_rfl) ?_
      refine seg [.p] [2] (fun K => K [⟨2, none, .int .i64 3⟩] [.box g1 27 (cTBlock x0 gx0)]) (fun K => by kernel_rfl) hF hH ?_
      clear hF hH; intro a w hF hH
      refine wl_end (by kernel_rfl) ?_
      refine then_n ?_
      refine wp_retE (by kernel_rfl) ?_
      refine block_ret ?_
      refine then_ret ?_
      refine retE (vs := [.int .i64 3]) (p := True) (v := .int .i64 3) [] (by kernel_rfl) trivial (by kernel_rfl) hF hH ?_
      obtain rfl := Option.some.inj hm
      exact ⟨(), by kernel_rfl, hH.below, trivial, newK hH [] [] (by kernel_rfl) (by kernel_rfl) (by kernel_rfl) (by kernel_rfl)⟩
    · have hm := condF hb2 hm
      refine wp_seqE (by kernel_rfl) ?_
      refine wp_regE (by kernel_rfl) ?_
      refine seg [.p, .ld (.r 0)] [1, 38] (fun K => (((g1 : Nat) = g1) ∧ ((none : Option Nat) = none)) ∧ K [⟨1, none, .pointer (some ⟨g1, 0, none⟩)⟩, ⟨38, none, ag (cTLabel x0.In)⟩] [.box g1 27 (cTBlock x0 gx0)]) (fun K => by kernel_rfl) hF hH ?_
      refine ⟨⟨rfl, rfl⟩, ?_⟩
      clear hF hH; intro a w hF hH
      obtain ⟨r1, hx1, hm⟩ := bnd_some hm
      refine callE (d := 39) (c_tape_timed N x0.In r1 hx1) [] [] (by kernel_rfl) trivial (.inl rfl) (by kernel_rfl) (by kernel_rfl) (by kernel_rfl) (by kernel_rfl) hF hH ?_
      clear hF hH; rintro ⟨⟩ - a w hF hH
      refine seg [.p, .p] [1, 41] (fun K => K [⟨1, none, .pointer (some ⟨g1, 0, none⟩)⟩, ⟨41, none, .bool (r1 != 0)⟩] [.box g1 27 (cTBlock x0 gx0)]) (fun K => by kernel_rfl) hF hH ?_
      clear hF hH; intro a w hF hH
      rcases Bool.eq_false_or_eq_true (r1 != 0) with hx2 | hx2
      · have hm := condT hx2 hm
        rw [hx2] at hF
        have hx2p := ne_of_bne hx2
        refine seg [.sk, .sk, .sk, .sk, .p, .p] [1, 36] (fun K => (true = !false) ∧ (true = !false) ∧ (true = !false) ∧ (true = !false) ∧ K [⟨1, none, .pointer (some ⟨g1, 0, none⟩)⟩, ⟨36, none, .bool true⟩] [.box g1 27 (cTBlock x0 gx0)]) (fun K => by kernel_rfl) hF hH ?_
        refine ⟨rfl, ?_⟩
        refine ⟨rfl, ?_⟩
        refine ⟨rfl, ?_⟩
        refine ⟨rfl, ?_⟩
        clear hF hH; intro a w hF hH
        refine wl_end (by kernel_rfl) ?_
        refine then_n ?_
        refine wp_condE (b := true) (by kernel_rfl) (by kernel_rfl) hF (fun _ => ?_) (fun h => by cases h)
        refine wp_seqE (by kernel_rfl) ?_
        refine wp_regE (by kernel_rfl) ?_
        refine seg [.p] [2] (fun K => K [⟨2, none, .int .i64 2⟩] [.box g1 27 (cTBlock x0 gx0)]) (fun K => by kernel_rfl) hF hH ?_
        clear hF hH; intro a w hF hH
        refine wl_end (by kernel_rfl) ?_
        refine then_n ?_
        refine wp_retE (by kernel_rfl) ?_
        refine block_ret ?_
        refine then_ret ?_
        refine retE (vs := [.int .i64 2]) (p := True) (v := .int .i64 2) [] (by kernel_rfl) trivial (by kernel_rfl) hF hH ?_
        obtain rfl := Option.some.inj hm
        exact ⟨(), by kernel_rfl, hH.below, trivial, newK hH [] [] (by kernel_rfl) (by kernel_rfl) (by kernel_rfl) (by kernel_rfl)⟩
      · have hm := condF hx2 hm
        rw [hx2] at hF
        have hx2p := eq_of_bne_false hx2
        refine seg [.gt (.p), .gt (.ld (.r 0))] [1, 41, 43] (fun K => (false = false) ∧ (false = false) ∧ (((g1 : Nat) = g1) ∧ ((none : Option Nat) = none)) ∧ K [⟨1, none, .pointer (some ⟨g1, 0, none⟩)⟩, ⟨41, none, .bool false⟩, ⟨43, none, ag (cTLabel x0.Out)⟩] [.box g1 27 (cTBlock x0 gx0)]) (fun K => by kernel_rfl) hF hH ?_
        refine ⟨rfl, ?_⟩
        refine ⟨rfl, ?_⟩
        refine ⟨⟨rfl, rfl⟩, ?_⟩
        clear hF hH; intro a w hF hH
        obtain ⟨r2, hx3, hm⟩ := bnd_some hm
        refine callE (d := 44) (c_tape_timed N x0.Out r2 hx3) [] [] (by kernel_rfl) trivial (.inl rfl) (by kernel_rfl) (by kernel_rfl) (by kernel_rfl) (by kernel_rfl) hF hH ?_
        clear hF hH; rintro ⟨⟩ - a w hF hH
        refine seg [.gt (.p), .p, .p] [1, 36] (fun K => (false = false) ∧ K [⟨1, none, .pointer (some ⟨g1, 0, none⟩)⟩, ⟨36, none, .bool (r2 != 0)⟩] [.box g1 27 (cTBlock x0 gx0)]) (fun K => by kernel_rfl) hF hH ?_
        refine ⟨rfl, ?_⟩
        clear hF hH; intro a w hF hH
        refine wl_end (by kernel_rfl) ?_
        refine then_n ?_
        refine wp_condE (b := r2 != 0) (by kernel_rfl) (by kernel_rfl) hF (fun hb3 => ?_) (fun hb3 => ?_)
        · have hm := condT hb3 hm
          have hb3p := ne_of_bne hb3
          refine wp_seqE (by kernel_rfl) ?_
          refine wp_regE (by kernel_rfl) ?_
          refine seg [.p] [2] (fun K => K [⟨2, none, .int .i64 2⟩] [.box g1 27 (cTBlock x0 gx0)]) (fun K => by kernel_rfl) hF hH ?_
          clear hF hH; intro a w hF hH
          refine wl_end (by kernel_rfl) ?_
          refine then_n ?_
          refine wp_retE (by kernel_rfl) ?_
          refine block_ret ?_
          refine then_ret ?_
          refine retE (vs := [.int .i64 2]) (p := True) (v := .int .i64 2) [] (by kernel_rfl) trivial (by kernel_rfl) hF hH ?_
          obtain rfl := Option.some.inj hm
          exact ⟨(), by kernel_rfl, hH.below, trivial, newK hH [] [] (by kernel_rfl) (by kernel_rfl) (by kernel_rfl) (by kernel_rfl)⟩
        · have hm := condF hb3 hm
          have hb3p := eq_of_bne_false hb3
          refine wp_seqE (by kernel_rfl) ?_
          refine wp_regE (by kernel_rfl) ?_
          refine seg [.p, .p, .ld (.r 0), .p, .p, .p, .ld (.r 0), .pk, .p] [1, 47] (fun K => (((g1 : Nat) = g1) ∧ ((none : Option Nat) = none)) ∧ (((g1 : Nat) = g1) ∧ ((none : Option Nat) = none)) ∧ K [⟨1, none, .pointer (some ⟨g1, 0, none⟩)⟩, ⟨47, none, .bool (x0.In.Drop || x0.Out.Drop)⟩] [.box g1 27 (cTBlock x0 gx0)]) (fun K => by kernel_rfl) hF hH ?_
          refine ⟨⟨rfl, rfl⟩, ?_⟩
          refine ⟨⟨rfl, rfl⟩, ?_⟩
          clear hF hH; intro a w hF hH
          refine wl_end (by kernel_rfl) ?_
          refine then_n ?_
          refine wp_condE (b := x0.In.Drop || x0.Out.Drop) (by kernel_rfl) (by kernel_rfl) hF (fun hb4 => ?_) (fun hb4 => ?_)
          · have hm := condT hb4 hm
            refine wp_seqE (by kernel_rfl) ?_
            refine wp_regE (by kernel_rfl) ?_
            refine seg [.p] [2] (fun K => K [⟨2, none, .int .i64 13⟩] [.box g1 27 (cTBlock x0 gx0)]) (fun K => by kernel_rfl) hF hH ?_
            clear hF hH; intro a w hF hH
            refine wl_end (by kernel_rfl) ?_
            refine then_n ?_
            refine wp_retE (by kernel_rfl) ?_
            refine block_ret ?_
            refine then_ret ?_
            refine retE (vs := [.int .i64 13]) (p := True) (v := .int .i64 13) [] (by kernel_rfl) trivial (by kernel_rfl) hF hH ?_
            obtain rfl := Option.some.inj hm
            exact ⟨(), by kernel_rfl, hH.below, trivial, newK hH [] [] (by kernel_rfl) (by kernel_rfl) (by kernel_rfl) (by kernel_rfl)⟩
          · have hm := condF hb4 hm
            refine wp_seqE (by kernel_rfl) ?_
            refine wp_regE (by kernel_rfl) ?_
            refine seg [.p, .ld (.r 0), .p, .p, .p, .ld (.r 0), .p, .pk, .p] [1, 56] (fun K => (((g1 : Nat) = g1) ∧ ((none : Option Nat) = none)) ∧ (((g1 : Nat) = g1) ∧ ((none : Option Nat) = none)) ∧ K [⟨1, none, .pointer (some ⟨g1, 0, none⟩)⟩, ⟨56, none, .bool ((decide (x0.Row < 0)) || (decide (15 ≤ x0.Row)))⟩] [.box g1 27 (cTBlock x0 gx0)]) (fun K => by kernel_rfl) hF hH ?_
            refine ⟨⟨rfl, rfl⟩, ?_⟩
            refine ⟨⟨rfl, rfl⟩, ?_⟩
            clear hF hH; intro a w hF hH
            refine wl_end (by kernel_rfl) ?_
            refine then_n ?_
            refine wp_condE (b := (decide (x0.Row < 0)) || (decide (15 ≤ x0.Row))) (by kernel_rfl) (by kernel_rfl) hF (fun hb5 => ?_) (fun hb5 => ?_)
            · have hm := condT hb5 hm
              refine wp_seqE (by kernel_rfl) ?_
              refine wp_regE (by kernel_rfl) ?_
              refine seg [.p] [2] (fun K => K [⟨2, none, .int .i64 2⟩] [.box g1 27 (cTBlock x0 gx0)]) (fun K => by kernel_rfl) hF hH ?_
              clear hF hH; intro a w hF hH
              refine wl_end (by kernel_rfl) ?_
              refine then_n ?_
              refine wp_retE (by kernel_rfl) ?_
              refine block_ret ?_
              refine then_ret ?_
              refine retE (vs := [.int .i64 2]) (p := True) (v := .int .i64 2) [] (by kernel_rfl) trivial (by kernel_rfl) hF hH ?_
              obtain rfl := Option.some.inj hm
              exact ⟨(), by kernel_rfl, hH.below, trivial, newK hH [] [] (by kernel_rfl) (by kernel_rfl) (by kernel_rfl) (by kernel_rfl)⟩
            · have hm := condF hb5 hm
              refine wp_seqE (by kernel_rfl) ?_
              refine wp_regE (by kernel_rfl) ?_
              refine seg [.p, .ld (.r 0), .p, .p, .p, .ld (.r 0), .p, .pk, .p] [1, 65] (fun K => (((g1 : Nat) = g1) ∧ ((none : Option Nat) = none)) ∧ (((g1 : Nat) = g1) ∧ ((none : Option Nat) = none)) ∧ K [⟨1, none, .pointer (some ⟨g1, 0, none⟩)⟩, ⟨65, none, .bool ((decide ((x0.Align.toNat : Int) < 1)) || (decide (3 < (x0.Align.toNat : Int))))⟩] [.box g1 27 (cTBlock x0 gx0)]) (fun K => by kernel_rfl) hF hH ?_
              refine ⟨⟨rfl, rfl⟩, ?_⟩
              refine ⟨⟨rfl, rfl⟩, ?_⟩
              clear hF hH; intro a w hF hH
              refine wl_end (by kernel_rfl) ?_
              refine then_n ?_
              refine wp_condE (b := (decide ((x0.Align.toNat : Int) < 1)) || (decide (3 < (x0.Align.toNat : Int)))) (by kernel_rfl) (by kernel_rfl) hF (fun hb6 => ?_) (fun hb6 => ?_)
              · have hm := condT hb6 hm
                refine wp_seqE (by kernel_rfl) ?_
                refine wp_regE (by kernel_rfl) ?_
                refine seg [.p] [2] (fun K => K [⟨2, none, .int .i64 3⟩] [.box g1 27 (cTBlock x0 gx0)]) (fun K => by kernel_rfl) hF hH ?_
                clear hF hH; intro a w hF hH
                refine wl_end (by kernel_rfl) ?_
                refine then_n ?_
                refine wp_retE (by kernel_rfl) ?_
                refine block_ret ?_
                refine then_ret ?_
                refine retE (vs := [.int .i64 3]) (p := True) (v := .int .i64 3) [] (by kernel_rfl) trivial (by kernel_rfl) hF hH ?_
                obtain rfl := Option.some.inj hm
                exact ⟨(), by kernel_rfl, hH.below, trivial, newK hH [] [] (by kernel_rfl) (by kernel_rfl) (by kernel_rfl) (by kernel_rfl)⟩
              · have hm := condF hb6 hm
                refine wp_seqE (by kernel_rfl) ?_
                refine wp_regE (by kernel_rfl) ?_
                refine seg [.p, .ld (.r 0), .p, .p, .p] [1, 74] (fun K => (((g1 : Nat) = g1) ∧ ((none : Option Nat) = none)) ∧ K [⟨1, none, .pointer (some ⟨g1, 0, none⟩)⟩, ⟨74, none, .bool (decide (112 < (x0.Text.length : Int)))⟩] [.box g1 27 (cTBlock x0 gx0)]) (fun K => by kernel_rfl) hF hH ?_
                refine ⟨⟨rfl, rfl⟩, ?_⟩
                clear hF hH; intro a w hF hH
                refine wl_end (by kernel_rfl) ?_
                refine then_n ?_
                refine wp_condE (b := decide (112 < (x0.Text.length : Int))) (by kernel_rfl) (by kernel_rfl) hF (fun hb7 => ?_) (fun hb7 => ?_)
                · have hm := condT hb7 hm
                  have hb7p := of_decide_eq_true hb7
                  refine wp_seqE (by kernel_rfl) ?_
                  refine wp_regE (by kernel_rfl) ?_
                  refine seg [.p] [2] (fun K => K [⟨2, none, .int .i64 9⟩] [.box g1 27 (cTBlock x0 gx0)]) (fun K => by kernel_rfl) hF hH ?_
                  clear hF hH; intro a w hF hH
                  refine wl_end (by kernel_rfl) ?_
                  refine then_n ?_
                  refine wp_retE (by kernel_rfl) ?_
                  refine block_ret ?_
                  refine then_ret ?_
                  refine retE (vs := [.int .i64 9]) (p := True) (v := .int .i64 9) [] (by kernel_rfl) trivial (by kernel_rfl) hF hH ?_
                  obtain rfl := Option.some.inj hm
                  exact ⟨(), by kernel_rfl, hH.below, trivial, newK hH [] [] (by kernel_rfl) (by kernel_rfl) (by kernel_rfl) (by kernel_rfl)⟩
                · have hm := condF hb7 hm
                  have hb7p := of_decide_eq_false hb7
                  refine wp_seqE (by kernel_rfl) ?_
                  refine wp_regE (by kernel_rfl) ?_
                  refine seg [.p, .ld (.r 0)] [81] (fun K => (((g1 : Nat) = g1) ∧ ((none : Option Nat) = none)) ∧ K [⟨81, none, sl x0.Text.length gx0⟩] [.box g1 27 (cTBlock x0 gx0)]) (fun K => by kernel_rfl) hF hH ?_
                  refine ⟨⟨rfl, rfl⟩, ?_⟩
                  clear hF hH; intro a w hF hH
                  obtain ⟨r3, hx4, hm⟩ := bnd_some hm
                  refine callE (d := 82) (c_bytes_IndexByte N x0.Text gx0 143 r3 hx4) [.v (.n 0)] [] (by kernel_rfl) trivial (.inl rfl) (by kernel_rfl) (by kernel_rfl) (by kernel_rfl) (by kernel_rfl) hF hH ?_
                  clear hF hH; rintro ⟨⟩ - a w hF hH
                  refine seg [.p, .p] [79] (fun K => K [⟨79, none, .bool (decide (0 ≤ r3))⟩] [.box g1 27 (cTBlock x0 gx0)]) (fun K => by kernel_rfl) hF hH ?_
                  clear hF hH; intro a w hF hH
                  refine wl_end (by kernel_rfl) ?_
                  refine then_n ?_
                  refine wp_condE (b := decide (0 ≤ r3)) (by kernel_rfl) (by kernel_rfl) hF (fun hb8 => ?_) (fun hb8 => ?_)
                  · have hm := condT hb8 hm
                    have hb8p := of_decide_eq_true hb8
                    refine wp_seqE (by kernel_rfl) ?_
                    refine wp_regE (by kernel_rfl) ?_
                    refine seg [.p] [2] (fun K => K [⟨2, none, .int .i64 4⟩] [.box g1 27 (cTBlock x0 gx0)]) (fun K => by kernel_rfl) hF hH ?_
                    clear hF hH; intro a w hF hH
                    refine wl_end (by kernel_rfl) ?_
                    refine then_n ?_
                    refine wp_retE (by kernel_rfl) ?_
                    refine block_ret ?_
                    refine then_ret ?_
                    refine retE (vs := [.int .i64 4]) (p := True) (v := .int .i64 4) [] (by kernel_rfl) trivial (by kernel_rfl) hF hH ?_
                    obtain rfl := Option.some.inj hm
                    exact ⟨(), by kernel_rfl, hH.below, trivial, newK hH [] [] (by kernel_rfl) (by kernel_rfl) (by kernel_rfl) (by kernel_rfl)⟩
                  · have hm := condF hb8 hm
                    have hb8p := of_decide_eq_false hb8
                    refine wp_skipE (by kernel_rfl) ?_
                    refine block_n ?_
                    refine then_n ?_
                    refine wp_seqE (by kernel_rfl) ?_
                    refine wp_regE (by kernel_rfl) ?_
                    refine seg [.p] [2] (fun K => K [⟨2, none, .int .i64 0⟩] [.box g1 27 (cTBlock x0 gx0)]) (fun K => by kernel_rfl) hF hH ?_
                    clear hF hH; intro a w hF hH
                    refine wl_end (by kernel_rfl) ?_
                    refine then_n ?_
                    refine wp_retE (by kernel_rfl) ?_
                    refine retE (vs := [.int .i64 0]) (p := True) (v := .int .i64 0) [] (by kernel_rfl) trivial (by kernel_rfl) hF hH ?_
                    obtain rfl := Option.some.inj hm
                    exact ⟨(), by kernel_rfl, hH.below, trivial, newK hH [] [] (by kernel_rfl) (by kernel_rfl) (by kernel_rfl) (by kernel_rfl)⟩

theorem c_tape_Put (N : Nat) (x0 : TBlock) (gx0 : Gs Unit) (r : (List UInt8) × Int) (hm : tape_Put N x0 = some r) : CallOk Try.prog 18 [ag (cTBlock x0 gx0)] [vw elB x0.Text.length x0.Text gx0] [] (U := Gs Unit) (fun u => .tuple #[sl r.1.length u, .int .i64 r.2]) (fun u => [rw 5 elB r.1.length r.1 u]) (fun _ => []) (fun _ => True) := by
  unfold tape_Put at hm
  refine callI (N := 78) Try.func18 (by kernel_rfl) (by kernel_rfl) (by kernel_rfl) ?_
  intro w0 B M a hF hH
  refine wp_seqE (by kernel_rfl) ?_
  refine wp_regE (by kernel_rfl) ?_
  refine seg [.bx, .p, .p] [1] (fun K => ∀ g1, K [⟨1, none, .pointer (some ⟨g1, 0, none⟩)⟩] [.box g1 27 (cTBlock x0 gx0)]) (fun K => by kernel_rfl) hF hH ?_
  intro g1
  clear hF hH; intro a w hF hH
  refine wl_end (by kernel_rfl) ?_
  refine then_n ?_
  refine wp_seqE (by kernel_rfl) ?_
  refine wp_seqE (by kernel_rfl) ?_
  refine wp_regE (by kernel_rfl) ?_
  refine seg [.ld (.r 0)] [1, 7] (fun K => (((g1 : Nat) = g1) ∧ ((none : Option Nat) = none)) ∧ K [⟨1, none, .pointer (some ⟨g1, 0, none⟩)⟩, ⟨7, none, ag (cTBlock x0 gx0)⟩] [.box g1 27 (cTBlock x0 gx0)]) (fun K => by kernel_rfl) hF hH ?_
  refine ⟨⟨rfl, rfl⟩, ?_⟩
  clear hF hH; intro a w hF hH
  obtain ⟨r1, hx1, hm⟩ := bnd_some hm
  refine callE (d := 8) (c_tape_Check N x0 gx0 r1 hx1) [.v (.n 0)] [] (by kernel_rfl) trivial (.inl rfl) (by kernel_rfl) (by kernel_rfl) (by kernel_rfl) (by kernel_rfl) hF hH ?_
  clear hF hH; rintro ⟨⟩ - a w hF hH
  refine seg [.p] [1, 4] (fun K => K [⟨1, none, .pointer (some ⟨g1, 0, none⟩)⟩, ⟨4, none, .int .i64 r1⟩] [.box g1 27 (cTBlock x0 gx0)]) (fun K => by kernel_rfl) hF hH ?_
  clear hF hH; intro a w hF hH
  refine wl_end (by kernel_rfl) ?_
  refine then_n ?_
  refine wp_seqE (by kernel_rfl) ?_
  refine wp_regE (by kernel_rfl) ?_
  refine seg [.p, .p] [1, 4, 10] (fun K => K [⟨1, none, .pointer (some ⟨g1, 0, none⟩)⟩, ⟨4, none, .int .i64 r1⟩, ⟨10, none, .bool (r1 != 0)⟩] [.box g1 27 (cTBlock x0 gx0)]) (fun K => by kernel_rfl) hF hH ?_
  clear hF hH; intro a w hF hH
  refine wl_end (by kernel_rfl) ?_
  refine then_n ?_
  refine wp_condE (b := r1 != 0) (by kernel_rfl) (by kernel_rfl) hF (fun hb1 => ?_) (fun hb1 => ?_)
  · have hm := condT hb1 hm
    have hb1p := ne_of_bne hb1
    refine wp_seqE (by kernel_rfl) ?_
    refine wp_regE (by kernel_rfl) ?_
    refine seg [.p, .p, .p] [2, 3] (fun K => K [⟨2, none, sl 0 (gu none 0)⟩, ⟨3, none, .int .i64 r1⟩] [.box g1 27 (cTBlock x0 gx0)]) (fun K => by kernel_rfl) hF hH ?_
    clear hF hH; intro a w hF hH
    refine wl_end (by kernel_rfl) ?_
    refine then_n ?_
    refine wp_retE (by kernel_rfl) ?_
    refine then_ret ?_
    have hH := hH.nilRw 5 elB (gu none 0) rfl rfl
    refine retE (vs := [sl 0 (gu none 0), .int .i64 r1]) (p := True) (v := .tuple #[sl 0 (gu none 0), .int .i64 r1]) [] (by kernel_rfl) trivial (by kernel_rfl) hF hH ?_
    obtain rfl := Option.some.inj hm
    exact ⟨(gu none 0), by kernel_rfl, hH.below, trivial, newK hH [1] [] (by kernel_rfl) (by kernel_rfl) (by kernel_rfl) (by kernel_rfl)⟩
  · have hm := condF hb1 hm
    have hb1p := eq_of_bne_false hb1
    refine wp_skipE (by kernel_rfl) ?_
    refine then_n ?_
    refine wp_seqE (by kernel_rfl) ?_
    refine wp_regE (by kernel_rfl) ?_
    refine seg [.p] [1, 5] (fun K => K [⟨1, none, .pointer (some ⟨g1, 0, none⟩)⟩, ⟨5, none, .int .u8 0⟩] [.box g1 27 (cTBlock x0 gx0)]) (fun K => by kernel_rfl) hF hH ?_
    clear hF hH; intro a w hF hH
    refine wl_end (by kernel_rfl) ?_
    refine then_n ?_
    obtain ⟨jk1, hjk1, hm⟩ := jn_some hm
    refine wp_seqJ (by kernel_rfl) (fun a w => ∃ (v1 : UInt8), jk1 v1 = some r ∧ Fr 78 [⟨1, none, .pointer (some ⟨g1, 0, none⟩)⟩, ⟨5, none, .int .u8 (v1.toNat : Int)⟩] a ∧ Hp w0 B M [vw elB x0.Text.length x0.Text gx0] [.box g1 27 (cTBlock x0 gx0)] w) ?_ ?_
    · skip
      refine wp_seqE (by kernel_rfl) ?_
      refine wp_regE (by kernel_rfl) ?_
      refine seg [.p, .ld (.r 0)] [1, 5, 13] (fun K => (((g1 : Nat) = g1) ∧ ((none : Option Nat) = none)) ∧ K [⟨1, none, .pointer (some ⟨g1, 0, none⟩)⟩, ⟨5, none, .int .u8 0⟩, ⟨13, none, .bool x0.Comment⟩] [.box g1 27 (cTBlock x0 gx0)]) (fun K => by kernel_rfl) hF hH ?_
      refine ⟨⟨rfl, rfl⟩, ?_⟩
      clear hF hH; intro a w hF hH
      refine wl_end (by kernel_rfl) ?_
      refine then_n ?_
      refine wp_condE (b := x0.Comment) (by kernel_rfl) (by kernel_rfl) hF (fun hb2 => ?_) (fun hb2 => ?_)
      · have hm := condT hb2 hm
        refine wp_regE (by kernel_rfl) ?_
        refine seg [.p] [1, 5] (fun K => K [⟨1, none, .pointer (some ⟨g1, 0, none⟩)⟩, ⟨5, none, .int .u8 1⟩] [.box g1 27 (cTBlock x0 gx0)]) (fun K => by kernel_rfl) hF hH ?_
        clear hF hH; intro a w hF hH
        refine wl_end (by kernel_rfl) ?_
        refine then_n ?_
        exact ⟨1, hm, frK hF [1, 5] (by kernel_rfl), hpKN hH [0] [0] (by kernel_rfl) (by kernel_rfl) (by kernel_rfl)⟩
      · have hm := condF hb2 hm
        refine wp_skipE (by kernel_rfl) ?_
        refine then_n ?_
        exact ⟨0, hm, frK hF [1, 5] (by kernel_rfl), hpKN hH [0] [0] (by kernel_rfl) (by kernel_rfl) (by kernel_rfl)⟩
    · clear hF hH hm; rintro a w ⟨v1, hm, hF, hH⟩
      rw [hjk1] at hm
      refine wp_seqE (by kernel_rfl) ?_
      refine wp_regE (by kernel_rfl) ?_
      refine seg [.p, .ld (.r 0), .pv (.int .u8 ((b8 x0.Group).toNat : Int)), .p, .ld (.r 0), .pv (.int .u8 ((b8 x0.Number).toNat : Int)), .p, .ld (.r 0), .p, .pv (.int .u8 ((b8 (Int.fdiv x0.Number (2 ^ 8))).toNat : Int)), .p, .ld (.r 0), .p, .ld (.r 0), .p, .p, .ld (.r 0), .pv (.int .u8 ((b8 x0.In.H).toNat : Int)), .p, .p, .ld (.r 0), .pv (.int .u8 ((b8 x0.In.M).toNat : Int)), .p, .p, .ld (.r 0), .pv (.int .u8 ((b8 x0.In.S).toNat : Int)), .p, .p, .ld (.r 0), .pv (.int .u8 ((b8 x0.In.F).toNat : Int)), .p, .p, .ld (.r 0), .pv (.int .u8 ((b8 x0.Out.H).toNat : Int)), .p, .p, .ld (.r 0), .pv (.int .u8 ((b8 x0.Out.M).toNat : Int)), .p, .p, .ld (.r 0), .pv (.int .u8 ((b8 x0.Out.S).toNat : Int)), .p, .p, .ld (.r 0), .pv (.int .u8 ((b8 x0.Out.F).toNat : Int)), .p, .ld (.r 0), .pv (.int .u8 ((b8 x0.Row).toNat : Int)), .p, .ld (.r 0), .p, .bs, .p] [1, 6] (fun K => (((g1 : Nat) = g1) ∧ ((none : Option Nat) = none)) ∧ (Value.int .u8 (IntKind.wrap .u8 x0.Group) = .int .u8 ((b8 x0.Group).toNat : Int)) ∧ (((g1 : Nat) = g1) ∧ ((none : Option Nat) = none)) ∧ (Value.int .u8 (IntKind.wrap .u8 x0.Number) = .int .u8 ((b8 x0.Number).toNat : Int)) ∧ (((g1 : Nat) = g1) ∧ ((none : Option Nat) = none)) ∧ (Value.int .u8 (IntKind.wrap .u8 (Int.fdiv x0.Number (2 ^ 8))) = .int .u8 ((b8 (Int.fdiv x0.Number (2 ^ 8))).toNat : Int)) ∧ (((g1 : Nat) = g1) ∧ ((none : Option Nat) = none)) ∧ (((g1 : Nat) = g1) ∧ ((none : Option Nat) = none)) ∧ (((g1 : Nat) = g1) ∧ ((none : Option Nat) = none)) ∧ (Value.int .u8 (IntKind.wrap .u8 x0.In.H) = .int .u8 ((b8 x0.In.H).toNat : Int)) ∧ (((g1 : Nat) = g1) ∧ ((none : Option Nat) = none)) ∧ (Value.int .u8 (IntKind.wrap .u8 x0.In.M) = .int .u8 ((b8 x0.In.M).toNat : Int)) ∧ (((g1 : Nat) = g1) ∧ ((none : Option Nat) = none)) ∧ (Value.int .u8 (IntKind.wrap .u8 x0.In.S) = .int .u8 ((b8 x0.In.S).toNat : Int)) ∧ (((g1 : Nat) = g1) ∧ ((none : Option Nat) = none)) ∧ (Value.int .u8 (IntKind.wrap .u8 x0.In.F) = .int .u8 ((b8 x0.In.F).toNat : Int)) ∧ (((g1 : Nat) = g1) ∧ ((none : Option Nat) = none)) ∧ (Value.int .u8 (IntKind.wrap .u8 x0.Out.H) = .int .u8 ((b8 x0.Out.H).toNat : Int)) ∧ (((g1 : Nat) = g1) ∧ ((none : Option Nat) = none)) ∧ (Value.int .u8 (IntKind.wrap .u8 x0.Out.M) = .int .u8 ((b8 x0.Out.M).toNat : Int)) ∧ (((g1 : Nat) = g1) ∧ ((none : Option Nat) = none)) ∧ (Value.int .u8 (IntKind.wrap .u8 x0.Out.S) = .int .u8 ((b8 x0.Out.S).toNat : Int)) ∧ (((g1 : Nat) = g1) ∧ ((none : Option Nat) = none)) ∧ (Value.int .u8 (IntKind.wrap .u8 x0.Out.F) = .int .u8 ((b8 x0.Out.F).toNat : Int)) ∧ (((g1 : Nat) = g1) ∧ ((none : Option Nat) = none)) ∧ (Value.int .u8 (IntKind.wrap .u8 x0.Row) = .int .u8 ((b8 x0.Row).toNat : Int)) ∧ (((g1 : Nat) = g1) ∧ ((none : Option Nat) = none)) ∧ ∀ g2, K [⟨1, none, .pointer (some ⟨g1, 0, none⟩)⟩, ⟨6, none, sl 16 (gu (some ⟨g2, 0, none⟩) 16)⟩] [.box g1 27 (cTBlock x0 gx0), .box g2 5 [.int .u8 ((b8 x0.Group).toNat : Int), .int .u8 ((b8 x0.Number).toNat : Int), .int .u8 ((b8 (Int.fdiv x0.Number (2 ^ 8))).toNat : Int), .int .u8 (x0.Extension.toNat : Int), .int .u8 (x0.Status.toNat : Int), .int .u8 ((b8 x0.In.H).toNat : Int), .int .u8 ((b8 x0.In.M).toNat : Int), .int .u8 ((b8 x0.In.S).toNat : Int), .int .u8 ((b8 x0.In.F).toNat : Int), .int .u8 ((b8 x0.Out.H).toNat : Int), .int .u8 ((b8 x0.Out.M).toNat : Int), .int .u8 ((b8 x0.Out.S).toNat : Int), .int .u8 ((b8 x0.Out.F).toNat : Int), .int .u8 ((b8 x0.Row).toNat : Int), .int .u8 (x0.Align.toNat : Int), .int .u8 (v1.toNat : Int)]]) (fun K => by kernel_rfl) hF hH ?_
      refine ⟨⟨rfl, rfl⟩, ?_⟩
      refine ⟨wr_b8 _, ?_⟩
      refine ⟨⟨rfl, rfl⟩, ?_⟩
      refine ⟨wr_b8 _, ?_⟩
      refine ⟨⟨rfl, rfl⟩, ?_⟩
      refine ⟨wr_b8 _, ?_⟩
      refine ⟨⟨rfl, rfl⟩, ?_⟩
      refine ⟨⟨rfl, rfl⟩, ?_⟩
      refine ⟨⟨rfl, rfl⟩, ?_⟩
      refine ⟨wr_b8 _, ?_⟩
      refine ⟨⟨rfl, rfl⟩, ?_⟩
      refine ⟨wr_b8 _, ?_⟩
      refine ⟨⟨rfl, rfl⟩, ?_⟩
      refine ⟨wr_b8 _, ?_⟩
      refine ⟨⟨rfl, rfl⟩, ?_⟩
      refine ⟨wr_b8 _, ?_⟩
      refine ⟨⟨rfl, rfl⟩, ?_⟩
      refine ⟨wr_b8 _, ?_⟩
      refine ⟨⟨rfl, rfl⟩, ?_⟩
      refine ⟨wr_b8 _, ?_⟩
      refine ⟨⟨rfl, rfl⟩, ?_⟩
      refine ⟨wr_b8 _, ?_⟩
      refine ⟨⟨rfl, rfl⟩, ?_⟩
      refine ⟨wr_b8 _, ?_⟩
      refine ⟨⟨rfl, rfl⟩, ?_⟩
      refine ⟨wr_b8 _, ?_⟩
      refine ⟨⟨rfl, rfl⟩, ?_⟩
      intro g2
      clear hF hH; intro a w hF hH
      refine wl_end (by kernel_rfl) ?_
      refine then_n ?_
      refine wp_seqE (by kernel_rfl) ?_
      refine wp_regE (by kernel_rfl) ?_
      refine seg [.p, .p, .ld (.r 0)] [6, 67, 69] (fun K => (((g1 : Nat) = g1) ∧ ((none : Option Nat) = none)) ∧ K [⟨6, none, sl 16 (gu (some ⟨g2, 0, none⟩) 16)⟩, ⟨67, none, sl 16 (gu (some ⟨g2, 0, none⟩) 16)⟩, ⟨69, none, sl x0.Text.length gx0⟩] [.box g1 27 (cTBlock x0 gx0), .box g2 5 [.int .u8 ((b8 x0.Group).toNat : Int), .int .u8 ((b8 x0.Number).toNat : Int), .int .u8 ((b8 (Int.fdiv x0.Number (2 ^ 8))).toNat : Int), .int .u8 (x0.Extension.toNat : Int), .int .u8 (x0.Status.toNat : Int), .int .u8 ((b8 x0.In.H).toNat : Int), .int .u8 ((b8 x0.In.M).toNat : Int), .int .u8 ((b8 x0.In.S).toNat : Int), .int .u8 ((b8 x0.In.F).toNat : Int), .int .u8 ((b8 x0.Out.H).toNat : Int), .int .u8 ((b8 x0.Out.M).toNat : Int), .int .u8 ((b8 x0.Out.S).toNat : Int), .int .u8 ((b8 x0.Out.F).toNat : Int), .int .u8 ((b8 x0.Row).toNat : Int), .int .u8 (x0.Align.toNat : Int), .int .u8 (v1.toNat : Int)]]) (fun K => by kernel_rfl) hF hH ?_
      refine ⟨⟨rfl, rfl⟩, ?_⟩
      clear hF hH; intro a w hF hH
      have hH := hH.boxRw (n := 16) (k := 1) (e := elB) (xs := [b8 x0.Group, b8 x0.Number, b8 (Int.fdiv x0.Number (2 ^ 8)), x0.Extension, x0.Status, b8 x0.In.H, b8 x0.In.M, b8 x0.In.S, b8 x0.In.F, b8 x0.Out.H, b8 x0.Out.M, b8 x0.Out.S, b8 x0.Out.F, b8 x0.Row, x0.Align, v1]) (s := (gu (some ⟨g2, 0, none⟩) 16)) rfl (by kernel_rfl) rfl rfl rfl (by unfold maxLen; omega)
      obtain ⟨hp1, hm⟩ := grd_some hm
      refine seg [.ap 1 (.n 0) (rowC elB x0.Text (fun _ => ())) (([b8 x0.Group, b8 x0.Number, b8 (Int.fdiv x0.Number (2 ^ 8)), x0.Extension, x0.Status, b8 x0.In.H, b8 x0.In.M, b8 x0.In.S, b8 x0.In.F, b8 x0.Out.H, b8 x0.Out.M, b8 x0.Out.S, b8 x0.Out.F, b8 x0.Row, x0.Align, v1] ++ x0.Text).length) (rowC elB ([b8 x0.Group, b8 x0.Number, b8 (Int.fdiv x0.Number (2 ^ 8)), x0.Extension, x0.Status, b8 x0.In.H, b8 x0.In.M, b8 x0.In.S, b8 x0.In.F, b8 x0.Out.H, b8 x0.Out.M, b8 x0.Out.S, b8 x0.Out.F, b8 x0.Row, x0.Align, v1] ++ x0.Text) (fun _ => ())), .p] [6] (fun K => ((((gu (some ⟨g2, 0, none⟩) 16).a : Option Addr) = (gu (some ⟨g2, 0, none⟩) 16).a) ∧ (((gu (some ⟨g2, 0, none⟩) 16).c : Nat) = (gu (some ⟨g2, 0, none⟩) 16).c) ∧ ((16 : Nat) = 16) ∧ srcP (vw elB x0.Text.length x0.Text gx0) gx0.a x0.Text.length 1 (rowC elB x0.Text (fun _ => ())) ∧ (∀ u ∈ (rowC elB x0.Text (fun _ => ()) : List Value), u.oneCell' = true) ∧ (16 + x0.Text.length ≤ maxLen) ∧ ((16 + x0.Text.length) * 1 ≤ 140737488355328) ∧ (16 + x0.Text.length = ([b8 x0.Group, b8 x0.Number, b8 (Int.fdiv x0.Number (2 ^ 8)), x0.Extension, x0.Status, b8 x0.In.H, b8 x0.In.M, b8 x0.In.S, b8 x0.In.F, b8 x0.Out.H, b8 x0.Out.M, b8 x0.Out.S, b8 x0.Out.F, b8 x0.Row, x0.Align, v1] ++ x0.Text).length) ∧ (rowC elB [b8 x0.Group, b8 x0.Number, b8 (Int.fdiv x0.Number (2 ^ 8)), x0.Extension, x0.Status, b8 x0.In.H, b8 x0.In.M, b8 x0.In.S, b8 x0.In.F, b8 x0.Out.H, b8 x0.Out.M, b8 x0.Out.S, b8 x0.Out.F, b8 x0.Row, x0.Align, v1] (gu (some ⟨g2, 0, none⟩) 16).g ++ rowC elB x0.Text (fun _ => ()) = rowC elB ([b8 x0.Group, b8 x0.Number, b8 (Int.fdiv x0.Number (2 ^ 8)), x0.Extension, x0.Status, b8 x0.In.H, b8 x0.In.M, b8 x0.In.S, b8 x0.In.F, b8 x0.Out.H, b8 x0.Out.M, b8 x0.Out.S, b8 x0.Out.F, b8 x0.Row, x0.Align, v1] ++ x0.Text) (fun _ => ()))) ∧ ∀ A1 c1, K [⟨6, none, sl (([b8 x0.Group, b8 x0.Number, b8 (Int.fdiv x0.Number (2 ^ 8)), x0.Extension, x0.Status, b8 x0.In.H, b8 x0.In.M, b8 x0.In.S, b8 x0.In.F, b8 x0.Out.H, b8 x0.Out.M, b8 x0.Out.S, b8 x0.Out.F, b8 x0.Row, x0.Align, v1] ++ x0.Text).length) (gu A1 c1)⟩] [.box g1 27 (cTBlock x0 gx0), rw 5 elB (([b8 x0.Group, b8 x0.Number, b8 (Int.fdiv x0.Number (2 ^ 8)), x0.Extension, x0.Status, b8 x0.In.H, b8 x0.In.M, b8 x0.In.S, b8 x0.In.F, b8 x0.Out.H, b8 x0.Out.M, b8 x0.Out.S, b8 x0.Out.F, b8 x0.Row, x0.Align, v1] ++ x0.Text).length) ([b8 x0.Group, b8 x0.Number, b8 (Int.fdiv x0.Number (2 ^ 8)), x0.Extension, x0.Status, b8 x0.In.H, b8 x0.In.M, b8 x0.In.S, b8 x0.In.F, b8 x0.Out.H, b8 x0.Out.M, b8 x0.Out.S, b8 x0.Out.F, b8 x0.Row, x0.Align, v1] ++ x0.Text) (gu A1 c1)]) (fun K => by kernel_rfl) hF hH ?_
      refine ⟨⟨rfl, rfl, rfl, ⟨rfl, rfl, rfl, (rowC_flatN _ _ _ (by first | rfl | simp)).symm⟩, rowC_one _ _ _, by (unfold maxLen; omega), by omega, by first | rfl | omega | (simp only [List.length_append, List.length_cons, List.length_nil] <;> omega), (rowC_appU _ _ _ _ _ _).symm⟩, ?_⟩
      intro A1 c1
      clear hF hH; intro a w hF hH
      refine wl_end (by kernel_rfl) ?_
      refine then_n ?_
      refine wp_seqE (by kernel_rfl) ?_
      refine wp_regE (by kernel_rfl) ?_
      refine seg [.p, .bs, .p, .p, .p] [71, 72, 75] (fun K => ∀ g3, K [⟨71, none, sl (([b8 x0.Group, b8 x0.Number, b8 (Int.fdiv x0.Number (2 ^ 8)), x0.Extension, x0.Status, b8 x0.In.H, b8 x0.In.M, b8 x0.In.S, b8 x0.In.F, b8 x0.Out.H, b8 x0.Out.M, b8 x0.Out.S, b8 x0.Out.F, b8 x0.Row, x0.Align, v1] ++ x0.Text).length) (gu A1 c1)⟩, ⟨72, none, sl 1 (gu (some ⟨g3, 0, none⟩) 1)⟩, ⟨75, none, .int .i64 (w64 (128 - (([b8 x0.Group, b8 x0.Number, b8 (Int.fdiv x0.Number (2 ^ 8)), x0.Extension, x0.Status, b8 x0.In.H, b8 x0.In.M, b8 x0.In.S, b8 x0.In.F, b8 x0.Out.H, b8 x0.Out.M, b8 x0.Out.S, b8 x0.Out.F, b8 x0.Row, x0.Align, v1] ++ x0.Text).length : Int)))⟩] [.box g1 27 (cTBlock x0 gx0), rw 5 elB (([b8 x0.Group, b8 x0.Number, b8 (Int.fdiv x0.Number (2 ^ 8)), x0.Extension, x0.Status, b8 x0.In.H, b8 x0.In.M, b8 x0.In.S, b8 x0.In.F, b8 x0.Out.H, b8 x0.Out.M, b8 x0.Out.S, b8 x0.Out.F, b8 x0.Row, x0.Align, v1] ++ x0.Text).length) ([b8 x0.Group, b8 x0.Number, b8 (Int.fdiv x0.Number (2 ^ 8)), x0.Extension, x0.Status, b8 x0.In.H, b8 x0.In.M, b8 x0.In.S, b8 x0.In.F, b8 x0.Out.H, b8 x0.Out.M, b8 x0.Out.S, b8 x0.Out.F, b8 x0.Row, x0.Align, v1] ++ x0.Text) (gu A1 c1), .box g3 5 [.int .u8 143]]) (fun K => by kernel_rfl) hF hH ?_
      intro g3
      clear hF hH; intro a w hF hH
      have hH := hH.boxRw (n := 1) (k := 2) (e := elB) (xs := [143]) (s := (gu (some ⟨g3, 0, none⟩) 1)) rfl (by kernel_rfl) rfl rfl rfl (by unfold maxLen; omega)
      obtain ⟨r2, hx2, hm⟩ := bnd_some hm
      refine callE (d := 76) (b := true) (p := (((∀ w, Res.ok w (rw 5 elB 1 [143] (gu (some ⟨g3, 0, none⟩) 1)) → Res.ok w (vw elB 1 [143] (gu (some ⟨g3, 0, none⟩) 1))) ∧ ∀ b, (vw elB 1 [143] (gu (some ⟨g3, 0, none⟩) 1)).fp b → (rw 5 elB 1 [143] (gu (some ⟨g3, 0, none⟩) 1)).fp b) ∧ True)) (c_bytes_Repeat N [143] (gu (some ⟨g3, 0, none⟩) 1) (w64 (128 - (([b8 x0.Group, b8 x0.Number, b8 (Int.fdiv x0.Number (2 ^ 8)), x0.Extension, x0.Status, b8 x0.In.H, b8 x0.In.M, b8 x0.In.S, b8 x0.In.F, b8 x0.Out.H, b8 x0.Out.M, b8 x0.Out.S, b8 x0.Out.F, b8 x0.Row, x0.Align, v1] ++ x0.Text).length : Int))) r2 hx2) [.b 2 (vw elB 1 [143] (gu (some ⟨g3, 0, none⟩) 1))] [] (by kernel_rfl) ⟨⟨(imp_rv (by simp)).ok, (imp_rv (by simp)).fp⟩, trivial⟩ (.inr fun _ => rfl) (by kernel_rfl) (by kernel_rfl) (by kernel_rfl) (by kernel_rfl) hF hH ?_
      clear hF hH; rintro s1 - a w hF hH
      obtain ⟨hp2, hm⟩ := grd_some hm
      refine seg [.ap 1 (.r 3) (rowC elB r2 (fun _ => ())) ((([b8 x0.Group, b8 x0.Number, b8 (Int.fdiv x0.Number (2 ^ 8)), x0.Extension, x0.Status, b8 x0.In.H, b8 x0.In.M, b8 x0.In.S, b8 x0.In.F, b8 x0.Out.H, b8 x0.Out.M, b8 x0.Out.S, b8 x0.Out.F, b8 x0.Row, x0.Align, v1] ++ x0.Text) ++ r2).length) (rowC elB (([b8 x0.Group, b8 x0.Number, b8 (Int.fdiv x0.Number (2 ^ 8)), x0.Extension, x0.Status, b8 x0.In.H, b8 x0.In.M, b8 x0.In.S, b8 x0.In.F, b8 x0.Out.H, b8 x0.Out.M, b8 x0.Out.S, b8 x0.Out.F, b8 x0.Row, x0.Align, v1] ++ x0.Text) ++ r2) (fun _ => ())), .p, .p] [2, 3] (fun K => ((((gu A1 c1).a : Option Addr) = (gu A1 c1).a) ∧ (((gu A1 c1).c : Nat) = (gu A1 c1).c) ∧ ((([b8 x0.Group, b8 x0.Number, b8 (Int.fdiv x0.Number (2 ^ 8)), x0.Extension, x0.Status, b8 x0.In.H, b8 x0.In.M, b8 x0.In.S, b8 x0.In.F, b8 x0.Out.H, b8 x0.Out.M, b8 x0.Out.S, b8 x0.Out.F, b8 x0.Row, x0.Align, v1] ++ x0.Text).length : Nat) = ([b8 x0.Group, b8 x0.Number, b8 (Int.fdiv x0.Number (2 ^ 8)), x0.Extension, x0.Status, b8 x0.In.H, b8 x0.In.M, b8 x0.In.S, b8 x0.In.F, b8 x0.Out.H, b8 x0.Out.M, b8 x0.Out.S, b8 x0.Out.F, b8 x0.Row, x0.Align, v1] ++ x0.Text).length) ∧ srcP (rw 5 elB r2.length r2 s1) s1.a r2.length 1 (rowC elB r2 (fun _ => ())) ∧ (∀ u ∈ (rowC elB r2 (fun _ => ()) : List Value), u.oneCell' = true) ∧ (([b8 x0.Group, b8 x0.Number, b8 (Int.fdiv x0.Number (2 ^ 8)), x0.Extension, x0.Status, b8 x0.In.H, b8 x0.In.M, b8 x0.In.S, b8 x0.In.F, b8 x0.Out.H, b8 x0.Out.M, b8 x0.Out.S, b8 x0.Out.F, b8 x0.Row, x0.Align, v1] ++ x0.Text).length + r2.length ≤ maxLen) ∧ ((([b8 x0.Group, b8 x0.Number, b8 (Int.fdiv x0.Number (2 ^ 8)), x0.Extension, x0.Status, b8 x0.In.H, b8 x0.In.M, b8 x0.In.S, b8 x0.In.F, b8 x0.Out.H, b8 x0.Out.M, b8 x0.Out.S, b8 x0.Out.F, b8 x0.Row, x0.Align, v1] ++ x0.Text).length + r2.length) * 1 ≤ 140737488355328) ∧ (([b8 x0.Group, b8 x0.Number, b8 (Int.fdiv x0.Number (2 ^ 8)), x0.Extension, x0.Status, b8 x0.In.H, b8 x0.In.M, b8 x0.In.S, b8 x0.In.F, b8 x0.Out.H, b8 x0.Out.M, b8 x0.Out.S, b8 x0.Out.F, b8 x0.Row, x0.Align, v1] ++ x0.Text).length + r2.length = (([b8 x0.Group, b8 x0.Number, b8 (Int.fdiv x0.Number (2 ^ 8)), x0.Extension, x0.Status, b8 x0.In.H, b8 x0.In.M, b8 x0.In.S, b8 x0.In.F, b8 x0.Out.H, b8 x0.Out.M, b8 x0.Out.S, b8 x0.Out.F, b8 x0.Row, x0.Align, v1] ++ x0.Text) ++ r2).length) ∧ (rowC elB ([b8 x0.Group, b8 x0.Number, b8 (Int.fdiv x0.Number (2 ^ 8)), x0.Extension, x0.Status, b8 x0.In.H, b8 x0.In.M, b8 x0.In.S, b8 x0.In.F, b8 x0.Out.H, b8 x0.Out.M, b8 x0.Out.S, b8 x0.Out.F, b8 x0.Row, x0.Align, v1] ++ x0.Text) (gu A1 c1).g ++ rowC elB r2 (fun _ => ()) = rowC elB (([b8 x0.Group, b8 x0.Number, b8 (Int.fdiv x0.Number (2 ^ 8)), x0.Extension, x0.Status, b8 x0.In.H, b8 x0.In.M, b8 x0.In.S, b8 x0.In.F, b8 x0.Out.H, b8 x0.Out.M, b8 x0.Out.S, b8 x0.Out.F, b8 x0.Row, x0.Align, v1] ++ x0.Text) ++ r2) (fun _ => ()))) ∧ ∀ A2 c2, K [⟨2, none, sl ((([b8 x0.Group, b8 x0.Number, b8 (Int.fdiv x0.Number (2 ^ 8)), x0.Extension, x0.Status, b8 x0.In.H, b8 x0.In.M, b8 x0.In.S, b8 x0.In.F, b8 x0.Out.H, b8 x0.Out.M, b8 x0.Out.S, b8 x0.Out.F, b8 x0.Row, x0.Align, v1] ++ x0.Text) ++ r2).length) (gu A2 c2)⟩, ⟨3, none, .int .i64 0⟩] [.box g1 27 (cTBlock x0 gx0), rw 5 elB ((([b8 x0.Group, b8 x0.Number, b8 (Int.fdiv x0.Number (2 ^ 8)), x0.Extension, x0.Status, b8 x0.In.H, b8 x0.In.M, b8 x0.In.S, b8 x0.In.F, b8 x0.Out.H, b8 x0.Out.M, b8 x0.Out.S, b8 x0.Out.F, b8 x0.Row, x0.Align, v1] ++ x0.Text) ++ r2).length) (([b8 x0.Group, b8 x0.Number, b8 (Int.fdiv x0.Number (2 ^ 8)), x0.Extension, x0.Status, b8 x0.In.H, b8 x0.In.M, b8 x0.In.S, b8 x0.In.F, b8 x0.Out.H, b8 x0.Out.M, b8 x0.Out.S, b8 x0.Out.F, b8 x0.Row, x0.Align, v1] ++ x0.Text) ++ r2) (gu A2 c2), rw 5 elB 1 [143] (gu (some ⟨g3, 0, none⟩) 1), rw 5 elB r2.length r2 s1]) (fun K => by kernel_rfl) hF hH ?_
      refine ⟨⟨rfl, rfl, rfl, ⟨rfl, rfl, rfl, rfl⟩, rowC_one _ _ _, by (unfold maxLen; omega), by omega, by first | rfl | omega | (simp only [List.length_append, List.length_cons, List.length_nil] <;> omega), (rowC_appU _ _ _ _ _ _).symm⟩, ?_⟩
      intro A2 c2
      clear hF hH; intro a w hF hH
      refine wl_end (by kernel_rfl) ?_
      refine then_n ?_
      refine wp_retE (by kernel_rfl) ?_
      refine retE (vs := [sl ((([b8 x0.Group, b8 x0.Number, b8 (Int.fdiv x0.Number (2 ^ 8)), x0.Extension, x0.Status, b8 x0.In.H, b8 x0.In.M, b8 x0.In.S, b8 x0.In.F, b8 x0.Out.H, b8 x0.Out.M, b8 x0.Out.S, b8 x0.Out.F, b8 x0.Row, x0.Align, v1] ++ x0.Text) ++ r2).length) (gu A2 c2), .int .i64 0]) (p := True) (v := .tuple #[sl ((([b8 x0.Group, b8 x0.Number, b8 (Int.fdiv x0.Number (2 ^ 8)), x0.Extension, x0.Status, b8 x0.In.H, b8 x0.In.M, b8 x0.In.S, b8 x0.In.F, b8 x0.Out.H, b8 x0.Out.M, b8 x0.Out.S, b8 x0.Out.F, b8 x0.Row, x0.Align, v1] ++ x0.Text) ++ r2).length) (gu A2 c2), .int .i64 0]) [] (by kernel_rfl) trivial (by kernel_rfl) hF hH ?_
      obtain rfl := Option.some.inj hm
      exact ⟨(gu A2 c2), by kernel_rfl, hH.below, trivial, newK hH [1] [] (by kernel_rfl) (by kernel_rfl) (by kernel_rfl) (by kernel_rfl)⟩

theorem c_slices_Equal_Lbyte (N : Nat) (x0 : List UInt8) (gx0 : Gs Unit) (x1 : List UInt8) (gx1 : Gs Unit) (r : Bool) (hm : slices_Equal_Lbyte N x0 x1 = some r) : CallOk Try.prog 15 [sl x0.length gx0, sl x1.length gx1] [vw elB x0.length x0 gx0, vw elB x1.length x1 gx1] [] (U := Unit) (fun _ => .bool r) (fun _ => []) (fun _ => []) (fun _ => True) := by
  unfold slices_Equal_Lbyte at hm
  refine callI (N := 26) Try.func15 (by kernel_rfl) (by kernel_rfl) (by kernel_rfl) ?_
  intro w0 B M a hF hH
  refine wp_seqE (by kernel_rfl) ?_
  refine wp_regE (by kernel_rfl) ?_
  refine seg [.p] [0, 1] (fun K => K [⟨0, none, sl x0.length gx0⟩, ⟨1, none, sl x1.length gx1⟩] []) (fun K => by kernel_rfl) hF hH ?_
  clear hF hH; intro a w hF hH
  refine wl_end (by kernel_rfl) ?_
  refine then_n ?_
  refine wp_seqE (by kernel_rfl) ?_
  refine wp_seqE (by kernel_rfl) ?_
  refine wp_regE (by kernel_rfl) ?_
  refine seg [.p, .p, .p, .p, .p] [0, 1, 10] (fun K => K [⟨0, none, sl x0.length gx0⟩, ⟨1, none, sl x1.length gx1⟩, ⟨10, none, .bool ((x0.length : Int) != (x1.length : Int))⟩] []) (fun K => by kernel_rfl) hF hH ?_
  clear hF hH; intro a w hF hH
  refine wl_end (by kernel_rfl) ?_
  refine then_n ?_
  refine wp_condE (b := (x0.length : Int) != (x1.length : Int)) (by kernel_rfl) (by kernel_rfl) hF (fun hb1 => ?_) (fun hb1 => ?_)
  · have hm := condT hb1 hm
    have hb1p := ne_of_bne hb1
    refine wp_seqE (by kernel_rfl) ?_
    refine wp_regE (by kernel_rfl) ?_
    refine seg [.p] [4] (fun K => K [⟨4, none, .bool false⟩] []) (fun K => by kernel_rfl) hF hH ?_
    clear hF hH; intro a w hF hH
    refine wl_end (by kernel_rfl) ?_
    refine then_n ?_
    refine wp_retE (by kernel_rfl) ?_
    refine then_ret ?_
    refine retE (vs := [.bool false]) (p := True) (v := .bool false) [] (by kernel_rfl) trivial (by kernel_rfl) hF hH ?_
    obtain rfl := Option.some.inj hm
    exact ⟨(), by kernel_rfl, hH.below, trivial, newK hH [] [] (by kernel_rfl) (by kernel_rfl) (by kernel_rfl) (by kernel_rfl)⟩
  · have hm := condF hb1 hm
    have hb1p := eq_of_bne_false hb1
    refine wp_skipE (by kernel_rfl) ?_
    refine then_n ?_
    refine wp_seqE (by kernel_rfl) ?_
    refine wp_seqE (by kernel_rfl) ?_
    refine wp_regE (by kernel_rfl) ?_
    refine seg [.p, .p, .p] [0, 1, 12, 13] (fun K => K [⟨0, none, sl x0.length gx0⟩, ⟨1, none, sl x1.length gx1⟩, ⟨12, none, .int .i64 (x0.length : Int)⟩, ⟨13, none, .int .i64 0⟩] []) (fun K => by kernel_rfl) hF hH ?_
    clear hF hH; intro a w hF hH
    refine wl_end (by kernel_rfl) ?_
    refine then_n ?_
    obtain ⟨jk1, hjk1, hm⟩ := jn_some hm
    refine wp_blockJ (id := 0) (by kernel_rfl) (fun a w => jk1 = some r ∧ Fr 26 [] a ∧ Hp w0 B M [vw elB x0.length x0 gx0, vw elB x1.length x1 gx1] [] w) ?_ ?_
    · skip
      refine wp_loopE (by kernel_rfl) (fun msr a w => ∃ (v1 : Int), slices_Equal_Lbyte_L4 N x0 x1 jk1 msr v1 = some r ∧ Fr 26 [⟨0, none, sl x0.length gx0⟩, ⟨1, none, sl x1.length gx1⟩, ⟨12, none, .int .i64 (x0.length : Int)⟩, ⟨13, none, .int .i64 v1⟩] a ∧ Hp w0 B M [vw elB x0.length x0 gx0, vw elB x1.length x1 gx1] [] w) N ⟨0, hm, frK hF [0, 1, 12, 13] (by kernel_rfl), hpKN hH [0, 1] [] (by kernel_rfl) (by kernel_rfl) (by kernel_rfl)⟩ ?_
      clear hF hH hm; rintro msr a w ⟨v1, hm, hF, hH⟩
      rcases msr with _ | msr
      · exact absurd hm (by simp [slices_Equal_Lbyte_L4])
      rw [slices_Equal_Lbyte_L4] at hm
      refine wp_seqE (by kernel_rfl) ?_
      refine wp_regE (by kernel_rfl) ?_
      refine seg [.p] [0, 1, 12, 13, 14] (fun K => K [⟨0, none, sl x0.length gx0⟩, ⟨1, none, sl x1.length gx1⟩, ⟨12, none, .int .i64 (x0.length : Int)⟩, ⟨13, none, .int .i64 v1⟩, ⟨14, none, .bool (decide (v1 < (x0.length : Int)))⟩] []) (fun K => by kernel_rfl) hF hH ?_
      clear hF hH; intro a w hF hH
      refine wl_end (by kernel_rfl) ?_
      refine then_n ?_
      refine wp_seqE (by kernel_rfl) ?_
      refine wp_condE (b := decide (v1 < (x0.length : Int))) (by kernel_rfl) (by kernel_rfl) hF (fun hb2 => ?_) (fun hb2 => ?_)
      · have hm := condT hb2 hm
        have hb2p := of_decide_eq_true hb2
        refine wp_skipE (by kernel_rfl) ?_
        refine then_n ?_
        refine wp_seqE (by kernel_rfl) ?_
        refine wp_blockE (id := 1) (by kernel_rfl) ?_
        refine wp_seqE (by kernel_rfl) ?_
        refine wp_regE (by kernel_rfl) ?_
        refine seg [.p, .p] [0, 1, 12, 13, 5] (fun K => K [⟨0, none, sl x0.length gx0⟩, ⟨1, none, sl x1.length gx1⟩, ⟨12, none, .int .i64 (x0.length : Int)⟩, ⟨13, none, .int .i64 v1⟩, ⟨5, none, .int .i64 v1⟩] []) (fun K => by kernel_rfl) hF hH ?_
        clear hF hH; intro a w hF hH
        refine wl_end (by kernel_rfl) ?_
        refine then_n ?_
        refine wp_seqE (by kernel_rfl) ?_
        obtain ⟨hp1, hm⟩ := grd_some hm
        obtain ⟨hp2, hm⟩ := grd_some hm
        refine drawE (n := 9) (by kernel_rfl) (by kernel_rfl) (by kernel_rfl) (by kernel_rfl) [] [0, 1, 12, 13, 24] (.take 0 (.p) (.take 1 (.p) (.take 2 (.ia (.n 0) v1.toNat) (.take 3 (.lv (.n 0) v1.toNat 0) (.take 4 (.p) (.take 5 (.p) (.take 6 (.ia (.n 1) v1.toNat) (.take 7 (.lv (.n 1) v1.toNat 0) (.take 8 (.p) ((.done []))))))))))) (fun l rs => l = [⟨0, none, sl x0.length gx0⟩, ⟨1, none, sl x1.length gx1⟩, ⟨12, none, .int .i64 (x0.length : Int)⟩, ⟨13, none, .int .i64 v1⟩, ⟨24, none, .bool (((x0.getD v1.toNat 0).toNat : Int) != ((x1.getD v1.toNat 0).toNat : Int))⟩] ∧ rs = []) (fun K => (((gx0.a : Option Addr) = gx0.a) ∧ ((x0.length : Nat) = x0.length) ∧ ((1 : Nat) = 1) ∧ ((v1 : Int) = ((v1.toNat : Nat) : Int)) ∧ (v1.toNat < x0.length)) ∧ (((gx0.a.getD nilA).add (v1.toNat * 1) = ((gx0.a.getD nilA).add (v1.toNat * 1)).add 0) ∧ (v1.toNat < x0.length)) ∧ (((gx1.a : Option Addr) = gx1.a) ∧ ((x1.length : Nat) = x1.length) ∧ ((1 : Nat) = 1) ∧ ((v1 : Int) = ((v1.toNat : Nat) : Int)) ∧ (v1.toNat < x1.length)) ∧ (((gx1.a.getD nilA).add (v1.toNat * 1) = ((gx1.a.getD nilA).add (v1.toNat * 1)).add 0) ∧ (v1.toNat < x1.length)) ∧ K [⟨0, none, sl x0.length gx0⟩, ⟨1, none, sl x1.length gx1⟩, ⟨12, none, .int .i64 (x0.length : Int)⟩, ⟨13, none, .int .i64 v1⟩, ⟨24, none, .bool (((x0.getD v1.toNat 0).toNat : Int) != ((x1.getD v1.toNat 0).toNat : Int))⟩] []) (fun K => by kernel_rfl) hF hH (⟨⟨rfl, rfl, rfl, by omega, by omega⟩, ⟨⟨rfl, by omega⟩, ⟨⟨rfl, rfl, rfl, by omega, by omega⟩, ⟨⟨rfl, by omega⟩, ⟨rfl, rfl⟩⟩⟩⟩⟩) ?_
        clear hF hH; rintro l rs a w ⟨rfl, rfl⟩ hF hH
        refine then_n ?_
        refine wp_condE (b := ((x0.getD v1.toNat 0).toNat : Int) != ((x1.getD v1.toNat 0).toNat : Int)) (by kernel_rfl) (by kernel_rfl) hF (fun hb3 => ?_) (fun hb3 => ?_)
        · have hm := condT hb3 hm
          have hb3p := ne_of_bne hb3
          refine wp_seqE (by kernel_rfl) ?_
          refine wp_regE (by kernel_rfl) ?_
          refine seg [.p] [4] (fun K => K [⟨4, none, .bool false⟩] []) (fun K => by kernel_rfl) hF hH ?_
          clear hF hH; intro a w hF hH
          refine wl_end (by kernel_rfl) ?_
          refine then_n ?_
          refine wp_retE (by kernel_rfl) ?_
          refine block_ret ?_
          refine then_ret ?_
          refine then_ret ?_
          refine block_ret ?_
          refine then_ret ?_
          refine then_ret ?_
          refine retE (vs := [.bool false]) (p := True) (v := .bool false) [] (by kernel_rfl) trivial (by kernel_rfl) hF hH ?_
          obtain rfl := Option.some.inj hm
          exact ⟨(), by kernel_rfl, hH.below, trivial, newK hH [] [] (by kernel_rfl) (by kernel_rfl) (by kernel_rfl) (by kernel_rfl)⟩
        · have hm := condF hb3 hm
          have hb3p := eq_of_bne_false hb3
          refine wp_skipE (by kernel_rfl) ?_
          refine block_n ?_
          refine then_n ?_
          refine wp_regE (by kernel_rfl) ?_
          refine seg [.p, .p] [0, 1, 12, 13] (fun K => K [⟨0, none, sl x0.length gx0⟩, ⟨1, none, sl x1.length gx1⟩, ⟨12, none, .int .i64 (x0.length : Int)⟩, ⟨13, none, .int .i64 (w64 (v1 + 1))⟩] []) (fun K => by kernel_rfl) hF hH ?_
          clear hF hH; intro a w hF hH
          refine wl_end (by kernel_rfl) ?_
          refine then_n ?_
          exact ⟨msr, Nat.lt_succ_self _, w64 (v1 + 1), hm, frK hF [0, 1, 12, 13] (by kernel_rfl), hpKN hH [0, 1] [] (by kernel_rfl) (by kernel_rfl) (by kernel_rfl)⟩
      · have hm := condF hb2 hm
        have hb2p := of_decide_eq_false hb2
        refine wp_exitE (id := 0) (by kernel_rfl) ?_
        refine then_exit ?_
        refine then_exit ?_
        refine block_exit ?_
        refine then_n ?_
        exact ⟨hm, frK hF [] (by kernel_rfl), hpKN hH [0, 1] [] (by kernel_rfl) (by kernel_rfl) (by kernel_rfl)⟩
    · clear hF hH hm; rintro a w ⟨hm, hF, hH⟩
      rw [hjk1] at hm
      refine then_n ?_
      refine wp_seqE (by kernel_rfl) ?_
      refine wp_regE (by kernel_rfl) ?_
      refine seg [.p] [4] (fun K => K [⟨4, none, .bool true⟩] []) (fun K => by kernel_rfl) hF hH ?_
      clear hF hH; intro a w hF hH
      refine wl_end (by kernel_rfl) ?_
      refine then_n ?_
      refine wp_retE (by kernel_rfl) ?_
      refine retE (vs := [.bool true]) (p := True) (v := .bool true) [] (by kernel_rfl) trivial (by kernel_rfl) hF hH ?_
      obtain rfl := Option.some.inj hm
      exact ⟨(), by kernel_rfl, hH.below, trivial, newK hH [] [] (by kernel_rfl) (by kernel_rfl) (by kernel_rfl) (by kernel_rfl)⟩

theorem c_tape_Split (N : Nat) (x0 : TBlock) (gx0 : Gs Unit) (x1 : List UInt8) (gx1 : Gs Unit) (r : (List TBlock) × Int) (hm : tape_Split N x0 x1 = some r) : CallOk Try.prog 10 [ag (cTBlock x0 gx0), sl x1.length gx1] [vw elB x0.Text.length x0.Text gx0, vw elB x1.length x1 gx1] [] (U := Gs (Gs Unit)) (fun u => .tuple #[sl r.1.length u, .int .i64 r.2]) (fun u => [vw eTBlock r.1.length r.1 u, fm eTBlock r.1.length r.1 u nTBlock_0]) (fun _ => []) (fun _ => True) := by
  unfold tape_Split at hm
  refine callI (N := 60) Try.func10 (by kernel_rfl) (by kernel_rfl) (by kernel_rfl) ?_
  intro w0 B M a hF hH
  refine wp_seqE (by kernel_rfl) ?_
  refine wp_regE (by kernel_rfl) ?_
  refine seg [.bx, .p, .p] [1, 2] (fun K => ∀ g1, K [⟨1, none, sl x1.length gx1⟩, ⟨2, none, .pointer (some ⟨g1, 0, none⟩)⟩] [.box g1 27 (cTBlock x0 gx0)]) (fun K => by kernel_rfl) hF hH ?_
  intro g1
  clear hF hH; intro a w hF hH
  refine wl_end (by kernel_rfl) ?_
  refine then_n ?_
  refine wp_seqE (by kernel_rfl) ?_
  refine wp_regE (by kernel_rfl) ?_
  refine seg [.p, .st 0, .p, .st 0] [1, 2] (fun K => ((g1 : Nat) = g1 ∧ (none : Option Nat) = none) ∧ ((g1 : Nat) = g1 ∧ (none : Option Nat) = none) ∧ K [⟨1, none, sl x1.length gx1⟩, ⟨2, none, .pointer (some ⟨g1, 0, none⟩)⟩] [.box g1 27 (cTBlock ({ x0 with Extension := 0, Text := [] }) (gu none 0))]) (fun K => by kernel_rfl) hF hH ?_
  refine ⟨⟨rfl, rfl⟩, ?_⟩
  refine ⟨⟨rfl, rfl⟩, ?_⟩
  clear hF hH; intro a w hF hH
  refine wl_end (by kernel_rfl) ?_
  refine then_n ?_
  refine wp_seqE (by kernel_rfl) ?_
  refine wp_seqE (by kernel_rfl) ?_
  refine wp_regE (by kernel_rfl) ?_
  refine seg [.ld (.r 0)] [1, 2, 13] (fun K => (((g1 : Nat) = g1) ∧ ((none : Option Nat) = none)) ∧ K [⟨1, none, sl x1.length gx1⟩, ⟨2, none, .pointer (some ⟨g1, 0, none⟩)⟩, ⟨13, none, ag (cTBlock ({ x0 with Extension := 0, Text := [] }) (gu none 0))⟩] [.box g1 27 (cTBlock ({ x0 with Extension := 0, Text := [] }) (gu none 0))]) (fun K => by kernel_rfl) hF hH ?_
  refine ⟨⟨rfl, rfl⟩, ?_⟩
  clear hF hH; intro a w hF hH
  have hH := hH.nilVw elB (gu none 0) rfl
  obtain ⟨r1, hx1, hm⟩ := bnd_some hm
  refine callE (d := 14) (c_tape_Check N ({ x0 with Extension := 0, Text := [] }) (gu none 0) r1 hx1) [.v (.n 2)] [] (by kernel_rfl) trivial (.inl rfl) (by kernel_rfl) (by kernel_rfl) (by kernel_rfl) (by kernel_rfl) hF hH ?_
  clear hF hH; rintro ⟨⟩ - a w hF hH
  refine seg [.p] [1, 2, 6] (fun K => K [⟨1, none, sl x1.length gx1⟩, ⟨2, none, .pointer (some ⟨g1, 0, none⟩)⟩, ⟨6, none, .int .i64 r1⟩] [.box g1 27 (cTBlock ({ x0 with Extension := 0, Text := [] }) (gu none 0))]) (fun K => by kernel_rfl) hF hH ?_
  clear hF hH; intro a w hF hH
  refine wl_end (by kernel_rfl) ?_
  refine then_n ?_
  refine wp_seqE (by kernel_rfl) ?_
  refine wp_regE (by kernel_rfl) ?_
  refine seg [.p, .p] [1, 2, 6, 16] (fun K => K [⟨1, none, sl x1.length gx1⟩, ⟨2, none, .pointer (some ⟨g1, 0, none⟩)⟩, ⟨6, none, .int .i64 r1⟩, ⟨16, none, .bool (r1 != 0)⟩] [.box g1 27 (cTBlock ({ x0 with Extension := 0, Text := [] }) (gu none 0))]) (fun K => by kernel_rfl) hF hH ?_
  clear hF hH; intro a w hF hH
  refine wl_end (by kernel_rfl) ?_
  refine then_n ?_
  refine wp_condE (b := r1 != 0) (by kernel_rfl) (by kernel_rfl) hF (fun hb1 => ?_) (fun hb1 => ?_)
  · have hm := condT hb1 hm
    have hb1p := ne_of_bne hb1
    refine wp_seqE (by kernel_rfl) ?_
    refine wp_regE (by kernel_rfl) ?_
    refine seg [.p, .p, .p] [4, 5] (fun K => K [⟨4, none, sl 0 (⟨none, 0, fun _ => (gu none 0)⟩ : Gs (Gs Unit))⟩, ⟨5, none, .int .i64 r1⟩] [.box g1 27 (cTBlock ({ x0 with Extension := 0, Text := [] }) (gu none 0))]) (fun K => by kernel_rfl) hF hH ?_
    clear hF hH; intro a w hF hH
    refine wl_end (by kernel_rfl) ?_
    refine then_n ?_
    refine wp_retE (by kernel_rfl) ?_
    refine then_ret ?_
    have hH := hH.nilRw 27 eTBlock (⟨none, 0, fun _ => (gu none 0)⟩ : Gs (Gs Unit)) rfl rfl
    have hH := hH.nilFmR eTBlock (⟨none, 0, fun _ => (gu none 0)⟩ : Gs (Gs Unit)) nTBlock_0
    have hH := hH.freeze (k := 1) rfl (imp_rv (by simp)) rfl
    refine retE (vs := [sl 0 (⟨none, 0, fun _ => (gu none 0)⟩ : Gs (Gs Unit)), .int .i64 r1]) (p := True) (v := .tuple #[sl 0 (⟨none, 0, fun _ => (gu none 0)⟩ : Gs (Gs Unit)), .int .i64 r1]) [] (by kernel_rfl) trivial (by kernel_rfl) hF hH ?_
    obtain rfl := Option.some.inj hm
    exact ⟨(⟨none, 0, fun _ => (gu none 0)⟩ : Gs (Gs Unit)), by kernel_rfl, hH.below, trivial, newK hH [1, 2] [] (by kernel_rfl) (by kernel_rfl) (by kernel_rfl) (by kernel_rfl)⟩
  · have hm := condF hb1 hm
    have hb1p := eq_of_bne_false hb1
    refine wp_skipE (by kernel_rfl) ?_
    refine then_n ?_
    refine wp_seqE (by kernel_rfl) ?_
    refine wp_regE (by kernel_rfl) ?_
    refine seg [.p, .p, .p, .p, .p, .pv (.int .i64 (max 1 (w64 (Int.tdiv (w64 ((w64 ((x1.length : Int) + 112)) - 1)) 112)))), .p] [1, 2, 7] (fun K => (Value.int .i64 (if w64 (Int.tdiv (w64 ((w64 ((x1.length : Int) + 112)) - 1)) 112) > 1 then w64 (Int.tdiv (w64 ((w64 ((x1.length : Int) + 112)) - 1)) 112) else 1) = .int .i64 (max 1 (w64 (Int.tdiv (w64 ((w64 ((x1.length : Int) + 112)) - 1)) 112)))) ∧ K [⟨1, none, sl x1.length gx1⟩, ⟨2, none, .pointer (some ⟨g1, 0, none⟩)⟩, ⟨7, none, .int .i64 (max 1 (w64 (Int.tdiv (w64 ((w64 ((x1.length : Int) + 112)) - 1)) 112)))⟩] [.box g1 27 (cTBlock ({ x0 with Extension := 0, Text := [] }) (gu none 0))]) (fun K => by kernel_rfl) hF hH ?_
    refine ⟨maxE _ _, ?_⟩
    clear hF hH; intro a w hF hH
    refine wl_end (by kernel_rfl) ?_
    refine then_n ?_
    refine wp_seqE (by kernel_rfl) ?_
    refine wp_seqE (by kernel_rfl) ?_
    refine wp_regE (by kernel_rfl) ?_
    refine seg [.p, .p] [1, 2, 7, 25] (fun K => K [⟨1, none, sl x1.length gx1⟩, ⟨2, none, .pointer (some ⟨g1, 0, none⟩)⟩, ⟨7, none, .int .i64 (max 1 (w64 (Int.tdiv (w64 ((w64 ((x1.length : Int) + 112)) - 1)) 112)))⟩, ⟨25, none, .bool (decide (241 < (max 1 (w64 (Int.tdiv (w64 ((w64 ((x1.length : Int) + 112)) - 1)) 112)))))⟩] [.box g1 27 (cTBlock ({ x0 with Extension := 0, Text := [] }) (gu none 0))]) (fun K => by kernel_rfl) hF hH ?_
    clear hF hH; intro a w hF hH
    refine wl_end (by kernel_rfl) ?_
    refine then_n ?_
    refine wp_condE (b := decide (241 < (max 1 (w64 (Int.tdiv (w64 ((w64 ((x1.length : Int) + 112)) - 1)) 112))))) (by kernel_rfl) (by kernel_rfl) hF (fun hb2 => ?_) (fun hb2 => ?_)
    · have hm := condT hb2 hm
      have hb2p := of_decide_eq_true hb2
      refine wp_seqE (by kernel_rfl) ?_
      refine wp_regE (by kernel_rfl) ?_
      refine seg [.p, .p] [4, 5] (fun K => K [⟨4, none, sl 0 (⟨none, 0, fun _ => (gu none 0)⟩ : Gs (Gs Unit))⟩, ⟨5, none, .int .i64 9⟩] [.box g1 27 (cTBlock ({ x0 with Extension := 0, Text := [] }) (gu none 0))]) (fun K => by kernel_rfl) hF hH ?_
      clear hF hH; intro a w hF hH
      refine wl_end (by kernel_rfl) ?_
      refine then_n ?_
      refine wp_retE (by kernel_rfl) ?_
      refine then_ret ?_
      have hH := hH.nilRw 27 eTBlock (⟨none, 0, fun _ => (gu none 0)⟩ : Gs (Gs Unit)) rfl rfl
      have hH := hH.nilFmR eTBlock (⟨none, 0, fun _ => (gu none 0)⟩ : Gs (Gs Unit)) nTBlock_0
      have hH := hH.freeze (k := 1) rfl (imp_rv (by simp)) rfl
      refine retE (vs := [sl 0 (⟨none, 0, fun _ => (gu none 0)⟩ : Gs (Gs Unit)), .int .i64 9]) (p := True) (v := .tuple #[sl 0 (⟨none, 0, fun _ => (gu none 0)⟩ : Gs (Gs Unit)), .int .i64 9]) [] (by kernel_rfl) trivial (by kernel_rfl) hF hH ?_
      obtain rfl := Option.some.inj hm
      exact ⟨(⟨none, 0, fun _ => (gu none 0)⟩ : Gs (Gs Unit)), by kernel_rfl, hH.below, trivial, newK hH [1, 2] [] (by kernel_rfl) (by kernel_rfl) (by kernel_rfl) (by kernel_rfl)⟩
    · have hm := condF hb2 hm
      have hb2p := of_decide_eq_false hb2
      refine wp_skipE (by kernel_rfl) ?_
      refine then_n ?_
      refine wp_seqE (by kernel_rfl) ?_
      refine wp_seqE (by kernel_rfl) ?_
      refine wp_regE (by kernel_rfl) ?_
      refine seg [.p] [1, 2, 7, 26] (fun K => K [⟨1, none, sl x1.length gx1⟩, ⟨2, none, .pointer (some ⟨g1, 0, none⟩)⟩, ⟨7, none, .int .i64 (max 1 (w64 (Int.tdiv (w64 ((w64 ((x1.length : Int) + 112)) - 1)) 112)))⟩, ⟨26, none, sl x1.length gx1⟩] [.box g1 27 (cTBlock ({ x0 with Extension := 0, Text := [] }) (gu none 0))]) (fun K => by kernel_rfl) hF hH ?_
      clear hF hH; intro a w hF hH
      obtain ⟨r2, hx2, hm⟩ := bnd_some hm
      refine callE (d := 27) (c_bytes_IndexByte N x1 gx1 143 r2 hx2) [.v (.n 1)] [] (by kernel_rfl) trivial (.inl rfl) (by kernel_rfl) (by kernel_rfl) (by kernel_rfl) (by kernel_rfl) hF hH ?_
      clear hF hH; rintro ⟨⟩ - a w hF hH
      refine seg [.p] [1, 2, 7, 28] (fun K => K [⟨1, none, sl x1.length gx1⟩, ⟨2, none, .pointer (some ⟨g1, 0, none⟩)⟩, ⟨7, none, .int .i64 (max 1 (w64 (Int.tdiv (w64 ((w64 ((x1.length : Int) + 112)) - 1)) 112)))⟩, ⟨28, none, .bool (decide (0 ≤ r2))⟩] [.box g1 27 (cTBlock ({ x0 with Extension := 0, Text := [] }) (gu none 0))]) (fun K => by kernel_rfl) hF hH ?_
      clear hF hH; intro a w hF hH
      refine wl_end (by kernel_rfl) ?_
      refine then_n ?_
      refine wp_condE (b := decide (0 ≤ r2)) (by kernel_rfl) (by kernel_rfl) hF (fun hb3 => ?_) (fun hb3 => ?_)
      · have hm := condT hb3 hm
        have hb3p := of_decide_eq_true hb3
        refine wp_seqE (by kernel_rfl) ?_
        refine wp_regE (by kernel_rfl) ?_
        refine seg [.p, .p] [4, 5] (fun K => K [⟨4, none, sl 0 (⟨none, 0, fun _ => (gu none 0)⟩ : Gs (Gs Unit))⟩, ⟨5, none, .int .i64 4⟩] [.box g1 27 (cTBlock ({ x0 with Extension := 0, Text := [] }) (gu none 0))]) (fun K => by kernel_rfl) hF hH ?_
        clear hF hH; intro a w hF hH
        refine wl_end (by kernel_rfl) ?_
        refine then_n ?_
        refine wp_retE (by kernel_rfl) ?_
        refine then_ret ?_
        have hH := hH.nilRw 27 eTBlock (⟨none, 0, fun _ => (gu none 0)⟩ : Gs (Gs Unit)) rfl rfl
        have hH := hH.nilFmR eTBlock (⟨none, 0, fun _ => (gu none 0)⟩ : Gs (Gs Unit)) nTBlock_0
        have hH := hH.freeze (k := 1) rfl (imp_rv (by simp)) rfl
        refine retE (vs := [sl 0 (⟨none, 0, fun _ => (gu none 0)⟩ : Gs (Gs Unit)), .int .i64 4]) (p := True) (v := .tuple #[sl 0 (⟨none, 0, fun _ => (gu none 0)⟩ : Gs (Gs Unit)), .int .i64 4]) [] (by kernel_rfl) trivial (by kernel_rfl) hF hH ?_
        obtain rfl := Option.some.inj hm
        exact ⟨(⟨none, 0, fun _ => (gu none 0)⟩ : Gs (Gs Unit)), by kernel_rfl, hH.below, trivial, newK hH [1, 2] [] (by kernel_rfl) (by kernel_rfl) (by kernel_rfl) (by kernel_rfl)⟩
      · have hm := condF hb3 hm
        have hb3p := of_decide_eq_false hb3
        refine wp_skipE (by kernel_rfl) ?_
        refine then_n ?_
        refine wp_seqE (by kernel_rfl) ?_
        refine wp_regE (by kernel_rfl) ?_
        refine seg [.p] [1, 2, 7, 8] (fun K => K [⟨1, none, sl x1.length gx1⟩, ⟨2, none, .pointer (some ⟨g1, 0, none⟩)⟩, ⟨7, none, .int .i64 (max 1 (w64 (Int.tdiv (w64 ((w64 ((x1.length : Int) + 112)) - 1)) 112)))⟩, ⟨8, none, sl 0 (⟨none, 0, fun _ => (gu none 0)⟩ : Gs (Gs Unit))⟩] [.box g1 27 (cTBlock ({ x0 with Extension := 0, Text := [] }) (gu none 0))]) (fun K => by kernel_rfl) hF hH ?_
        clear hF hH; intro a w hF hH
        refine wl_end (by kernel_rfl) ?_
        refine then_n ?_
        refine wp_seqE (by kernel_rfl) ?_
        refine wp_seqE (by kernel_rfl) ?_
        refine wp_regE (by kernel_rfl) ?_
        refine seg [.p, .p] [1, 2, 7, 8, 29, 30] (fun K => K [⟨1, none, sl x1.length gx1⟩, ⟨2, none, .pointer (some ⟨g1, 0, none⟩)⟩, ⟨7, none, .int .i64 (max 1 (w64 (Int.tdiv (w64 ((w64 ((x1.length : Int) + 112)) - 1)) 112)))⟩, ⟨8, none, sl 0 (⟨none, 0, fun _ => (gu none 0)⟩ : Gs (Gs Unit))⟩, ⟨29, none, .int .i64 (max 1 (w64 (Int.tdiv (w64 ((w64 ((x1.length : Int) + 112)) - 1)) 112)))⟩, ⟨30, none, .int .i64 0⟩] [.box g1 27 (cTBlock ({ x0 with Extension := 0, Text := [] }) (gu none 0))]) (fun K => by kernel_rfl) hF hH ?_
        clear hF hH; intro a w hF hH
        refine wl_end (by kernel_rfl) ?_
        refine then_n ?_
        obtain ⟨jk1, hjk1, hm⟩ := jn_some hm
        refine wp_blockJ (id := 0) (by kernel_rfl) (fun a w => ∃ (v1 : List TBlock), ∃ (s1 : Gs (Gs Unit)), jk1 v1 = some r ∧ Fr 60 [⟨8, none, sl v1.length s1⟩] a ∧ Hp w0 B M [vw elB x0.Text.length x0.Text gx0, vw elB x1.length x1 gx1, vw elB 0 [] (gu none 0)] [rw 27 eTBlock v1.length v1 s1, fm eTBlock v1.length v1 s1 nTBlock_0] w) ?_ ?_
        · skip
          have hH := hH.nilRw 27 eTBlock (⟨none, 0, fun _ => (gu none 0)⟩ : Gs (Gs Unit)) rfl rfl
          have hH := hH.nilFmR eTBlock (⟨none, 0, fun _ => (gu none 0)⟩ : Gs (Gs Unit)) nTBlock_0
          refine wp_loopE (by kernel_rfl) (fun msr a w => ∃ (v2 : List TBlock), ∃ (v3 : Int), ∃ (s2 : Gs (Gs Unit)), tape_Split_L12 N x0 x1 jk1 msr v2 v3 = some r ∧ Fr 60 [⟨1, none, sl x1.length gx1⟩, ⟨2, none, .pointer (some ⟨g1, 0, none⟩)⟩, ⟨7, none, .int .i64 (max 1 (w64 (Int.tdiv (w64 ((w64 ((x1.length : Int) + 112)) - 1)) 112)))⟩, ⟨8, none, sl v2.length s2⟩, ⟨29, none, .int .i64 (max 1 (w64 (Int.tdiv (w64 ((w64 ((x1.length : Int) + 112)) - 1)) 112)))⟩, ⟨30, none, .int .i64 v3⟩] a ∧ Hp w0 B M [vw elB x0.Text.length x0.Text gx0, vw elB x1.length x1 gx1, vw elB 0 [] (gu none 0)] [.box g1 27 (cTBlock ({ x0 with Extension := 0, Text := [] }) (gu none 0)), rw 27 eTBlock v2.length v2 s2, fm eTBlock v2.length v2 s2 nTBlock_0] w) N ⟨[], 0, (⟨none, 0, fun _ => (gu none 0)⟩ : Gs (Gs Unit)), hm, frK hF [1, 2, 7, 8, 29, 30] (by kernel_rfl), hpKN hH [0, 1, 2] [0, 1, 2] (by kernel_rfl) (by kernel_rfl) (by kernel_rfl)⟩ ?_
          clear hF hH hm; rintro msr a w ⟨v2, v3, s2, hm, hF, hH⟩
          rcases msr with _ | msr
          · exact absurd hm (by simp [tape_Split_L12])
          rw [tape_Split_L12] at hm
          refine wp_seqE (by kernel_rfl) ?_
          refine wp_regE (by kernel_rfl) ?_
          refine seg [.p] [1, 2, 7, 8, 29, 30, 31] (fun K => K [⟨1, none, sl x1.length gx1⟩, ⟨2, none, .pointer (some ⟨g1, 0, none⟩)⟩, ⟨7, none, .int .i64 (max 1 (w64 (Int.tdiv (w64 ((w64 ((x1.length : Int) + 112)) - 1)) 112)))⟩, ⟨8, none, sl v2.length s2⟩, ⟨29, none, .int .i64 (max 1 (w64 (Int.tdiv (w64 ((w64 ((x1.length : Int) + 112)) - 1)) 112)))⟩, ⟨30, none, .int .i64 v3⟩, ⟨31, none, .bool (decide (v3 < (max 1 (w64 (Int.tdiv (w64 ((w64 ((x1.length : Int) + 112)) - 1)) 112)))))⟩] [.box g1 27 (cTBlock ({ x0 with Extension := 0, Text := [] }) (gu none 0)), rw 27 eTBlock v2.length v2 s2, fm eTBlock v2.length v2 s2 nTBlock_0]) (fun K => by kernel_rfl) hF hH ?_
          clear hF hH; intro a w hF hH
          refine wl_end (by kernel_rfl) ?_
          refine then_n ?_
          refine wp_seqE (by kernel_rfl) ?_
          refine wp_condE (b := decide (v3 < (max 1 (w64 (Int.tdiv (w64 ((w64 ((x1.length : Int) + 112)) - 1)) 112))))) (by kernel_rfl) (by kernel_rfl) hF (fun hb4 => ?_) (fun hb4 => ?_)
          · have hm := condT hb4 hm
            have hb4p := of_decide_eq_true hb4
            refine wp_skipE (by kernel_rfl) ?_
            refine then_n ?_
            refine wp_seqE (by kernel_rfl) ?_
            refine wp_blockE (id := 1) (by kernel_rfl) ?_
            refine wp_seqE (by kernel_rfl) ?_
            refine wp_regE (by kernel_rfl) ?_
            refine seg [.p, .p] [1, 2, 7, 8, 29, 30, 9] (fun K => K [⟨1, none, sl x1.length gx1⟩, ⟨2, none, .pointer (some ⟨g1, 0, none⟩)⟩, ⟨7, none, .int .i64 (max 1 (w64 (Int.tdiv (w64 ((w64 ((x1.length : Int) + 112)) - 1)) 112)))⟩, ⟨8, none, sl v2.length s2⟩, ⟨29, none, .int .i64 (max 1 (w64 (Int.tdiv (w64 ((w64 ((x1.length : Int) + 112)) - 1)) 112)))⟩, ⟨30, none, .int .i64 v3⟩, ⟨9, none, .int .i64 v3⟩] [.box g1 27 (cTBlock ({ x0 with Extension := 0, Text := [] }) (gu none 0)), rw 27 eTBlock v2.length v2 s2, fm eTBlock v2.length v2 s2 nTBlock_0]) (fun K => by kernel_rfl) hF hH ?_
            clear hF hH; intro a w hF hH
            refine wl_end (by kernel_rfl) ?_
            refine then_n ?_
            refine wp_seqE (by kernel_rfl) ?_
            refine wp_regE (by kernel_rfl) ?_
            refine seg [.ld (.r 0), .al, .st 3] [1, 2, 7, 8, 29, 30, 9, 10] (fun K => (((g1 : Nat) = g1) ∧ ((none : Option Nat) = none)) ∧ ∀ g2, ((g2 : Nat) = g2 ∧ (none : Option Nat) = none) ∧ K [⟨1, none, sl x1.length gx1⟩, ⟨2, none, .pointer (some ⟨g1, 0, none⟩)⟩, ⟨7, none, .int .i64 (max 1 (w64 (Int.tdiv (w64 ((w64 ((x1.length : Int) + 112)) - 1)) 112)))⟩, ⟨8, none, sl v2.length s2⟩, ⟨29, none, .int .i64 (max 1 (w64 (Int.tdiv (w64 ((w64 ((x1.length : Int) + 112)) - 1)) 112)))⟩, ⟨30, none, .int .i64 v3⟩, ⟨9, none, .int .i64 v3⟩, ⟨10, none, .pointer (some ⟨g2, 0, none⟩)⟩] [.box g1 27 (cTBlock ({ x0 with Extension := 0, Text := [] }) (gu none 0)), rw 27 eTBlock v2.length v2 s2, fm eTBlock v2.length v2 s2 nTBlock_0, .box g2 27 (cTBlock ({ x0 with Extension := 0, Text := [] }) (gu none 0))]) (fun K => by kernel_rfl) hF hH ?_
            refine ⟨⟨rfl, rfl⟩, ?_⟩
            intro g2
            refine ⟨⟨rfl, rfl⟩, ?_⟩
            clear hF hH; intro a w hF hH
            refine wl_end (by kernel_rfl) ?_
            refine then_n ?_
            refine wp_seqE (by kernel_rfl) ?_
            refine wp_regE (by kernel_rfl) ?_
            refine seg [.p, .pv (.int .u8 ((b8 v3).toNat : Int)), .p, .st 3] [1, 2, 7, 8, 29, 30, 9, 10] (fun K => (Value.int .u8 (IntKind.wrap .u8 v3) = .int .u8 ((b8 v3).toNat : Int)) ∧ ((g2 : Nat) = g2 ∧ (none : Option Nat) = none) ∧ K [⟨1, none, sl x1.length gx1⟩, ⟨2, none, .pointer (some ⟨g1, 0, none⟩)⟩, ⟨7, none, .int .i64 (max 1 (w64 (Int.tdiv (w64 ((w64 ((x1.length : Int) + 112)) - 1)) 112)))⟩, ⟨8, none, sl v2.length s2⟩, ⟨29, none, .int .i64 (max 1 (w64 (Int.tdiv (w64 ((w64 ((x1.length : Int) + 112)) - 1)) 112)))⟩, ⟨30, none, .int .i64 v3⟩, ⟨9, none, .int .i64 v3⟩, ⟨10, none, .pointer (some ⟨g2, 0, none⟩)⟩] [.box g1 27 (cTBlock ({ x0 with Extension := 0, Text := [] }) (gu none 0)), rw 27 eTBlock v2.length v2 s2, fm eTBlock v2.length v2 s2 nTBlock_0, .box g2 27 (cTBlock ({ x0 with Extension := b8 v3, Text := [] }) (gu none 0))]) (fun K => by kernel_rfl) hF hH ?_
            refine ⟨wr_b8 _, ?_⟩
            refine ⟨⟨rfl, rfl⟩, ?_⟩
            clear hF hH; intro a w hF hH
            refine wl_end (by kernel_rfl) ?_
            refine then_n ?_
            obtain ⟨jk2, hjk2, hm⟩ := jn_some hm
            refine wp_seqJ (by kernel_rfl) (fun a w => ∃ (v4 : UInt8), jk2 v4 = some r ∧ Fr 60 [⟨1, none, sl x1.length gx1⟩, ⟨2, none, .pointer (some ⟨g1, 0, none⟩)⟩, ⟨7, none, .int .i64 (max 1 (w64 (Int.tdiv (w64 ((w64 ((x1.length : Int) + 112)) - 1)) 112)))⟩, ⟨8, none, sl v2.length s2⟩, ⟨9, none, .int .i64 v3⟩, ⟨10, none, .pointer (some ⟨g2, 0, none⟩)⟩, ⟨29, none, .int .i64 (max 1 (w64 (Int.tdiv (w64 ((w64 ((x1.length : Int) + 112)) - 1)) 112)))⟩, ⟨30, none, .int .i64 v3⟩] a ∧ Hp w0 B M [vw elB x0.Text.length x0.Text gx0, vw elB x1.length x1 gx1, vw elB 0 [] (gu none 0)] [.box g2 27 (cTBlock ({ x0 with Extension := v4, Text := [] }) (gu none 0)), .box g1 27 (cTBlock ({ x0 with Extension := 0, Text := [] }) (gu none 0)), rw 27 eTBlock v2.length v2 s2, fm eTBlock v2.length v2 s2 nTBlock_0] w) ?_ ?_
            · skip
              refine wp_seqE (by kernel_rfl) ?_
              refine wp_regE (by kernel_rfl) ?_
              refine seg [.p, .p, .p, .p] [1, 2, 7, 8, 29, 30, 9, 10, 40] (fun K => K [⟨1, none, sl x1.length gx1⟩, ⟨2, none, .pointer (some ⟨g1, 0, none⟩)⟩, ⟨7, none, .int .i64 (max 1 (w64 (Int.tdiv (w64 ((w64 ((x1.length : Int) + 112)) - 1)) 112)))⟩, ⟨8, none, sl v2.length s2⟩, ⟨29, none, .int .i64 (max 1 (w64 (Int.tdiv (w64 ((w64 ((x1.length : Int) + 112)) - 1)) 112)))⟩, ⟨30, none, .int .i64 v3⟩, ⟨9, none, .int .i64 v3⟩, ⟨10, none, .pointer (some ⟨g2, 0, none⟩)⟩, ⟨40, none, .bool (v3 == (w64 ((max 1 (w64 (Int.tdiv (w64 ((w64 ((x1.length : Int) + 112)) - 1)) 112))) - 1)))⟩] [.box g1 27 (cTBlock ({ x0 with Extension := 0, Text := [] }) (gu none 0)), rw 27 eTBlock v2.length v2 s2, fm eTBlock v2.length v2 s2 nTBlock_0, .box g2 27 (cTBlock ({ x0 with Extension := b8 v3, Text := [] }) (gu none 0))]) (fun K => by kernel_rfl) hF hH ?_
              clear hF hH; intro a w hF hH
              refine wl_end (by kernel_rfl) ?_
              refine then_n ?_
              refine wp_condE (b := v3 == (w64 ((max 1 (w64 (Int.tdiv (w64 ((w64 ((x1.length : Int) + 112)) - 1)) 112))) - 1))) (by kernel_rfl) (by kernel_rfl) hF (fun hb5 => ?_) (fun hb5 => ?_)
              · have hm := condT hb5 hm
                have hb5p := eq_of_beq hb5
                refine wp_regE (by kernel_rfl) ?_
                refine seg [.p, .st 3] [1, 2, 7, 8, 29, 30, 9, 10] (fun K => ((g2 : Nat) = g2 ∧ (none : Option Nat) = none) ∧ K [⟨1, none, sl x1.length gx1⟩, ⟨2, none, .pointer (some ⟨g1, 0, none⟩)⟩, ⟨7, none, .int .i64 (max 1 (w64 (Int.tdiv (w64 ((w64 ((x1.length : Int) + 112)) - 1)) 112)))⟩, ⟨8, none, sl v2.length s2⟩, ⟨29, none, .int .i64 (max 1 (w64 (Int.tdiv (w64 ((w64 ((x1.length : Int) + 112)) - 1)) 112)))⟩, ⟨30, none, .int .i64 v3⟩, ⟨9, none, .int .i64 v3⟩, ⟨10, none, .pointer (some ⟨g2, 0, none⟩)⟩] [.box g1 27 (cTBlock ({ x0 with Extension := 0, Text := [] }) (gu none 0)), rw 27 eTBlock v2.length v2 s2, fm eTBlock v2.length v2 s2 nTBlock_0, .box g2 27 (cTBlock ({ x0 with Extension := 255, Text := [] }) (gu none 0))]) (fun K => by kernel_rfl) hF hH ?_
                refine ⟨⟨rfl, rfl⟩, ?_⟩
                clear hF hH; intro a w hF hH
                refine wl_end (by kernel_rfl) ?_
                refine then_n ?_
                exact ⟨255, hm, frK hF [1, 2, 7, 8, 9, 10, 29, 30] (by kernel_rfl), hpKN hH [0, 1, 2] [3, 0, 1, 2] (by kernel_rfl) (by kernel_rfl) (by kernel_rfl)⟩
              · have hm := condF hb5 hm
                have hb5p := ne_of_beq_false hb5
                refine wp_skipE (by kernel_rfl) ?_
                refine then_n ?_
                exact ⟨b8 v3, hm, frK hF [1, 2, 7, 8, 9, 10, 29, 30] (by kernel_rfl), hpKN hH [0, 1, 2] [3, 0, 1, 2] (by kernel_rfl) (by kernel_rfl) (by kernel_rfl)⟩
            · clear hF hH hm; rintro a w ⟨v4, hm, hF, hH⟩
              rw [hjk2] at hm
              refine wp_seqE (by kernel_rfl) ?_
              refine wp_regE (by kernel_rfl) ?_
              obtain ⟨hp1, hm⟩ := grd_some hm
              refine seg [.p, .p, .p, .p, .p, .p, .p, .p, .pv (.int .i64 (min (x1.length : Int) (w64 ((w64 (v3 + 1)) * 112)))), .as (.sl ((w64 (v3 * 112)).toNat) ((min (x1.length : Int) (w64 ((w64 (v3 + 1)) * 112))).toNat)) (sl (((x1.take ((min (x1.length : Int) (w64 ((w64 (v3 + 1)) * 112))).toNat)).drop ((w64 (v3 * 112)).toNat)).length) (cutS gx1 ((w64 (v3 * 112)).toNat) 1))] [1, 2, 7, 8, 10, 29, 30, 51] (fun K => (Value.int .i64 (if w64 ((w64 (v3 + 1)) * 112) < (x1.length : Int) then w64 ((w64 (v3 + 1)) * 112) else (x1.length : Int)) = .int .i64 (min (x1.length : Int) (w64 ((w64 (v3 + 1)) * 112)))) ∧ ((((w64 (v3 * 112) : Int) = (((w64 (v3 * 112)).toNat : Nat) : Int)) ∧ ((min (x1.length : Int) (w64 ((w64 (v3 + 1)) * 112)) : Int) = (((min (x1.length : Int) (w64 ((w64 (v3 + 1)) * 112))).toNat : Nat) : Int)) ∧ ((w64 (v3 * 112)).toNat ≤ (min (x1.length : Int) (w64 ((w64 (v3 + 1)) * 112))).toNat) ∧ ((min (x1.length : Int) (w64 ((w64 (v3 + 1)) * 112))).toNat ≤ gx1.c)) ∧ (Value.slice (if gx1.c = (w64 (v3 * 112)).toNat then gx1.a else gx1.a.map (·.add (((w64 (v3 * 112)).toNat) * 1))) (((min (x1.length : Int) (w64 ((w64 (v3 + 1)) * 112))).toNat) - ((w64 (v3 * 112)).toNat)) (gx1.c - ((w64 (v3 * 112)).toNat)) = sl (((x1.take ((min (x1.length : Int) (w64 ((w64 (v3 + 1)) * 112))).toNat)).drop ((w64 (v3 * 112)).toNat)).length) (cutS gx1 ((w64 (v3 * 112)).toNat) 1))) ∧ K [⟨1, none, sl x1.length gx1⟩, ⟨2, none, .pointer (some ⟨g1, 0, none⟩)⟩, ⟨7, none, .int .i64 (max 1 (w64 (Int.tdiv (w64 ((w64 ((x1.length : Int) + 112)) - 1)) 112)))⟩, ⟨8, none, sl v2.length s2⟩, ⟨10, none, .pointer (some ⟨g2, 0, none⟩)⟩, ⟨29, none, .int .i64 (max 1 (w64 (Int.tdiv (w64 ((w64 ((x1.length : Int) + 112)) - 1)) 112)))⟩, ⟨30, none, .int .i64 v3⟩, ⟨51, none, sl (((x1.take ((min (x1.length : Int) (w64 ((w64 (v3 + 1)) * 112))).toNat)).drop ((w64 (v3 * 112)).toNat)).length) (cutS gx1 ((w64 (v3 * 112)).toNat) 1)⟩] [.box g2 27 (cTBlock ({ x0 with Extension := v4, Text := [] }) (gu none 0)), .box g1 27 (cTBlock ({ x0 with Extension := 0, Text := [] }) (gu none 0)), rw 27 eTBlock v2.length v2 s2, fm eTBlock v2.length v2 s2 nTBlock_0]) (fun K => by kernel_rfl) hF hH ?_
              refine ⟨minE _ _, ?_⟩
              refine ⟨⟨⟨by omega, by omega, by omega, by have := vw_cap hH (.n 1) rfl; omega⟩, sl_cut (by simp only [List.length_drop, List.length_take]; omega)⟩, ?_⟩
              clear hF hH; intro a w hF hH
              have hH := hH.lookN (k := 1) rfl (imp_cutL (lo := ((w64 (v3 * 112)).toNat)) (hi := ((min (x1.length : Int) (w64 ((w64 (v3 + 1)) * 112))).toNat)) (by first | rfl | simp) (by omega) (by omega))
              obtain ⟨r3, hx3, hm⟩ := bnd_some hm
              refine callE (d := 52) (c_bytes_Clone N ((x1.take ((min (x1.length : Int) (w64 ((w64 (v3 + 1)) * 112))).toNat)).drop ((w64 (v3 * 112)).toNat)) (cutS gx1 ((w64 (v3 * 112)).toNat) 1) r3 hx3) [.v (.n 3)] [] (by kernel_rfl) trivial (.inl rfl) (by kernel_rfl) (by kernel_rfl) (by kernel_rfl) (by kernel_rfl) hF hH ?_
              clear hF hH; rintro s3 - a w hF hH
              refine seg [.p, .st 0] [1, 2, 7, 8, 10, 29, 30] (fun K => ((g2 : Nat) = g2 ∧ (none : Option Nat) = none) ∧ K [⟨1, none, sl x1.length gx1⟩, ⟨2, none, .pointer (some ⟨g1, 0, none⟩)⟩, ⟨7, none, .int .i64 (max 1 (w64 (Int.tdiv (w64 ((w64 ((x1.length : Int) + 112)) - 1)) 112)))⟩, ⟨8, none, sl v2.length s2⟩, ⟨10, none, .pointer (some ⟨g2, 0, none⟩)⟩, ⟨29, none, .int .i64 (max 1 (w64 (Int.tdiv (w64 ((w64 ((x1.length : Int) + 112)) - 1)) 112)))⟩, ⟨30, none, .int .i64 v3⟩] [.box g2 27 (cTBlock ({ x0 with Extension := v4, Text := r3 }) s3), .box g1 27 (cTBlock ({ x0 with Extension := 0, Text := [] }) (gu none 0)), rw 27 eTBlock v2.length v2 s2, fm eTBlock v2.length v2 s2 nTBlock_0, rw 5 elB r3.length r3 s3]) (fun K => by kernel_rfl) hF hH ?_
              refine ⟨⟨rfl, rfl⟩, ?_⟩
              clear hF hH; intro a w hF hH
              refine wl_end (by kernel_rfl) ?_
              refine then_n ?_
              refine wp_regE (by kernel_rfl) ?_
              obtain ⟨hp2, hm⟩ := grd_some hm
              refine seg [.p, .ld (.r 0), .bs, .ap 2 (.r 5) (rowC eTBlock [{ x0 with Extension := v4, Text := r3 }] (fun _ => s3)) ((v2 ++ [{ x0 with Extension := v4, Text := r3 }]).length) (rowC eTBlock (v2 ++ [{ x0 with Extension := v4, Text := r3 }]) (glue v2.length s2.g (fun _ => s3)))] [1, 2, 7, 8, 29, 30, 57] (fun K => (((g2 : Nat) = g2) ∧ ((none : Option Nat) = none)) ∧ ∀ g3, (((s2.a : Option Addr) = s2.a) ∧ ((s2.c : Nat) = s2.c) ∧ ((v2.length : Nat) = v2.length) ∧ srcP (.box g3 27 (cTBlock ({ x0 with Extension := v4, Text := r3 }) s3)) (⟨some ⟨g3, 0, none⟩, 1, fun _ => s3⟩ : Gs (Gs Unit)).a 1 18 (rowC eTBlock [{ x0 with Extension := v4, Text := r3 }] (fun _ => s3)) ∧ (∀ u ∈ (rowC eTBlock [{ x0 with Extension := v4, Text := r3 }] (fun _ => s3) : List Value), u.oneCell' = true) ∧ (v2.length + 1 ≤ maxLen) ∧ ((v2.length + 1) * 144 ≤ 140737488355328) ∧ (v2.length + 1 = (v2 ++ [{ x0 with Extension := v4, Text := r3 }]).length) ∧ (rowC eTBlock v2 s2.g ++ rowC eTBlock [{ x0 with Extension := v4, Text := r3 }] (fun _ => s3) = rowC eTBlock (v2 ++ [{ x0 with Extension := v4, Text := r3 }]) (glue v2.length s2.g (fun _ => s3)))) ∧ ∀ A1 c1, K [⟨1, none, sl x1.length gx1⟩, ⟨2, none, .pointer (some ⟨g1, 0, none⟩)⟩, ⟨7, none, .int .i64 (max 1 (w64 (Int.tdiv (w64 ((w64 ((x1.length : Int) + 112)) - 1)) 112)))⟩, ⟨8, none, sl v2.length s2⟩, ⟨29, none, .int .i64 (max 1 (w64 (Int.tdiv (w64 ((w64 ((x1.length : Int) + 112)) - 1)) 112)))⟩, ⟨30, none, .int .i64 v3⟩, ⟨57, none, sl ((v2 ++ [{ x0 with Extension := v4, Text := r3 }]).length) (⟨A1, c1, glue v2.length s2.g (fun _ => s3)⟩ : Gs (Gs Unit))⟩] [.box g2 27 (cTBlock ({ x0 with Extension := v4, Text := r3 }) s3), .box g1 27 (cTBlock ({ x0 with Extension := 0, Text := [] }) (gu none 0)), rw 27 eTBlock ((v2 ++ [{ x0 with Extension := v4, Text := r3 }]).length) (v2 ++ [{ x0 with Extension := v4, Text := r3 }]) (⟨A1, c1, glue v2.length s2.g (fun _ => s3)⟩ : Gs (Gs Unit)), fm eTBlock v2.length v2 s2 nTBlock_0, rw 5 elB r3.length r3 s3, .box g3 27 (cTBlock ({ x0 with Extension := v4, Text := r3 }) s3)]) (fun K => by kernel_rfl) hF hH ?_
              refine ⟨⟨rfl, rfl⟩, ?_⟩
              intro g3
              refine ⟨⟨rfl, rfl, rfl, ⟨rfl, rfl, rfl⟩, rowC_one _ _ _, by (unfold maxLen; omega), by omega, by first | rfl | omega | (simp only [List.length_append, List.length_cons, List.length_nil] <;> omega), (rowC_appN _ (by first | rfl | simp)).symm⟩, ?_⟩
              intro A1 c1
              clear hF hH; intro a w hF hH
              have hH := hH.freeze (k := 4) rfl (imp_rv (rfl)) rfl
              have hH := hH.fmPushR (k := 3) (j := 4) (m := (v2 ++ [{ x0 with Extension := v4, Text := r3 }]).length) (x := { x0 with Extension := v4, Text := r3 }) (s' := (⟨A1, c1, glue v2.length s2.g (fun _ => s3)⟩ : Gs (Gs Unit))) rfl rfl ⟨rfl, rfl⟩ (by first | rfl | simp) (by first | rfl | simp) (fun _ hi => if_pos hi) (if_neg (Nat.lt_irrefl _)) rfl
              refine seg [.p] [1, 2, 7, 29, 30, 8] (fun K => K [⟨1, none, sl x1.length gx1⟩, ⟨2, none, .pointer (some ⟨g1, 0, none⟩)⟩, ⟨7, none, .int .i64 (max 1 (w64 (Int.tdiv (w64 ((w64 ((x1.length : Int) + 112)) - 1)) 112)))⟩, ⟨29, none, .int .i64 (max 1 (w64 (Int.tdiv (w64 ((w64 ((x1.length : Int) + 112)) - 1)) 112)))⟩, ⟨30, none, .int .i64 v3⟩, ⟨8, none, sl ((v2 ++ [{ x0 with Extension := v4, Text := r3 }]).length) (⟨A1, c1, glue v2.length s2.g (fun _ => s3)⟩ : Gs (Gs Unit))⟩] [.box g2 27 (cTBlock ({ x0 with Extension := v4, Text := r3 }) s3), .box g1 27 (cTBlock ({ x0 with Extension := 0, Text := [] }) (gu none 0)), rw 27 eTBlock ((v2 ++ [{ x0 with Extension := v4, Text := r3 }]).length) (v2 ++ [{ x0 with Extension := v4, Text := r3 }]) (⟨A1, c1, glue v2.length s2.g (fun _ => s3)⟩ : Gs (Gs Unit)), fm eTBlock ((v2 ++ [{ x0 with Extension := v4, Text := r3 }]).length) (v2 ++ [{ x0 with Extension := v4, Text := r3 }]) (⟨A1, c1, glue v2.length s2.g (fun _ => s3)⟩ : Gs (Gs Unit)) nTBlock_0, vw elB r3.length r3 s3, .box g3 27 (cTBlock ({ x0 with Extension := v4, Text := r3 }) s3)]) (fun K => by kernel_rfl) hF hH ?_
              clear hF hH; intro a w hF hH
              refine wl_end (by kernel_rfl) ?_
              refine block_n ?_
              refine then_n ?_
              refine wp_regE (by kernel_rfl) ?_
              refine seg [.p, .p] [1, 2, 7, 29, 8, 30] (fun K => K [⟨1, none, sl x1.length gx1⟩, ⟨2, none, .pointer (some ⟨g1, 0, none⟩)⟩, ⟨7, none, .int .i64 (max 1 (w64 (Int.tdiv (w64 ((w64 ((x1.length : Int) + 112)) - 1)) 112)))⟩, ⟨29, none, .int .i64 (max 1 (w64 (Int.tdiv (w64 ((w64 ((x1.length : Int) + 112)) - 1)) 112)))⟩, ⟨8, none, sl ((v2 ++ [{ x0 with Extension := v4, Text := r3 }]).length) (⟨A1, c1, glue v2.length s2.g (fun _ => s3)⟩ : Gs (Gs Unit))⟩, ⟨30, none, .int .i64 (w64 (v3 + 1))⟩] [.box g2 27 (cTBlock ({ x0 with Extension := v4, Text := r3 }) s3), .box g1 27 (cTBlock ({ x0 with Extension := 0, Text := [] }) (gu none 0)), rw 27 eTBlock ((v2 ++ [{ x0 with Extension := v4, Text := r3 }]).length) (v2 ++ [{ x0 with Extension := v4, Text := r3 }]) (⟨A1, c1, glue v2.length s2.g (fun _ => s3)⟩ : Gs (Gs Unit)), fm eTBlock ((v2 ++ [{ x0 with Extension := v4, Text := r3 }]).length) (v2 ++ [{ x0 with Extension := v4, Text := r3 }]) (⟨A1, c1, glue v2.length s2.g (fun _ => s3)⟩ : Gs (Gs Unit)) nTBlock_0, vw elB r3.length r3 s3, .box g3 27 (cTBlock ({ x0 with Extension := v4, Text := r3 }) s3)]) (fun K => by kernel_rfl) hF hH ?_
              clear hF hH; intro a w hF hH
              refine wl_end (by kernel_rfl) ?_
              refine then_n ?_
              exact ⟨msr, Nat.lt_succ_self _, v2 ++ [{ x0 with Extension := v4, Text := r3 }], w64 (v3 + 1), (⟨A1, c1, glue v2.length s2.g (fun _ => s3)⟩ : Gs (Gs Unit)), hm, frK hF [1, 2, 7, 8, 29, 30] (by kernel_rfl), hpKN hH [0, 1, 2] [1, 2, 3] (by kernel_rfl) (by kernel_rfl) (by kernel_rfl)⟩
          · have hm := condF hb4 hm
            have hb4p := of_decide_eq_false hb4
            refine wp_exitE (id := 0) (by kernel_rfl) ?_
            refine then_exit ?_
            refine then_exit ?_
            refine block_exit ?_
            refine then_n ?_
            exact ⟨v2, s2, hm, frK hF [8] (by kernel_rfl), hpKN hH [0, 1, 2] [1, 2] (by kernel_rfl) (by kernel_rfl) (by kernel_rfl)⟩
        · clear hF hH hm; rintro a w ⟨v1, s1, hm, hF, hH⟩
          rw [hjk1] at hm
          refine then_n ?_
          refine wp_seqE (by kernel_rfl) ?_
          refine wp_regE (by kernel_rfl) ?_
          refine seg [.p, .p, .p] [4, 5] (fun K => K [⟨4, none, sl v1.length s1⟩, ⟨5, none, .int .i64 0⟩] [rw 27 eTBlock v1.length v1 s1, fm eTBlock v1.length v1 s1 nTBlock_0]) (fun K => by kernel_rfl) hF hH ?_
          clear hF hH; intro a w hF hH
          refine wl_end (by kernel_rfl) ?_
          refine then_n ?_
          refine wp_retE (by kernel_rfl) ?_
          have hH := hH.freeze (k := 0) rfl (imp_rv (rfl)) rfl
          refine retE (vs := [sl v1.length s1, .int .i64 0]) (p := True) (v := .tuple #[sl v1.length s1, .int .i64 0]) [] (by kernel_rfl) trivial (by kernel_rfl) hF hH ?_
          obtain rfl := Option.some.inj hm
          exact ⟨s1, by kernel_rfl, hH.below, trivial, newK hH [0, 1] [] (by kernel_rfl) (by kernel_rfl) (by kernel_rfl) (by kernel_rfl)⟩

theorem c_l23_awake (N : Nat)  (r : Bool) (hm : l23_awake N = some r) : CallOk Try.prog 8 [] [] [] (U := Unit) (fun _ => .bool r) (fun _ => []) (fun _ => []) (fun _ => True) := by
  unfold l23_awake at hm
  refine callI (N := 78) Try.func8 (by kernel_rfl) (by kernel_rfl) (by kernel_rfl) ?_
  intro w0 B M a hF hH
  refine wp_seqE (by kernel_rfl) ?_
  refine wp_regE (by kernel_rfl) ?_
  refine seg [.p] [] (fun K => K [] []) (fun K => by kernel_rfl) hF hH ?_
  clear hF hH; intro a w hF hH
  refine wl_end (by kernel_rfl) ?_
  refine then_n ?_
  refine wp_seqE (by kernel_rfl) ?_
  refine wp_regE (by kernel_rfl) ?_
  obtain ⟨r1, hx1, hm⟩ := bnd_some hm
  refine callE (d := 5) (c_l23_example N r1 hx1) [] [] (by kernel_rfl) trivial (.inl rfl) (by kernel_rfl) (by kernel_rfl) (by kernel_rfl) (by kernel_rfl) hF hH ?_
  clear hF hH; rintro s1 - a w hF hH
  obtain ⟨r2, hx2, hm⟩ := bnd_some hm
  refine callE (d := 6) (c_tape_Put N r1 s1 r2 hx2) [.v (.r 0)] [] (by kernel_rfl) trivial (.inl rfl) (by kernel_rfl) (by kernel_rfl) (by kernel_rfl) (by kernel_rfl) hF hH ?_
  clear hF hH; rintro s2 - a w hF hH
  refine seg [.p, .p, .p, .p, .p] [1, 2] (fun K => K [⟨1, none, sl r2.1.length s2⟩, ⟨2, none, .int .i64 r2.2⟩] [vw elB r1.Text.length r1.Text s1, rw 5 elB r2.1.length r2.1 s2]) (fun K => by kernel_rfl) hF hH ?_
  clear hF hH; intro a w hF hH
  refine wl_end (by kernel_rfl) ?_
  refine then_n ?_
  refine wp_seqE (by kernel_rfl) ?_
  refine wp_seqE (by kernel_rfl) ?_
  refine wp_regE (by kernel_rfl) ?_
  refine seg [.p, .p, .p, .p, .p, .p, .pk, .p] [1, 16] (fun K => K [⟨1, none, sl r2.1.length s2⟩, ⟨16, none, .bool ((r2.2 != 0) || ((r2.1.length : Int) != 128))⟩] [vw elB r1.Text.length r1.Text s1, rw 5 elB r2.1.length r2.1 s2]) (fun K => by kernel_rfl) hF hH ?_
  clear hF hH; intro a w hF hH
  rcases Bool.eq_false_or_eq_true ((r2.2 != 0) || ((r2.1.length : Int) != 128)) with hx3 | hx3
  · have hm := condT hx3 hm
    rw [hx3] at hF
    refine seg [.sk, .sk, .sk, .sk, .sk, .p, .p, .sk, .sk, .sk, .sk, .p, .p, .sk, .sk, .sk, .sk, .p] [34] (fun K => (true = !false) ∧ (true = !false) ∧ (true = !false) ∧ (true = !false) ∧ (true = !false) ∧ (true = !false) ∧ (true = !false) ∧ (true = !false) ∧ (true = !false) ∧ (true = !false) ∧ (true = !false) ∧ (true = !false) ∧ (true = !false) ∧ K [⟨34, none, .bool true⟩] [vw elB r1.Text.length r1.Text s1, rw 5 elB r2.1.length r2.1 s2]) (fun K => by kernel_rfl) hF hH ?_
    refine ⟨rfl, ?_⟩
    refine ⟨rfl, ?_⟩
    refine ⟨rfl, ?_⟩
    refine ⟨rfl, ?_⟩
    refine ⟨rfl, ?_⟩
    refine ⟨rfl, ?_⟩
    refine ⟨rfl, ?_⟩
    refine ⟨rfl, ?_⟩
    refine ⟨rfl, ?_⟩
    refine ⟨rfl, ?_⟩
    refine ⟨rfl, ?_⟩
    refine ⟨rfl, ?_⟩
    refine ⟨rfl, ?_⟩
    clear hF hH; intro a w hF hH
    refine wl_end (by kernel_rfl) ?_
    refine then_n ?_
    refine wp_condE (b := true) (by kernel_rfl) (by kernel_rfl) hF (fun _ => ?_) (fun h => by cases h)
    refine wp_seqE (by kernel_rfl) ?_
    refine wp_regE (by kernel_rfl) ?_
    refine seg [.p] [0] (fun K => K [⟨0, none, .bool false⟩] [vw elB r1.Text.length r1.Text s1, rw 5 elB r2.1.length r2.1 s2]) (fun K => by kernel_rfl) hF hH ?_
    clear hF hH; intro a w hF hH
    refine wl_end (by kernel_rfl) ?_
    refine then_n ?_
    refine wp_retE (by kernel_rfl) ?_
    refine then_ret ?_
    refine retE (vs := [.bool false]) (p := True) (v := .bool false) [] (by kernel_rfl) trivial (by kernel_rfl) hF hH ?_
    obtain rfl := Option.some.inj hm
    exact ⟨(), by kernel_rfl, hH.below, trivial, newK hH [] [] (by kernel_rfl) (by kernel_rfl) (by kernel_rfl) (by kernel_rfl)⟩
  · have hm := condF hx3 hm
    rw [hx3] at hF
    refine seg [.gt (.p)] [1, 16, 17] (fun K => (false = false) ∧ K [⟨1, none, sl r2.1.length s2⟩, ⟨16, none, .bool false⟩, ⟨17, none, sl r2.1.length s2⟩] [vw elB r1.Text.length r1.Text s1, rw 5 elB r2.1.length r2.1 s2]) (fun K => by kernel_rfl) hF hH ?_
    refine ⟨rfl, ?_⟩
    clear hF hH; intro a w hF hH
    have hH := hH.freeze (k := 1) rfl (imp_rv (rfl)) rfl
    obtain ⟨hp1, hm⟩ := grd_some hm
    refine seg [.gt (.as (.sh 17) (sl ((r2.1.take 17).length) s2)), .ge (.bs)] [1, 16, 18, 19] (fun K => (false = false) ∧ ((((17 : Int) = ((17 : Nat) : Int)) ∧ (17 ≤ s2.c)) ∧ (Value.slice s2.a 17 s2.c = sl ((r2.1.take 17).length) s2)) ∧ (false = false) ∧ ∀ g1, K [⟨1, none, sl r2.1.length s2⟩, ⟨16, none, .bool false⟩, ⟨18, none, sl ((r2.1.take 17).length) s2⟩, ⟨19, none, sl 17 (gu (some ⟨g1, 0, none⟩) 17)⟩] [vw elB r1.Text.length r1.Text s1, vw elB r2.1.length r2.1 s2, .box g1 5 [.int .u8 0, .int .u8 2, .int .u8 1, .int .u8 255, .int .u8 0, .int .u8 1, .int .u8 2, .int .u8 3, .int .u8 4, .int .u8 1, .int .u8 2, .int .u8 5, .int .u8 0, .int .u8 13, .int .u8 2, .int .u8 0, .int .u8 65]]) (fun K => by kernel_rfl) hF hH ?_
    refine ⟨rfl, ?_⟩
    refine ⟨⟨⟨by omega, by have := vw_cap hH (.r 1) rfl; omega⟩, sl_head (by simp only [List.length_take]; omega)⟩, ?_⟩
    refine ⟨rfl, ?_⟩
    intro g1
    clear hF hH; intro a w hF hH
    have hH := hH.lookR (k := 1) rfl rfl rfl (imp_headL (hi := 17) (by first | rfl | simp) (by omega))
    have hH := hH.boxRw (n := 17) (k := 2) (e := elB) (xs := [0, 2, 1, 255, 0, 1, 2, 3, 4, 1, 2, 5, 0, 13, 2, 0, 65]) (s := (gu (some ⟨g1, 0, none⟩) 17)) rfl (by kernel_rfl) rfl rfl rfl (by unfold maxLen; omega)
    obtain ⟨r3, hx4, hm⟩ := bnd_some hm
    refine callE (d := 20) (b := true) (p := (((∀ w, Res.ok w (rw 5 elB 17 [0, 2, 1, 255, 0, 1, 2, 3, 4, 1, 2, 5, 0, 13, 2, 0, 65] (gu (some ⟨g1, 0, none⟩) 17)) → Res.ok w (vw elB 17 [0, 2, 1, 255, 0, 1, 2, 3, 4, 1, 2, 5, 0, 13, 2, 0, 65] (gu (some ⟨g1, 0, none⟩) 17))) ∧ ∀ b, (vw elB 17 [0, 2, 1, 255, 0, 1, 2, 3, 4, 1, 2, 5, 0, 13, 2, 0, 65] (gu (some ⟨g1, 0, none⟩) 17)).fp b → (rw 5 elB 17 [0, 2, 1, 255, 0, 1, 2, 3, 4, 1, 2, 5, 0, 13, 2, 0, 65] (gu (some ⟨g1, 0, none⟩) 17)).fp b) ∧ True)) (c_slices_Equal_Lbyte N (r2.1.take 17) s2 [0, 2, 1, 255, 0, 1, 2, 3, 4, 1, 2, 5, 0, 13, 2, 0, 65] (gu (some ⟨g1, 0, none⟩) 17) r3 hx4) [.v (.r 3), .b 2 (vw elB 17 [0, 2, 1, 255, 0, 1, 2, 3, 4, 1, 2, 5, 0, 13, 2, 0, 65] (gu (some ⟨g1, 0, none⟩) 17))] [] (by kernel_rfl) ⟨⟨(imp_rv (by simp)).ok, (imp_rv (by simp)).fp⟩, trivial⟩ (.inr fun _ => rfl) (by kernel_rfl) (by kernel_rfl) (by kernel_rfl) (by kernel_rfl) hF hH ?_
    clear hF hH; rintro ⟨⟩ - a w hF hH
    obtain ⟨hp2, hm⟩ := grd_some hm
    obtain ⟨hp3, hm⟩ := grd_some hm
    refine seg [.gt (.p), .p, .p, .p, .ia (.r 1) 17, .lv (.r 1) 17 0, .p, .pk, .p, .p, .ia (.r 1) 127, .lv (.r 1) 127 0, .p, .pk] [34] (fun K => (false = false) ∧ ((!r3) = false → (((s2.a : Option Addr) = s2.a) ∧ ((r2.1.length : Nat) = r2.1.length) ∧ ((1 : Nat) = 1) ∧ ((17 : Int) = ((17 : Nat) : Int)) ∧ (17 < r2.1.length))) ∧ ((!r3) = false → (((s2.a.getD nilA).add (17 * 1) = ((s2.a.getD nilA).add (17 * 1)).add 0) ∧ (17 < r2.1.length))) ∧ (((!r3) || (((r2.1.getD 17 0).toNat : Int) != 143)) = false → (((s2.a : Option Addr) = s2.a) ∧ ((r2.1.length : Nat) = r2.1.length) ∧ ((1 : Nat) = 1) ∧ ((127 : Int) = ((127 : Nat) : Int)) ∧ (127 < r2.1.length))) ∧ (((!r3) || (((r2.1.getD 17 0).toNat : Int) != 143)) = false → (((s2.a.getD nilA).add (127 * 1) = ((s2.a.getD nilA).add (127 * 1)).add 0) ∧ (127 < r2.1.length))) ∧ K [⟨34, none, .bool (((!r3) || (((r2.1.getD 17 0).toNat : Int) != 143)) || (((r2.1.getD 127 0).toNat : Int) != 143))⟩] [vw elB r1.Text.length r1.Text s1, vw elB r2.1.length r2.1 s2, rw 5 elB 17 [0, 2, 1, 255, 0, 1, 2, 3, 4, 1, 2, 5, 0, 13, 2, 0, 65] (gu (some ⟨g1, 0, none⟩) 17), vw elB ((r2.1.take 17).length) (r2.1.take 17) s2]) (fun K => by kernel_rfl) hF hH ?_
    refine ⟨rfl, ?_⟩
    refine ⟨(fun q0 => by have := hp2 q0; exact ⟨rfl, rfl, rfl, by omega, by omega⟩), ?_⟩
    refine ⟨(fun q0 => by have := hp2 q0; exact ⟨rfl, by omega⟩), ?_⟩
    refine ⟨(fun q0 => by have := hp3 q0; exact ⟨rfl, rfl, rfl, by omega, by omega⟩), ?_⟩
    refine ⟨(fun q0 => by have := hp3 q0; exact ⟨rfl, by omega⟩), ?_⟩
    clear hF hH; intro a w hF hH
    refine wl_end (by kernel_rfl) ?_
    refine then_n ?_
    refine wp_condE (b := ((!r3) || (((r2.1.getD 17 0).toNat : Int) != 143)) || (((r2.1.getD 127 0).toNat : Int) != 143)) (by kernel_rfl) (by kernel_rfl) hF (fun hb1 => ?_) (fun hb1 => ?_)
    · have hm := condT hb1 hm
      refine wp_seqE (by kernel_rfl) ?_
      refine wp_regE (by kernel_rfl) ?_
      refine seg [.p] [0] (fun K => K [⟨0, none, .bool false⟩] [vw elB r1.Text.length r1.Text s1, vw elB r2.1.length r2.1 s2, rw 5 elB 17 [0, 2, 1, 255, 0, 1, 2, 3, 4, 1, 2, 5, 0, 13, 2, 0, 65] (gu (some ⟨g1, 0, none⟩) 17), vw elB ((r2.1.take 17).length) (r2.1.take 17) s2]) (fun K => by kernel_rfl) hF hH ?_
      clear hF hH; intro a w hF hH
      refine wl_end (by kernel_rfl) ?_
      refine then_n ?_
      refine wp_retE (by kernel_rfl) ?_
      refine then_ret ?_
      refine retE (vs := [.bool false]) (p := True) (v := .bool false) [] (by kernel_rfl) trivial (by kernel_rfl) hF hH ?_
      obtain rfl := Option.some.inj hm
      exact ⟨(), by kernel_rfl, hH.below, trivial, newK hH [] [] (by kernel_rfl) (by kernel_rfl) (by kernel_rfl) (by kernel_rfl)⟩
    · have hm := condF hb1 hm
      refine wp_skipE (by kernel_rfl) ?_
      refine then_n ?_
      refine wp_seqE (by kernel_rfl) ?_
      obtain ⟨r4, hx5, hm⟩ := bnd_some hm
      obtain ⟨r5, hx6, hm⟩ := bnd_some hm
      refine drawE (n := 8) (by kernel_rfl) (by kernel_rfl) (by kernel_rfl) (by kernel_rfl) [0, 1, 3] [2, 3] (.eff [(0, .cl (U := Gs Unit) [] (fun u => ag (cTBlock r4 u)) (fun u => [vw elB r4.Text.length r4.Text u]) (fun _ => []) (fun _ => True)), (1, .mk 113 113 (rowC elB (List.replicate 113 0) (fun _ => ())))] (fun i => (bif Nat.beq i 0 then .eff [(1, .mk 113 113 (rowC elB (List.replicate 113 0) (fun _ => ())))] (fun _ => .eff [(2, .cl (U := Gs (Gs Unit)) [.v (.r 4), .w 5 (fun i => elB.cel ((List.replicate 113 0).getD i elB.d) ())] (fun u => .tuple #[sl r5.1.length u, .int .i64 r5.2]) (fun u => [vw eTBlock r5.1.length r5.1 u, fm eTBlock r5.1.length r5.1 u nTBlock_0]) (fun _ => []) (fun _ => True))] (fun _ => .take 3 (.p) (.take 4 (.p) (.take 5 (.p) (.take 6 (.p) (.take 7 (.p) ((.done [0, 1, 2, 3, 4, 5, 6, 7])))))))) else .eff [(0, .cl (U := Gs Unit) [] (fun u => ag (cTBlock r4 u)) (fun u => [vw elB r4.Text.length r4.Text u]) (fun _ => []) (fun _ => True))] (fun _ => .eff [(2, .cl (U := Gs (Gs Unit)) [.v (.r 5), .w 4 (fun i => elB.cel ((List.replicate 113 0).getD i elB.d) ())] (fun u => .tuple #[sl r5.1.length u, .int .i64 r5.2]) (fun u => [vw eTBlock r5.1.length r5.1 u, fm eTBlock r5.1.length r5.1 u nTBlock_0]) (fun _ => []) (fun _ => True))] (fun _ => .take 3 (.p) (.take 4 (.p) (.take 5 (.p) (.take 6 (.p) (.take 7 (.p) ((.done [0, 1, 2, 3, 5, 4, 6, 7]))))))))))) (fun l rs => ∃ (u1 : Gs Unit), ∃ (g3 : Nat), ∃ (u2 : Gs (Gs Unit)), l = [⟨2, none, .int .i64 r5.2⟩, ⟨3, none, sl r5.1.length u2⟩] ∧ rs = [vw elB r1.Text.length r1.Text s1, vw elB r2.1.length r2.1 s2, rw 5 elB 17 [0, 2, 1, 255, 0, 1, 2, 3, 4, 1, 2, 5, 0, 13, 2, 0, 65] (gu (some ⟨g1, 0, none⟩) 17), vw elB ((r2.1.take 17).length) (r2.1.take 17) s2, vw elB r4.Text.length r4.Text u1, rw 5 elB 113 (List.replicate 113 0) (gu (some ⟨g3, 0, none⟩) 113), vw eTBlock r5.1.length r5.1 u2, fm eTBlock r5.1.length r5.1 u2 nTBlock_0]) (fun K => ((True ∧ ((false : Bool) = false ∨ ∀ u, (fun _ => [] : Gs Unit → List Res) u = []) ∧ CallOk Try.prog 23 [] [] [] (U := Gs Unit) (fun u => ag (cTBlock r4 u)) (fun u => [vw elB r4.Text.length r4.Text u]) (fun _ => []) (fun _ => True)) ∧ ∀ u1 : Gs Unit, (fun (_ : Gs Unit) => True) u1 → (([vw elB r1.Text.length r1.Text s1, vw elB r2.1.length r2.1 s2, vw elB ((r2.1.take 17).length) (r2.1.take 17) s2] : List Res) = [vw elB r1.Text.length r1.Text s1, vw elB r2.1.length r2.1 s2, vw elB ((r2.1.take 17).length) (r2.1.take 17) s2]) ∧ ((((113 : Int) = ((113 : Nat) : Int)) ∧ ((113 : Int) = ((113 : Nat) : Int)) ∧ (113 ≤ 113) ∧ (113 * 1 ≤ 281474976710656) ∧ (113 ≤ maxLen) ∧ (List.replicate 113 (.int .u8 0) = rowC elB (List.replicate 113 0) (fun _ => ()))) ∧ ∀ g3, (([vw elB r1.Text.length r1.Text s1, vw elB r2.1.length r2.1 s2, vw elB ((r2.1.take 17).length) (r2.1.take 17) s2] : List Res) = [vw elB r1.Text.length r1.Text s1, vw elB r2.1.length r2.1 s2, vw elB ((r2.1.take 17).length) (r2.1.take 17) s2]) ∧ (((((∀ w, Res.ok w (rw 5 elB 113 (List.replicate 113 0) (gu (some ⟨g3, 0, none⟩) 113)) → Res.ok w (vw elB 113 (List.replicate 113 0) (gu (some ⟨g3, 0, none⟩) 113))) ∧ ∀ b, (vw elB 113 (List.replicate 113 0) (gu (some ⟨g3, 0, none⟩) 113)).fp b → (rw 5 elB 113 (List.replicate 113 0) (gu (some ⟨g3, 0, none⟩) 113)).fp b) ∧ True) ∧ ((true : Bool) = false ∨ ∀ u, (fun _ => [] : Gs (Gs Unit) → List Res) u = []) ∧ CallOk Try.prog 10 [ag (cTBlock r4 u1), sl 113 (gu (some ⟨g3, 0, none⟩) 113)] [vw elB r4.Text.length r4.Text u1, vw elB 113 (List.replicate 113 0) (gu (some ⟨g3, 0, none⟩) 113)] [] (U := Gs (Gs Unit)) (fun u => .tuple #[sl r5.1.length u, .int .i64 r5.2]) (fun u => [vw eTBlock r5.1.length r5.1 u, fm eTBlock r5.1.length r5.1 u nTBlock_0]) (fun _ => []) (fun _ => True)) ∧ ∀ u2 : Gs (Gs Unit), (fun (_ : Gs (Gs Unit)) => True) u2 → (([vw elB r1.Text.length r1.Text s1, vw elB r2.1.length r2.1 s2, vw elB ((r2.1.take 17).length) (r2.1.take 17) s2] : List Res) = [vw elB r1.Text.length r1.Text s1, vw elB r2.1.length r2.1 s2, vw elB ((r2.1.take 17).length) (r2.1.take 17) s2]) ∧ K [⟨2, none, .int .i64 r5.2⟩, ⟨3, none, sl r5.1.length u2⟩] [vw elB r1.Text.length r1.Text s1, vw elB r2.1.length r2.1 s2, rw 5 elB 17 [0, 2, 1, 255, 0, 1, 2, 3, 4, 1, 2, 5, 0, 13, 2, 0, 65] (gu (some ⟨g1, 0, none⟩) 17), vw elB ((r2.1.take 17).length) (r2.1.take 17) s2, vw elB r4.Text.length r4.Text u1, rw 5 elB 113 (List.replicate 113 0) (gu (some ⟨g3, 0, none⟩) 113), vw eTBlock r5.1.length r5.1 u2, fm eTBlock r5.1.length r5.1 u2 nTBlock_0]))) ∧ ((((113 : Int) = ((113 : Nat) : Int)) ∧ ((113 : Int) = ((113 : Nat) : Int)) ∧ (113 ≤ 113) ∧ (113 * 1 ≤ 281474976710656) ∧ (113 ≤ maxLen) ∧ (List.replicate 113 (.int .u8 0) = rowC elB (List.replicate 113 0) (fun _ => ()))) ∧ ∀ g4, (([vw elB r1.Text.length r1.Text s1, vw elB r2.1.length r2.1 s2, vw elB ((r2.1.take 17).length) (r2.1.take 17) s2] : List Res) = [vw elB r1.Text.length r1.Text s1, vw elB r2.1.length r2.1 s2, vw elB ((r2.1.take 17).length) (r2.1.take 17) s2]) ∧ ((True ∧ ((false : Bool) = false ∨ ∀ u, (fun _ => [] : Gs Unit → List Res) u = []) ∧ CallOk Try.prog 23 [] [] [] (U := Gs Unit) (fun u => ag (cTBlock r4 u)) (fun u => [vw elB r4.Text.length r4.Text u]) (fun _ => []) (fun _ => True)) ∧ ∀ u3 : Gs Unit, (fun (_ : Gs Unit) => True) u3 → (([vw elB r1.Text.length r1.Text s1, vw elB r2.1.length r2.1 s2, vw elB ((r2.1.take 17).length) (r2.1.take 17) s2] : List Res) = [vw elB r1.Text.length r1.Text s1, vw elB r2.1.length r2.1 s2, vw elB ((r2.1.take 17).length) (r2.1.take 17) s2]) ∧ (((((∀ w, Res.ok w (rw 5 elB 113 (List.replicate 113 0) (gu (some ⟨g4, 0, none⟩) 113)) → Res.ok w (vw elB 113 (List.replicate 113 0) (gu (some ⟨g4, 0, none⟩) 113))) ∧ ∀ b, (vw elB 113 (List.replicate 113 0) (gu (some ⟨g4, 0, none⟩) 113)).fp b → (rw 5 elB 113 (List.replicate 113 0) (gu (some ⟨g4, 0, none⟩) 113)).fp b) ∧ True) ∧ ((true : Bool) = false ∨ ∀ u, (fun _ => [] : Gs (Gs Unit) → List Res) u = []) ∧ CallOk Try.prog 10 [ag (cTBlock r4 u3), sl 113 (gu (some ⟨g4, 0, none⟩) 113)] [vw elB r4.Text.length r4.Text u3, vw elB 113 (List.replicate 113 0) (gu (some ⟨g4, 0, none⟩) 113)] [] (U := Gs (Gs Unit)) (fun u => .tuple #[sl r5.1.length u, .int .i64 r5.2]) (fun u => [vw eTBlock r5.1.length r5.1 u, fm eTBlock r5.1.length r5.1 u nTBlock_0]) (fun _ => []) (fun _ => True)) ∧ ∀ u4 : Gs (Gs Unit), (fun (_ : Gs (Gs Unit)) => True) u4 → (([vw elB r1.Text.length r1.Text s1, vw elB r2.1.length r2.1 s2, vw elB ((r2.1.take 17).length) (r2.1.take 17) s2] : List Res) = [vw elB r1.Text.length r1.Text s1, vw elB r2.1.length r2.1 s2, vw elB ((r2.1.take 17).length) (r2.1.take 17) s2]) ∧ K [⟨2, none, .int .i64 r5.2⟩, ⟨3, none, sl r5.1.length u4⟩] [vw elB r1.Text.length r1.Text s1, vw elB r2.1.length r2.1 s2, rw 5 elB 17 [0, 2, 1, 255, 0, 1, 2, 3, 4, 1, 2, 5, 0, 13, 2, 0, 65] (gu (some ⟨g1, 0, none⟩) 17), vw elB ((r2.1.take 17).length) (r2.1.take 17) s2, vw elB r4.Text.length r4.Text u3, rw 5 elB 113 (List.replicate 113 0) (gu (some ⟨g4, 0, none⟩) 113), vw eTBlock r5.1.length r5.1 u4, fm eTBlock r5.1.length r5.1 u4 nTBlock_0])))) (fun K => by kernel_rfl) hF hH (⟨(⟨⟨trivial, .inl rfl, c_l23_example N r4 hx5⟩, (by rintro u1 -; exact ⟨rfl, (⟨⟨by omega, by omega, by omega, by omega, by (unfold maxLen; omega), rowC_rep _ rfl _ _ (fun _ => rfl)⟩, fun g3 => ⟨rfl, (⟨⟨⟨⟨(imp_rv (by simp)).ok, (imp_rv (by simp)).fp⟩, trivial⟩, .inr fun _ => rfl, c_tape_Split N r4 u1 (List.replicate 113 0) (gu (some ⟨g3, 0, none⟩) 113) r5 hx6⟩, (by rintro u2 -; exact ⟨rfl, ⟨u1, g3, u2, rfl, rfl⟩⟩)⟩)⟩⟩)⟩)⟩), (⟨⟨by omega, by omega, by omega, by omega, by (unfold maxLen; omega), rowC_rep _ rfl _ _ (fun _ => rfl)⟩, fun g4 => ⟨rfl, (⟨⟨trivial, .inl rfl, c_l23_example N r4 hx5⟩, (by rintro u3 -; exact ⟨rfl, (⟨⟨⟨⟨(imp_rv (by simp)).ok, (imp_rv (by simp)).fp⟩, trivial⟩, .inr fun _ => rfl, c_tape_Split N r4 u3 (List.replicate 113 0) (gu (some ⟨g4, 0, none⟩) 113) r5 hx6⟩, (by rintro u4 -; exact ⟨rfl, ⟨u3, g4, u4, rfl, rfl⟩⟩)⟩)⟩)⟩)⟩⟩)⟩) ?_
      clear hF hH; rintro l rs a w ⟨u1, g3, u2, rfl, rfl⟩ hF hH
      refine then_n ?_
      refine wp_seqE (by kernel_rfl) ?_
      refine wp_regE (by kernel_rfl) ?_
      obtain ⟨hp4, hm⟩ := grd_some hm
      obtain ⟨hp5, hm⟩ := grd_some hm
      obtain ⟨hp6, hm⟩ := grd_some hm
      obtain ⟨hp7, hm⟩ := grd_some hm
      refine seg [.p, .p, .p, .p, .p, .p, .pk, .p, .p, .ia (.r 6) 0, .p, .lv (.r 6) 0 2, .p, .pk, .p, .p, .ia (.r 6) 1, .p, .lv (.r 6) 1 2, .p, .pk, .p, .p, .ia (.r 6) 0, .p, .lv (.r 6) 0 17, .p, .p, .pk, .p, .p, .ia (.r 6) 1, .p, .lv (.r 6) 1 17, .p, .p, .pk, .p] [0] (fun K => (((r5.2 == 0) && ((r5.1.length : Int) == 2)) = true → (((u2.a : Option Addr) = u2.a) ∧ ((r5.1.length : Nat) = r5.1.length) ∧ ((18 : Nat) = 18) ∧ ((0 : Int) = ((0 : Nat) : Int)) ∧ (0 < r5.1.length))) ∧ (((r5.2 == 0) && ((r5.1.length : Int) == 2)) = true → ((((u2.a.getD nilA).add (0 * 18)).add 2 = ((u2.a.getD nilA).add (0 * 18)).add 2) ∧ (0 < r5.1.length))) ∧ ((((r5.2 == 0) && ((r5.1.length : Int) == 2)) && ((((r5.1.getD 0 TBlock.z).Extension).toNat : Int) == 0)) = true → (((u2.a : Option Addr) = u2.a) ∧ ((r5.1.length : Nat) = r5.1.length) ∧ ((18 : Nat) = 18) ∧ ((1 : Int) = ((1 : Nat) : Int)) ∧ (1 < r5.1.length))) ∧ ((((r5.2 == 0) && ((r5.1.length : Int) == 2)) && ((((r5.1.getD 0 TBlock.z).Extension).toNat : Int) == 0)) = true → ((((u2.a.getD nilA).add (1 * 18)).add 2 = ((u2.a.getD nilA).add (1 * 18)).add 2) ∧ (1 < r5.1.length))) ∧ (((((r5.2 == 0) && ((r5.1.length : Int) == 2)) && ((((r5.1.getD 0 TBlock.z).Extension).toNat : Int) == 0)) && ((((r5.1.getD 1 TBlock.z).Extension).toNat : Int) == 255)) = true → (((u2.a : Option Addr) = u2.a) ∧ ((r5.1.length : Nat) = r5.1.length) ∧ ((18 : Nat) = 18) ∧ ((0 : Int) = ((0 : Nat) : Int)) ∧ (0 < r5.1.length))) ∧ (((((r5.2 == 0) && ((r5.1.length : Int) == 2)) && ((((r5.1.getD 0 TBlock.z).Extension).toNat : Int) == 0)) && ((((r5.1.getD 1 TBlock.z).Extension).toNat : Int) == 255)) = true → ((((u2.a.getD nilA).add (0 * 18)).add 17 = ((u2.a.getD nilA).add (0 * 18)).add 17) ∧ (0 < r5.1.length))) ∧ ((((((r5.2 == 0) && ((r5.1.length : Int) == 2)) && ((((r5.1.getD 0 TBlock.z).Extension).toNat : Int) == 0)) && ((((r5.1.getD 1 TBlock.z).Extension).toNat : Int) == 255)) && ((((r5.1.getD 0 TBlock.z).Text).length : Int) == 112)) = true → (((u2.a : Option Addr) = u2.a) ∧ ((r5.1.length : Nat) = r5.1.length) ∧ ((18 : Nat) = 18) ∧ ((1 : Int) = ((1 : Nat) : Int)) ∧ (1 < r5.1.length))) ∧ ((((((r5.2 == 0) && ((r5.1.length : Int) == 2)) && ((((r5.1.getD 0 TBlock.z).Extension).toNat : Int) == 0)) && ((((r5.1.getD 1 TBlock.z).Extension).toNat : Int) == 255)) && ((((r5.1.getD 0 TBlock.z).Text).length : Int) == 112)) = true → ((((u2.a.getD nilA).add (1 * 18)).add 17 = ((u2.a.getD nilA).add (1 * 18)).add 17) ∧ (1 < r5.1.length))) ∧ K [⟨0, none, .bool ((((((r5.2 == 0) && ((r5.1.length : Int) == 2)) && ((((r5.1.getD 0 TBlock.z).Extension).toNat : Int) == 0)) && ((((r5.1.getD 1 TBlock.z).Extension).toNat : Int) == 255)) && ((((r5.1.getD 0 TBlock.z).Text).length : Int) == 112)) && ((((r5.1.getD 1 TBlock.z).Text).length : Int) == 1))⟩] [vw elB r1.Text.length r1.Text s1, vw elB r2.1.length r2.1 s2, rw 5 elB 17 [0, 2, 1, 255, 0, 1, 2, 3, 4, 1, 2, 5, 0, 13, 2, 0, 65] (gu (some ⟨g1, 0, none⟩) 17), vw elB ((r2.1.take 17).length) (r2.1.take 17) s2, vw elB r4.Text.length r4.Text u1, rw 5 elB 113 (List.replicate 113 0) (gu (some ⟨g3, 0, none⟩) 113), vw eTBlock r5.1.length r5.1 u2, fm eTBlock r5.1.length r5.1 u2 nTBlock_0]) (fun K => by kernel_rfl) hF hH ?_
      refine ⟨(fun q0 => by have := hp4 q0; exact ⟨rfl, rfl, rfl, by omega, by omega⟩), ?_⟩
      refine ⟨(fun q0 => by have := hp4 q0; exact ⟨rfl, by omega⟩), ?_⟩
      refine ⟨(fun q0 => by have := hp5 q0; exact ⟨rfl, rfl, rfl, by omega, by omega⟩), ?_⟩
      refine ⟨(fun q0 => by have := hp5 q0; exact ⟨rfl, by omega⟩), ?_⟩
      refine ⟨(fun q0 => by have := hp6 q0; exact ⟨rfl, rfl, rfl, by omega, by omega⟩), ?_⟩
      refine ⟨(fun q0 => by have := hp6 q0; exact ⟨rfl, by omega⟩), ?_⟩
      refine ⟨(fun q0 => by have := hp7 q0; exact ⟨rfl, rfl, rfl, by omega, by omega⟩), ?_⟩
      refine ⟨(fun q0 => by have := hp7 q0; exact ⟨rfl, by omega⟩), ?_⟩
      clear hF hH; intro a w hF hH
      refine wl_end (by kernel_rfl) ?_
      refine then_n ?_
      refine wp_retE (by kernel_rfl) ?_
      refine retE (vs := [.bool ((((((r5.2 == 0) && ((r5.1.length : Int) == 2)) && ((((r5.1.getD 0 TBlock.z).Extension).toNat : Int) == 0)) && ((((r5.1.getD 1 TBlock.z).Extension).toNat : Int) == 255)) && ((((r5.1.getD 0 TBlock.z).Text).length : Int) == 112)) && ((((r5.1.getD 1 TBlock.z).Text).length : Int) == 1))]) (p := True) (v := .bool ((((((r5.2 == 0) && ((r5.1.length : Int) == 2)) && ((((r5.1.getD 0 TBlock.z).Extension).toNat : Int) == 0)) && ((((r5.1.getD 1 TBlock.z).Extension).toNat : Int) == 255)) && ((((r5.1.getD 0 TBlock.z).Text).length : Int) == 112)) && ((((r5.1.getD 1 TBlock.z).Text).length : Int) == 1))) [] (by kernel_rfl) trivial (by kernel_rfl) hF hH ?_
      obtain rfl := Option.some.inj hm
      exact ⟨(), by kernel_rfl, hH.below, trivial, newK hH [] [] (by kernel_rfl) (by kernel_rfl) (by kernel_rfl) (by kernel_rfl)⟩

theorem c_r23_within (N : Nat) (x0 : Int) (x1 : Int) (x2 : Int) (r : Bool) (hm : r23_within N x0 x1 x2 = some r) : CallOk Try.prog 39 [.int .i64 x0, .int .i64 x1, .int .i64 x2] [] [] (U := Unit) (fun _ => .bool r) (fun _ => []) (fun _ => []) (fun _ => True) := by
  unfold r23_within at hm
  refine callI (N := 15) Try.func39 (by kernel_rfl) (by kernel_rfl) (by kernel_rfl) ?_
  intro w0 B M a hF hH
  refine wp_seqE (by kernel_rfl) ?_
  refine wp_regE (by kernel_rfl) ?_
  refine seg [.p] [0, 1, 2] (fun K => K [⟨0, none, .int .i64 x0⟩, ⟨1, none, .int .i64 x1⟩, ⟨2, none, .int .i64 x2⟩] []) (fun K => by kernel_rfl) hF hH ?_
  clear hF hH; intro a w hF hH
  refine wl_end (by kernel_rfl) ?_
  refine then_n ?_
  refine wp_seqE (by kernel_rfl) ?_
  refine wp_regE (by kernel_rfl) ?_
  refine seg [.p, .p, .p, .p, .p, .p, .p, .pk, .p] [6] (fun K => K [⟨6, none, .bool ((decide (x1 ≤ x0)) && (decide (x0 ≤ x2)))⟩] []) (fun K => by kernel_rfl) hF hH ?_
  clear hF hH; intro a w hF hH
  refine wl_end (by kernel_rfl) ?_
  refine then_n ?_
  refine wp_retE (by kernel_rfl) ?_
  refine retE (vs := [.bool ((decide (x1 ≤ x0)) && (decide (x0 ≤ x2)))]) (p := True) (v := .bool ((decide (x1 ≤ x0)) && (decide (x0 ≤ x2)))) [] (by kernel_rfl) trivial (by kernel_rfl) hF hH ?_
  obtain rfl := Option.some.inj hm
  exact ⟨(), by kernel_rfl, hH.below, trivial, newK hH [] [] (by kernel_rfl) (by kernel_rfl) (by kernel_rfl) (by kernel_rfl)⟩

theorem c_r23_clock (N : Nat) (x0 : TLabel) (r : Bool) (hm : r23_clock N x0 = some r) : CallOk Try.prog 40 [ag (cTLabel x0)] [] [] (U := Unit) (fun _ => .bool r) (fun _ => []) (fun _ => []) (fun _ => True) := by
  unfold r23_clock at hm
  refine callI (N := 21) Try.func40 (by kernel_rfl) (by kernel_rfl) (by kernel_rfl) ?_
  intro w0 B M a hF hH
  refine wp_seqE (by kernel_rfl) ?_
  refine wp_regE (by kernel_rfl) ?_
  refine seg [.bx, .p] [1] (fun K => ∀ g1, K [⟨1, none, .pointer (some ⟨g1, 0, none⟩)⟩] [.box g1 23 (cTLabel x0)]) (fun K => by kernel_rfl) hF hH ?_
  intro g1
  clear hF hH; intro a w hF hH
  refine wl_end (by kernel_rfl) ?_
  refine then_n ?_
  refine wp_seqE (by kernel_rfl) ?_
  refine wp_regE (by kernel_rfl) ?_
  refine seg [.p, .ld (.r 0)] [1, 4] (fun K => (((g1 : Nat) = g1) ∧ ((none : Option Nat) = none)) ∧ K [⟨1, none, .pointer (some ⟨g1, 0, none⟩)⟩, ⟨4, none, .int .i64 x0.H⟩] [.box g1 23 (cTLabel x0)]) (fun K => by kernel_rfl) hF hH ?_
  refine ⟨⟨rfl, rfl⟩, ?_⟩
  clear hF hH; intro a w hF hH
  obtain ⟨r1, hx1, hm⟩ := bnd_some hm
  refine callE (d := 5) (c_r23_within N x0.H 0 23 r1 hx1) [] [] (by kernel_rfl) trivial (.inl rfl) (by kernel_rfl) (by kernel_rfl) (by kernel_rfl) (by kernel_rfl) hF hH ?_
  clear hF hH; rintro ⟨⟩ - a w hF hH
  refine seg [.p] [1, 6] (fun K => K [⟨1, none, .pointer (some ⟨g1, 0, none⟩)⟩, ⟨6, none, .bool r1⟩] [.box g1 23 (cTLabel x0)]) (fun K => by kernel_rfl) hF hH ?_
  clear hF hH; intro a w hF hH
  rcases Bool.eq_false_or_eq_true (r1) with hx2 | hx2
  · have hm := condT hx2 hm
    rw [hx2] at hF
    refine seg [.gt (.p), .gt (.ld (.r 0))] [1, 6, 8] (fun K => (true = true) ∧ (true = true) ∧ (((g1 : Nat) = g1) ∧ ((none : Option Nat) = none)) ∧ K [⟨1, none, .pointer (some ⟨g1, 0, none⟩)⟩, ⟨6, none, .bool true⟩, ⟨8, none, .int .i64 x0.M⟩] [.box g1 23 (cTLabel x0)]) (fun K => by kernel_rfl) hF hH ?_
    refine ⟨rfl, ?_⟩
    refine ⟨rfl, ?_⟩
    refine ⟨⟨rfl, rfl⟩, ?_⟩
    clear hF hH; intro a w hF hH
    obtain ⟨r2, hx3, hm⟩ := bnd_some hm
    refine callE (d := 9) (c_r23_within N x0.M 0 59 r2 hx3) [] [] (by kernel_rfl) trivial (.inl rfl) (by kernel_rfl) (by kernel_rfl) (by kernel_rfl) (by kernel_rfl) hF hH ?_
    clear hF hH; rintro ⟨⟩ - a w hF hH
    refine seg [.p, .p] [1, 11] (fun K => K [⟨1, none, .pointer (some ⟨g1, 0, none⟩)⟩, ⟨11, none, .bool r2⟩] [.box g1 23 (cTLabel x0)]) (fun K => by kernel_rfl) hF hH ?_
    clear hF hH; intro a w hF hH
    rcases Bool.eq_false_or_eq_true (r2) with hx4 | hx4
    · have hm := condT hx4 hm
      rw [hx4] at hF
      refine seg [.gt (.p), .gt (.ld (.r 0))] [1, 11, 13] (fun K => (true = true) ∧ (true = true) ∧ (((g1 : Nat) = g1) ∧ ((none : Option Nat) = none)) ∧ K [⟨1, none, .pointer (some ⟨g1, 0, none⟩)⟩, ⟨11, none, .bool true⟩, ⟨13, none, .int .i64 x0.S⟩] [.box g1 23 (cTLabel x0)]) (fun K => by kernel_rfl) hF hH ?_
      refine ⟨rfl, ?_⟩
      refine ⟨rfl, ?_⟩
      refine ⟨⟨rfl, rfl⟩, ?_⟩
      clear hF hH; intro a w hF hH
      obtain ⟨r3, hx5, hm⟩ := bnd_some hm
      refine callE (d := 14) (c_r23_within N x0.S 0 59 r3 hx5) [] [] (by kernel_rfl) trivial (.inl rfl) (by kernel_rfl) (by kernel_rfl) (by kernel_rfl) (by kernel_rfl) hF hH ?_
      clear hF hH; rintro ⟨⟩ - a w hF hH
      refine seg [.p, .p] [1, 16] (fun K => K [⟨1, none, .pointer (some ⟨g1, 0, none⟩)⟩, ⟨16, none, .bool r3⟩] [.box g1 23 (cTLabel x0)]) (fun K => by kernel_rfl) hF hH ?_
      clear hF hH; intro a w hF hH
      rcases Bool.eq_false_or_eq_true (r3) with hx6 | hx6
      · have hm := condT hx6 hm
        rw [hx6] at hF
        refine seg [.gt (.p), .gt (.ld (.r 0))] [16, 18] (fun K => (true = true) ∧ (true = true) ∧ (((g1 : Nat) = g1) ∧ ((none : Option Nat) = none)) ∧ K [⟨16, none, .bool true⟩, ⟨18, none, .int .i64 x0.F⟩] [.box g1 23 (cTLabel x0)]) (fun K => by kernel_rfl) hF hH ?_
        refine ⟨rfl, ?_⟩
        refine ⟨rfl, ?_⟩
        refine ⟨⟨rfl, rfl⟩, ?_⟩
        clear hF hH; intro a w hF hH
        obtain ⟨r4, hx7, hm⟩ := bnd_some hm
        refine callE (d := 19) (c_r23_within N x0.F 0 29 r4 hx7) [] [] (by kernel_rfl) trivial (.inl rfl) (by kernel_rfl) (by kernel_rfl) (by kernel_rfl) (by kernel_rfl) hF hH ?_
        clear hF hH; rintro ⟨⟩ - a w hF hH
        refine seg [.p, .p] [2] (fun K => K [⟨2, none, .bool r4⟩] [.box g1 23 (cTLabel x0)]) (fun K => by kernel_rfl) hF hH ?_
        clear hF hH; intro a w hF hH
        refine wl_end (by kernel_rfl) ?_
        refine then_n ?_
        refine wp_retE (by kernel_rfl) ?_
        refine retE (vs := [.bool r4]) (p := True) (v := .bool r4) [] (by kernel_rfl) trivial (by kernel_rfl) hF hH ?_
        obtain rfl := Option.some.inj hm
        exact ⟨(), by kernel_rfl, hH.below, trivial, newK hH [] [] (by kernel_rfl) (by kernel_rfl) (by kernel_rfl) (by kernel_rfl)⟩
      · have hm := condF hx6 hm
        rw [hx6] at hF
        refine seg [.sk, .sk, .sk, .p, .p] [2] (fun K => (false = !true) ∧ (false = !true) ∧ (false = !true) ∧ K [⟨2, none, .bool false⟩] [.box g1 23 (cTLabel x0)]) (fun K => by kernel_rfl) hF hH ?_
        refine ⟨rfl, ?_⟩
        refine ⟨rfl, ?_⟩
        refine ⟨rfl, ?_⟩
        clear hF hH; intro a w hF hH
        refine wl_end (by kernel_rfl) ?_
        refine then_n ?_
        refine wp_retE (by kernel_rfl) ?_
        refine retE (vs := [.bool false]) (p := True) (v := .bool false) [] (by kernel_rfl) trivial (by kernel_rfl) hF hH ?_
        obtain rfl := Option.some.inj hm
        exact ⟨(), by kernel_rfl, hH.below, trivial, newK hH [] [] (by kernel_rfl) (by kernel_rfl) (by kernel_rfl) (by kernel_rfl)⟩
    · have hm := condF hx4 hm
      rw [hx4] at hF
      refine seg [.sk, .sk, .sk, .p, .p, .sk, .sk, .sk, .p, .p] [2] (fun K => (false = !true) ∧ (false = !true) ∧ (false = !true) ∧ (false = !true) ∧ (false = !true) ∧ (false = !true) ∧ K [⟨2, none, .bool false⟩] [.box g1 23 (cTLabel x0)]) (fun K => by kernel_rfl) hF hH ?_
      refine ⟨rfl, ?_⟩
      refine ⟨rfl, ?_⟩
      refine ⟨rfl, ?_⟩
      refine ⟨rfl, ?_⟩
      refine ⟨rfl, ?_⟩
      refine ⟨rfl, ?_⟩
      clear hF hH; intro a w hF hH
      refine wl_end (by kernel_rfl) ?_
      refine then_n ?_
      refine wp_retE (by kernel_rfl) ?_
      refine retE (vs := [.bool false]) (p := True) (v := .bool false) [] (by kernel_rfl) trivial (by kernel_rfl) hF hH ?_
      obtain rfl := Option.some.inj hm
      exact ⟨(), by kernel_rfl, hH.below, trivial, newK hH [] [] (by kernel_rfl) (by kernel_rfl) (by kernel_rfl) (by kernel_rfl)⟩
  · have hm := condF hx2 hm
    rw [hx2] at hF
    refine seg [.sk, .sk, .sk, .p, .p, .sk, .sk, .sk, .p, .p, .sk, .sk, .sk, .p, .p] [2] (fun K => (false = !true) ∧ (false = !true) ∧ (false = !true) ∧ (false = !true) ∧ (false = !true) ∧ (false = !true) ∧ (false = !true) ∧ (false = !true) ∧ (false = !true) ∧ K [⟨2, none, .bool false⟩] [.box g1 23 (cTLabel x0)]) (fun K => by kernel_rfl) hF hH ?_
    refine ⟨rfl, ?_⟩
    refine ⟨rfl, ?_⟩
    refine ⟨rfl, ?_⟩
    refine ⟨rfl, ?_⟩
    refine ⟨rfl, ?_⟩
    refine ⟨rfl, ?_⟩
    refine ⟨rfl, ?_⟩
    refine ⟨rfl, ?_⟩
    refine ⟨rfl, ?_⟩
    clear hF hH; intro a w hF hH
    refine wl_end (by kernel_rfl) ?_
    refine then_n ?_
    refine wp_retE (by kernel_rfl) ?_
    refine retE (vs := [.bool false]) (p := True) (v := .bool false) [] (by kernel_rfl) trivial (by kernel_rfl) hF hH ?_
    obtain rfl := Option.some.inj hm
    exact ⟨(), by kernel_rfl, hH.below, trivial, newK hH [] [] (by kernel_rfl) (by kernel_rfl) (by kernel_rfl) (by kernel_rfl)⟩

theorem c_r23_filled (N : Nat) (x0 : List UInt8) (gx0 : Gs Unit) (r : Bool) (hm : r23_filled N x0 = some r) : CallOk Try.prog 27 [sl x0.length gx0] [vw elB x0.length x0 gx0] [] (U := Unit) (fun _ => .bool r) (fun _ => []) (fun _ => []) (fun _ => True) := by
  unfold r23_filled at hm
  refine callI (N := 14) Try.func27 (by kernel_rfl) (by kernel_rfl) (by kernel_rfl) ?_
  intro w0 B M a hF hH
  refine wp_seqE (by kernel_rfl) ?_
  refine wp_regE (by kernel_rfl) ?_
  refine seg [.p] [0] (fun K => K [⟨0, none, sl x0.length gx0⟩] []) (fun K => by kernel_rfl) hF hH ?_
  clear hF hH; intro a w hF hH
  refine wl_end (by kernel_rfl) ?_
  refine then_n ?_
  refine wp_seqE (by kernel_rfl) ?_
  refine wp_seqE (by kernel_rfl) ?_
  refine wp_regE (by kernel_rfl) ?_
  refine seg [.p, .p, .p] [5, 6, 7] (fun K => K [⟨5, none, sl x0.length gx0⟩, ⟨6, none, .int .i64 (x0.length : Int)⟩, ⟨7, none, .int .i64 0⟩] []) (fun K => by kernel_rfl) hF hH ?_
  clear hF hH; intro a w hF hH
  refine wl_end (by kernel_rfl) ?_
  refine then_n ?_
  obtain ⟨jk1, hjk1, hm⟩ := jn_some hm
  refine wp_blockJ (id := 0) (by kernel_rfl) (fun a w => jk1 = some r ∧ Fr 14 [] a ∧ Hp w0 B M [vw elB x0.length x0 gx0] [] w) ?_ ?_
  · skip
    refine wp_loopE (by kernel_rfl) (fun msr a w => ∃ (v1 : Int), r23_filled_L2 N x0 jk1 msr v1 = some r ∧ Fr 14 [⟨5, none, sl x0.length gx0⟩, ⟨6, none, .int .i64 (x0.length : Int)⟩, ⟨7, none, .int .i64 v1⟩] a ∧ Hp w0 B M [vw elB x0.length x0 gx0] [] w) N ⟨0, hm, frK hF [5, 6, 7] (by kernel_rfl), hpKN hH [0] [] (by kernel_rfl) (by kernel_rfl) (by kernel_rfl)⟩ ?_
    clear hF hH hm; rintro msr a w ⟨v1, hm, hF, hH⟩
    rcases msr with _ | msr
    · exact absurd hm (by simp [r23_filled_L2])
    rw [r23_filled_L2] at hm
    refine wp_seqE (by kernel_rfl) ?_
    refine wp_regE (by kernel_rfl) ?_
    refine seg [.p] [5, 6, 7, 8] (fun K => K [⟨5, none, sl x0.length gx0⟩, ⟨6, none, .int .i64 (x0.length : Int)⟩, ⟨7, none, .int .i64 v1⟩, ⟨8, none, .bool (decide (v1 < (x0.length : Int)))⟩] []) (fun K => by kernel_rfl) hF hH ?_
    clear hF hH; intro a w hF hH
    refine wl_end (by kernel_rfl) ?_
    refine then_n ?_
    refine wp_seqE (by kernel_rfl) ?_
    refine wp_condE (b := decide (v1 < (x0.length : Int))) (by kernel_rfl) (by kernel_rfl) hF (fun hb1 => ?_) (fun hb1 => ?_)
    · have hm := condT hb1 hm
      have hb1p := of_decide_eq_true hb1
      refine wp_skipE (by kernel_rfl) ?_
      refine then_n ?_
      refine wp_seqE (by kernel_rfl) ?_
      refine wp_blockE (id := 1) (by kernel_rfl) ?_
      refine wp_seqE (by kernel_rfl) ?_
      refine wp_regE (by kernel_rfl) ?_
      obtain ⟨hp1, hm⟩ := grd_some hm
      refine seg [.ia (.n 0) v1.toNat, .lv (.n 0) v1.toNat 0, .p] [5, 6, 7, 4] (fun K => (((gx0.a : Option Addr) = gx0.a) ∧ ((x0.length : Nat) = x0.length) ∧ ((1 : Nat) = 1) ∧ ((v1 : Int) = ((v1.toNat : Nat) : Int)) ∧ (v1.toNat < x0.length)) ∧ (((gx0.a.getD nilA).add (v1.toNat * 1) = ((gx0.a.getD nilA).add (v1.toNat * 1)).add 0) ∧ (v1.toNat < x0.length)) ∧ K [⟨5, none, sl x0.length gx0⟩, ⟨6, none, .int .i64 (x0.length : Int)⟩, ⟨7, none, .int .i64 v1⟩, ⟨4, none, .int .u8 ((x0.getD v1.toNat 0).toNat : Int)⟩] []) (fun K => by kernel_rfl) hF hH ?_
      refine ⟨⟨rfl, rfl, rfl, by omega, by omega⟩, ?_⟩
      refine ⟨⟨rfl, by omega⟩, ?_⟩
      clear hF hH; intro a w hF hH
      refine wl_end (by kernel_rfl) ?_
      refine then_n ?_
      refine wp_seqE (by kernel_rfl) ?_
      refine wp_regE (by kernel_rfl) ?_
      refine seg [.p, .p] [5, 6, 7, 12] (fun K => K [⟨5, none, sl x0.length gx0⟩, ⟨6, none, .int .i64 (x0.length : Int)⟩, ⟨7, none, .int .i64 v1⟩, ⟨12, none, .bool (((x0.getD v1.toNat 0).toNat : Int) == 143)⟩] []) (fun K => by kernel_rfl) hF hH ?_
      clear hF hH; intro a w hF hH
      refine wl_end (by kernel_rfl) ?_
      refine then_n ?_
      refine wp_condE (b := ((x0.getD v1.toNat 0).toNat : Int) == 143) (by kernel_rfl) (by kernel_rfl) hF (fun hb2 => ?_) (fun hb2 => ?_)
      · have hm := condT hb2 hm
        have hb2p := eq_of_beq hb2
        refine wp_seqE (by kernel_rfl) ?_
        refine wp_regE (by kernel_rfl) ?_
        refine seg [.p] [2] (fun K => K [⟨2, none, .bool true⟩] []) (fun K => by kernel_rfl) hF hH ?_
        clear hF hH; intro a w hF hH
        refine wl_end (by kernel_rfl) ?_
        refine then_n ?_
        refine wp_retE (by kernel_rfl) ?_
        refine block_ret ?_
        refine then_ret ?_
        refine then_ret ?_
        refine block_ret ?_
        refine then_ret ?_
        refine then_ret ?_
        refine retE (vs := [.bool true]) (p := True) (v := .bool true) [] (by kernel_rfl) trivial (by kernel_rfl) hF hH ?_
        obtain rfl := Option.some.inj hm
        exact ⟨(), by kernel_rfl, hH.below, trivial, newK hH [] [] (by kernel_rfl) (by kernel_rfl) (by kernel_rfl) (by kernel_rfl)⟩
      · have hm := condF hb2 hm
        have hb2p := ne_of_beq_false hb2
        refine wp_skipE (by kernel_rfl) ?_
        refine block_n ?_
        refine then_n ?_
        refine wp_regE (by kernel_rfl) ?_
        refine seg [.p, .p] [5, 6, 7] (fun K => K [⟨5, none, sl x0.length gx0⟩, ⟨6, none, .int .i64 (x0.length : Int)⟩, ⟨7, none, .int .i64 (w64 (v1 + 1))⟩] []) (fun K => by kernel_rfl) hF hH ?_
        clear hF hH; intro a w hF hH
        refine wl_end (by kernel_rfl) ?_
        refine then_n ?_
        exact ⟨msr, Nat.lt_succ_self _, w64 (v1 + 1), hm, frK hF [5, 6, 7] (by kernel_rfl), hpKN hH [0] [] (by kernel_rfl) (by kernel_rfl) (by kernel_rfl)⟩
    · have hm := condF hb1 hm
      have hb1p := of_decide_eq_false hb1
      refine wp_exitE (id := 0) (by kernel_rfl) ?_
      refine then_exit ?_
      refine then_exit ?_
      refine block_exit ?_
      refine then_n ?_
      exact ⟨hm, frK hF [] (by kernel_rfl), hpKN hH [0] [] (by kernel_rfl) (by kernel_rfl) (by kernel_rfl)⟩
  · clear hF hH hm; rintro a w ⟨hm, hF, hH⟩
    rw [hjk1] at hm
    refine then_n ?_
    refine wp_seqE (by kernel_rfl) ?_
    refine wp_regE (by kernel_rfl) ?_
    refine seg [.p] [2] (fun K => K [⟨2, none, .bool false⟩] []) (fun K => by kernel_rfl) hF hH ?_
    clear hF hH; intro a w hF hH
    refine wl_end (by kernel_rfl) ?_
    refine then_n ?_
    refine wp_retE (by kernel_rfl) ?_
    refine retE (vs := [.bool false]) (p := True) (v := .bool false) [] (by kernel_rfl) trivial (by kernel_rfl) hF hH ?_
    obtain rfl := Option.some.inj hm
    exact ⟨(), by kernel_rfl, hH.below, trivial, newK hH [] [] (by kernel_rfl) (by kernel_rfl) (by kernel_rfl) (by kernel_rfl)⟩

theorem c_r23_Check (N : Nat) (x0 : TBlock) (gx0 : Gs Unit) (r : Int) (hm : r23_Check N x0 = some r) : CallOk Try.prog 26 [ag (cTBlock x0 gx0)] [vw elB x0.Text.length x0.Text gx0] [] (U := Unit) (fun _ => .int .i64 r) (fun _ => []) (fun _ => []) (fun _ => True) := by
  unfold r23_Check at hm
  refine callI (N := 71) Try.func26 (by kernel_rfl) (by kernel_rfl) (by kernel_rfl) ?_
  intro w0 B M a hF hH
  refine wp_seqE (by kernel_rfl) ?_
  refine wp_regE (by kernel_rfl) ?_
  refine seg [.bx, .p] [1] (fun K => ∀ g1, K [⟨1, none, .pointer (some ⟨g1, 0, none⟩)⟩] [.box g1 27 (cTBlock x0 gx0)]) (fun K => by kernel_rfl) hF hH ?_
  intro g1
  clear hF hH; intro a w hF hH
  refine wl_end (by kernel_rfl) ?_
  refine then_n ?_
  refine wp_seqE (by kernel_rfl) ?_
  refine wp_blockE (id := 0) (by kernel_rfl) ?_
  refine wp_seqE (by kernel_rfl) ?_
  refine wp_regE (by kernel_rfl) ?_
  refine seg [.p, .ld (.r 0)] [1, 5] (fun K => (((g1 : Nat) = g1) ∧ ((none : Option Nat) = none)) ∧ K [⟨1, none, .pointer (some ⟨g1, 0, none⟩)⟩, ⟨5, none, .int .i64 x0.Group⟩] [.box g1 27 (cTBlock x0 gx0)]) (fun K => by kernel_rfl) hF hH ?_
  refine ⟨⟨rfl, rfl⟩, ?_⟩
  clear hF hH; intro a w hF hH
  obtain ⟨r1, hx1, hm⟩ := bnd_some hm
  refine callE (d := 6) (c_r23_within N x0.Group 0 255 r1 hx1) [] [] (by kernel_rfl) trivial (.inl rfl) (by kernel_rfl) (by kernel_rfl) (by kernel_rfl) (by kernel_rfl) hF hH ?_
  clear hF hH; rintro ⟨⟩ - a w hF hH
  refine seg [.p, .p] [1, 8] (fun K => K [⟨1, none, .pointer (some ⟨g1, 0, none⟩)⟩, ⟨8, none, .bool (!r1)⟩] [.box g1 27 (cTBlock x0 gx0)]) (fun K => by kernel_rfl) hF hH ?_
  clear hF hH; intro a w hF hH
  rcases Bool.eq_false_or_eq_true (!r1) with hx2 | hx2
  · have hm := condT hx2 hm
    rw [hx2] at hF
    refine seg [.sk, .sk, .sk, .sk, .p, .p] [1, 3] (fun K => (true = !false) ∧ (true = !false) ∧ (true = !false) ∧ (true = !false) ∧ K [⟨1, none, .pointer (some ⟨g1, 0, none⟩)⟩, ⟨3, none, .bool true⟩] [.box g1 27 (cTBlock x0 gx0)]) (fun K => by kernel_rfl) hF hH ?_
    refine ⟨rfl, ?_⟩
    refine ⟨rfl, ?_⟩
    refine ⟨rfl, ?_⟩
    refine ⟨rfl, ?_⟩
    clear hF hH; intro a w hF hH
    refine wl_end (by kernel_rfl) ?_
    refine then_n ?_
    refine wp_condE (b := true) (by kernel_rfl) (by kernel_rfl) hF (fun _ => ?_) (fun h => by cases h)
    refine wp_seqE (by kernel_rfl) ?_
    refine wp_regE (by kernel_rfl) ?_
    refine seg [.p] [2] (fun K => K [⟨2, none, .int .i64 2⟩] [.box g1 27 (cTBlock x0 gx0)]) (fun K => by kernel_rfl) hF hH ?_
    clear hF hH; intro a w hF hH
    refine wl_end (by kernel_rfl) ?_
    refine then_n ?_
    refine wp_retE (by kernel_rfl) ?_
    refine block_ret ?_
    refine then_ret ?_
    refine retE (vs := [.int .i64 2]) (p := True) (v := .int .i64 2) [] (by kernel_rfl) trivial (by kernel_rfl) hF hH ?_
    obtain rfl := Option.some.inj hm
    exact ⟨(), by kernel_rfl, hH.below, trivial, newK hH [] [] (by kernel_rfl) (by kernel_rfl) (by kernel_rfl) (by kernel_rfl)⟩
  · have hm := condF hx2 hm
    rw [hx2] at hF
    refine seg [.gt (.p), .gt (.ld (.r 0))] [1, 8, 10] (fun K => (false = false) ∧ (false = false) ∧ (((g1 : Nat) = g1) ∧ ((none : Option Nat) = none)) ∧ K [⟨1, none, .pointer (some ⟨g1, 0, none⟩)⟩, ⟨8, none, .bool false⟩, ⟨10, none, .int .i64 x0.Number⟩] [.box g1 27 (cTBlock x0 gx0)]) (fun K => by kernel_rfl) hF hH ?_
    refine ⟨rfl, ?_⟩
    refine ⟨rfl, ?_⟩
    refine ⟨⟨rfl, rfl⟩, ?_⟩
    clear hF hH; intro a w hF hH
    obtain ⟨r2, hx3, hm⟩ := bnd_some hm
    refine callE (d := 11) (c_r23_within N x0.Number 0 65535 r2 hx3) [] [] (by kernel_rfl) trivial (.inl rfl) (by kernel_rfl) (by kernel_rfl) (by kernel_rfl) (by kernel_rfl) hF hH ?_
    clear hF hH; rintro ⟨⟩ - a w hF hH
    refine seg [.gt (.p), .p, .p] [1, 3] (fun K => (false = false) ∧ K [⟨1, none, .pointer (some ⟨g1, 0, none⟩)⟩, ⟨3, none, .bool (!r2)⟩] [.box g1 27 (cTBlock x0 gx0)]) (fun K => by kernel_rfl) hF hH ?_
    refine ⟨rfl, ?_⟩
    clear hF hH; intro a w hF hH
    refine wl_end (by kernel_rfl) ?_
    refine then_n ?_
    refine wp_condE (b := !r2) (by kernel_rfl) (by kernel_rfl) hF (fun hb1 => ?_) (fun hb1 => ?_)
    · have hm := condT hb1 hm
      refine wp_seqE (by kernel_rfl) ?_
      refine wp_regE (by kernel_rfl) ?_
      refine seg [.p] [2] (fun K => K [⟨2, none, .int .i64 2⟩] [.box g1 27 (cTBlock x0 gx0)]) (fun K => by kernel_rfl) hF hH ?_
      clear hF hH; intro a w hF hH
      refine wl_end (by kernel_rfl) ?_
      refine then_n ?_
      refine wp_retE (by kernel_rfl) ?_
      refine block_ret ?_
      refine then_ret ?_
      refine retE (vs := [.int .i64 2]) (p := True) (v := .int .i64 2) [] (by kernel_rfl) trivial (by kernel_rfl) hF hH ?_
      obtain rfl := Option.some.inj hm
      exact ⟨(), by kernel_rfl, hH.below, trivial, newK hH [] [] (by kernel_rfl) (by kernel_rfl) (by kernel_rfl) (by kernel_rfl)⟩
    · have hm := condF hb1 hm
      refine wp_seqE (by kernel_rfl) ?_
      refine wp_regE (by kernel_rfl) ?_
      refine seg [.p, .ld (.r 0), .p, .p, .p, .ld (.r 0), .p, .pk, .p, .p, .ld (.r 0), .p, .pk, .p] [1, 14] (fun K => (((g1 : Nat) = g1) ∧ ((none : Option Nat) = none)) ∧ (((g1 : Nat) = g1) ∧ ((none : Option Nat) = none)) ∧ (((g1 : Nat) = g1) ∧ ((none : Option Nat) = none)) ∧ K [⟨1, none, .pointer (some ⟨g1, 0, none⟩)⟩, ⟨14, none, .bool (((decide (240 ≤ (x0.Extension.toNat : Int))) && (decide ((x0.Extension.toNat : Int) ≤ 254))) || (decide (3 < (x0.Status.toNat : Int))))⟩] [.box g1 27 (cTBlock x0 gx0)]) (fun K => by kernel_rfl) hF hH ?_
      refine ⟨⟨rfl, rfl⟩, ?_⟩
      refine ⟨⟨rfl, rfl⟩, ?_⟩
      refine ⟨⟨rfl, rfl⟩, ?_⟩
      clear hF hH; intro a w hF hH
      refine wl_end (by kernel_rfl) ?_
      refine then_n ?_
      refine wp_condE (b := ((decide (240 ≤ (x0.Extension.toNat : Int))) && (decide ((x0.Extension.toNat : Int) ≤ 254))) || (decide (3 < (x0.Status.toNat : Int)))) (by kernel_rfl) (by kernel_rfl) hF (fun hb2 => ?_) (fun hb2 => ?_)
      · have hm := condT hb2 hm
        refine wp_seqE (by kernel_rfl) ?_
        refine wp_regE (by kernel_rfl) ?_
        refine seg [.p] [2] (fun K => K [⟨2, none, .int .i64 3⟩] [.box g1 27 (cTBlock x0 gx0)]) (fun K => by kernel_rfl) hF hH ?_
        clear hF hH; intro a w hF hH
        refine wl_end (by kernel_rfl) ?_
        refine then_n ?_
        refine wp_retE (by kernel_rfl) ?_
        refine block_ret ?_
        refine then_ret ?_
        refine retE (vs := [.int .i64 3]) (p := True) (v := .int .i64 3) [] (by kernel_rfl) trivial (by kernel_rfl) hF hH ?_
        obtain rfl := Option.some.inj hm
        exact ⟨(), by kernel_rfl, hH.below, trivial, newK hH [] [] (by kernel_rfl) (by kernel_rfl) (by kernel_rfl) (by kernel_rfl)⟩
      · have hm := condF hb2 hm
        refine wp_seqE (by kernel_rfl) ?_
        refine wp_regE (by kernel_rfl) ?_
        refine seg [.p, .ld (.r 0)] [1, 30] (fun K => (((g1 : Nat) = g1) ∧ ((none : Option Nat) = none)) ∧ K [⟨1, none, .pointer (some ⟨g1, 0, none⟩)⟩, ⟨30, none, ag (cTLabel x0.In)⟩] [.box g1 27 (cTBlock x0 gx0)]) (fun K => by kernel_rfl) hF hH ?_
        refine ⟨⟨rfl, rfl⟩, ?_⟩
        clear hF hH; intro a w hF hH
        obtain ⟨r3, hx4, hm⟩ := bnd_some hm
        refine callE (d := 31) (c_r23_clock N x0.In r3 hx4) [] [] (by kernel_rfl) trivial (.inl rfl) (by kernel_rfl) (by kernel_rfl) (by kernel_rfl) (by kernel_rfl) hF hH ?_
        clear hF hH; rintro ⟨⟩ - a w hF hH
        refine seg [.p, .p] [1, 33] (fun K => K [⟨1, none, .pointer (some ⟨g1, 0, none⟩)⟩, ⟨33, none, .bool (!r3)⟩] [.box g1 27 (cTBlock x0 gx0)]) (fun K => by kernel_rfl) hF hH ?_
        clear hF hH; intro a w hF hH
        rcases Bool.eq_false_or_eq_true (!r3) with hx5 | hx5
        · have hm := condT hx5 hm
          rw [hx5] at hF
          refine seg [.sk, .sk, .sk, .sk, .p, .p] [1, 28] (fun K => (true = !false) ∧ (true = !false) ∧ (true = !false) ∧ (true = !false) ∧ K [⟨1, none, .pointer (some ⟨g1, 0, none⟩)⟩, ⟨28, none, .bool true⟩] [.box g1 27 (cTBlock x0 gx0)]) (fun K => by kernel_rfl) hF hH ?_
          refine ⟨rfl, ?_⟩
          refine ⟨rfl, ?_⟩
          refine ⟨rfl, ?_⟩
          refine ⟨rfl, ?_⟩
          clear hF hH; intro a w hF hH
          refine wl_end (by kernel_rfl) ?_
          refine then_n ?_
          refine wp_condE (b := true) (by kernel_rfl) (by kernel_rfl) hF (fun _ => ?_) (fun h => by cases h)
          refine wp_seqE (by kernel_rfl) ?_
          refine wp_regE (by kernel_rfl) ?_
          refine seg [.p] [2] (fun K => K [⟨2, none, .int .i64 2⟩] [.box g1 27 (cTBlock x0 gx0)]) (fun K => by kernel_rfl) hF hH ?_
          clear hF hH; intro a w hF hH
          refine wl_end (by kernel_rfl) ?_
          refine then_n ?_
          refine wp_retE (by kernel_rfl) ?_
          refine block_ret ?_
          refine then_ret ?_
          refine retE (vs := [.int .i64 2]) (p := True) (v := .int .i64 2) [] (by kernel_rfl) trivial (by kernel_rfl) hF hH ?_
          obtain rfl := Option.some.inj hm
          exact ⟨(), by kernel_rfl, hH.below, trivial, newK hH [] [] (by kernel_rfl) (by kernel_rfl) (by kernel_rfl) (by kernel_rfl)⟩
        · have hm := condF hx5 hm
          rw [hx5] at hF
          refine seg [.gt (.p), .gt (.ld (.r 0))] [1, 33, 35] (fun K => (false = false) ∧ (false = false) ∧ (((g1 : Nat) = g1) ∧ ((none : Option Nat) = none)) ∧ K [⟨1, none, .pointer (some ⟨g1, 0, none⟩)⟩, ⟨33, none, .bool false⟩, ⟨35, none, ag (cTLabel x0.Out)⟩] [.box g1 27 (cTBlock x0 gx0)]) (fun K => by kernel_rfl) hF hH ?_
          refine ⟨rfl, ?_⟩
          refine ⟨rfl, ?_⟩
          refine ⟨⟨rfl, rfl⟩, ?_⟩
          clear hF hH; intro a w hF hH
          obtain ⟨r4, hx6, hm⟩ := bnd_some hm
          refine callE (d := 36) (c_r23_clock N x0.Out r4 hx6) [] [] (by kernel_rfl) trivial (.inl rfl) (by kernel_rfl) (by kernel_rfl) (by kernel_rfl) (by kernel_rfl) hF hH ?_
          clear hF hH; rintro ⟨⟩ - a w hF hH
          refine seg [.gt (.p), .p, .p] [1, 28] (fun K => (false = false) ∧ K [⟨1, none, .pointer (some ⟨g1, 0, none⟩)⟩, ⟨28, none, .bool (!r4)⟩] [.box g1 27 (cTBlock x0 gx0)]) (fun K => by kernel_rfl) hF hH ?_
          refine ⟨rfl, ?_⟩
          clear hF hH; intro a w hF hH
          refine wl_end (by kernel_rfl) ?_
          refine then_n ?_
          refine wp_condE (b := !r4) (by kernel_rfl) (by kernel_rfl) hF (fun hb3 => ?_) (fun hb3 => ?_)
          · have hm := condT hb3 hm
            refine wp_seqE (by kernel_rfl) ?_
            refine wp_regE (by kernel_rfl) ?_
            refine seg [.p] [2] (fun K => K [⟨2, none, .int .i64 2⟩] [.box g1 27 (cTBlock x0 gx0)]) (fun K => by kernel_rfl) hF hH ?_
            clear hF hH; intro a w hF hH
            refine wl_end (by kernel_rfl) ?_
            refine then_n ?_
            refine wp_retE (by kernel_rfl) ?_
            refine block_ret ?_
            refine then_ret ?_
            refine retE (vs := [.int .i64 2]) (p := True) (v := .int .i64 2) [] (by kernel_rfl) trivial (by kernel_rfl) hF hH ?_
            obtain rfl := Option.some.inj hm
            exact ⟨(), by kernel_rfl, hH.below, trivial, newK hH [] [] (by kernel_rfl) (by kernel_rfl) (by kernel_rfl) (by kernel_rfl)⟩
          · have hm := condF hb3 hm
            refine wp_seqE (by kernel_rfl) ?_
            refine wp_regE (by kernel_rfl) ?_
            refine seg [.p, .p, .ld (.r 0), .p, .p, .p, .ld (.r 0), .pk, .p] [1, 39] (fun K => (((g1 : Nat) = g1) ∧ ((none : Option Nat) = none)) ∧ (((g1 : Nat) = g1) ∧ ((none : Option Nat) = none)) ∧ K [⟨1, none, .pointer (some ⟨g1, 0, none⟩)⟩, ⟨39, none, .bool (x0.In.Drop || x0.Out.Drop)⟩] [.box g1 27 (cTBlock x0 gx0)]) (fun K => by kernel_rfl) hF hH ?_
            refine ⟨⟨rfl, rfl⟩, ?_⟩
            refine ⟨⟨rfl, rfl⟩, ?_⟩
            clear hF hH; intro a w hF hH
            refine wl_end (by kernel_rfl) ?_
            refine then_n ?_
            refine wp_condE (b := x0.In.Drop || x0.Out.Drop) (by kernel_rfl) (by kernel_rfl) hF (fun hb4 => ?_) (fun hb4 => ?_)
            · have hm := condT hb4 hm
              refine wp_seqE (by kernel_rfl) ?_
              refine wp_regE (by kernel_rfl) ?_
              refine seg [.p] [2] (fun K => K [⟨2, none, .int .i64 13⟩] [.box g1 27 (cTBlock x0 gx0)]) (fun K => by kernel_rfl) hF hH ?_
              clear hF hH; intro a w hF hH
              refine wl_end (by kernel_rfl) ?_
              refine then_n ?_
              refine wp_retE (by kernel_rfl) ?_
              refine block_ret ?_
              refine then_ret ?_
              refine retE (vs := [.int .i64 13]) (p := True) (v := .int .i64 13) [] (by kernel_rfl) trivial (by kernel_rfl) hF hH ?_
              obtain rfl := Option.some.inj hm
              exact ⟨(), by kernel_rfl, hH.below, trivial, newK hH [] [] (by kernel_rfl) (by kernel_rfl) (by kernel_rfl) (by kernel_rfl)⟩
            · have hm := condF hb4 hm
              refine wp_seqE (by kernel_rfl) ?_
              refine wp_regE (by kernel_rfl) ?_
              refine seg [.p, .ld (.r 0)] [1, 50] (fun K => (((g1 : Nat) = g1) ∧ ((none : Option Nat) = none)) ∧ K [⟨1, none, .pointer (some ⟨g1, 0, none⟩)⟩, ⟨50, none, .int .i64 x0.Row⟩] [.box g1 27 (cTBlock x0 gx0)]) (fun K => by kernel_rfl) hF hH ?_
              refine ⟨⟨rfl, rfl⟩, ?_⟩
              clear hF hH; intro a w hF hH
              obtain ⟨r5, hx7, hm⟩ := bnd_some hm
              refine callE (d := 51) (c_r23_within N x0.Row 0 14 r5 hx7) [] [] (by kernel_rfl) trivial (.inl rfl) (by kernel_rfl) (by kernel_rfl) (by kernel_rfl) (by kernel_rfl) hF hH ?_
              clear hF hH; rintro ⟨⟩ - a w hF hH
              refine seg [.p, .p] [1, 48] (fun K => K [⟨1, none, .pointer (some ⟨g1, 0, none⟩)⟩, ⟨48, none, .bool (!r5)⟩] [.box g1 27 (cTBlock x0 gx0)]) (fun K => by kernel_rfl) hF hH ?_
              clear hF hH; intro a w hF hH
              refine wl_end (by kernel_rfl) ?_
              refine then_n ?_
              refine wp_condE (b := !r5) (by kernel_rfl) (by kernel_rfl) hF (fun hb5 => ?_) (fun hb5 => ?_)
              · have hm := condT hb5 hm
                refine wp_seqE (by kernel_rfl) ?_
                refine wp_regE (by kernel_rfl) ?_
                refine seg [.p] [2] (fun K => K [⟨2, none, .int .i64 2⟩] [.box g1 27 (cTBlock x0 gx0)]) (fun K => by kernel_rfl) hF hH ?_
                clear hF hH; intro a w hF hH
                refine wl_end (by kernel_rfl) ?_
                refine then_n ?_
                refine wp_retE (by kernel_rfl) ?_
                refine block_ret ?_
                refine then_ret ?_
                refine retE (vs := [.int .i64 2]) (p := True) (v := .int .i64 2) [] (by kernel_rfl) trivial (by kernel_rfl) hF hH ?_
                obtain rfl := Option.some.inj hm
                exact ⟨(), by kernel_rfl, hH.below, trivial, newK hH [] [] (by kernel_rfl) (by kernel_rfl) (by kernel_rfl) (by kernel_rfl)⟩
              · have hm := condF hb5 hm
                refine wp_seqE (by kernel_rfl) ?_
                refine wp_regE (by kernel_rfl) ?_
                refine seg [.p, .ld (.r 0), .p, .p, .p, .ld (.r 0), .p, .pk, .p] [1, 53] (fun K => (((g1 : Nat) = g1) ∧ ((none : Option Nat) = none)) ∧ (((g1 : Nat) = g1) ∧ ((none : Option Nat) = none)) ∧ K [⟨1, none, .pointer (some ⟨g1, 0, none⟩)⟩, ⟨53, none, .bool ((decide ((x0.Align.toNat : Int) < 1)) || (decide (3 < (x0.Align.toNat : Int))))⟩] [.box g1 27 (cTBlock x0 gx0)]) (fun K => by kernel_rfl) hF hH ?_
                refine ⟨⟨rfl, rfl⟩, ?_⟩
                refine ⟨⟨rfl, rfl⟩, ?_⟩
                clear hF hH; intro a w hF hH
                refine wl_end (by kernel_rfl) ?_
                refine then_n ?_
                refine wp_condE (b := (decide ((x0.Align.toNat : Int) < 1)) || (decide (3 < (x0.Align.toNat : Int)))) (by kernel_rfl) (by kernel_rfl) hF (fun hb6 => ?_) (fun hb6 => ?_)
                · have hm := condT hb6 hm
                  refine wp_seqE (by kernel_rfl) ?_
                  refine wp_regE (by kernel_rfl) ?_
                  refine seg [.p] [2] (fun K => K [⟨2, none, .int .i64 3⟩] [.box g1 27 (cTBlock x0 gx0)]) (fun K => by kernel_rfl) hF hH ?_
                  clear hF hH; intro a w hF hH
                  refine wl_end (by kernel_rfl) ?_
                  refine then_n ?_
                  refine wp_retE (by kernel_rfl) ?_
                  refine block_ret ?_
                  refine then_ret ?_
                  refine retE (vs := [.int .i64 3]) (p := True) (v := .int .i64 3) [] (by kernel_rfl) trivial (by kernel_rfl) hF hH ?_
                  obtain rfl := Option.some.inj hm
                  exact ⟨(), by kernel_rfl, hH.below, trivial, newK hH [] [] (by kernel_rfl) (by kernel_rfl) (by kernel_rfl) (by kernel_rfl)⟩
                · have hm := condF hb6 hm
                  refine wp_seqE (by kernel_rfl) ?_
                  refine wp_regE (by kernel_rfl) ?_
                  refine seg [.p, .ld (.r 0), .p, .p, .p] [1, 62] (fun K => (((g1 : Nat) = g1) ∧ ((none : Option Nat) = none)) ∧ K [⟨1, none, .pointer (some ⟨g1, 0, none⟩)⟩, ⟨62, none, .bool (decide (112 < (x0.Text.length : Int)))⟩] [.box g1 27 (cTBlock x0 gx0)]) (fun K => by kernel_rfl) hF hH ?_
                  refine ⟨⟨rfl, rfl⟩, ?_⟩
                  clear hF hH; intro a w hF hH
                  refine wl_end (by kernel_rfl) ?_
                  refine then_n ?_
                  refine wp_condE (b := decide (112 < (x0.Text.length : Int))) (by kernel_rfl) (by kernel_rfl) hF (fun hb7 => ?_) (fun hb7 => ?_)
                  · have hm := condT hb7 hm
                    have hb7p := of_decide_eq_true hb7
                    refine wp_seqE (by kernel_rfl) ?_
                    refine wp_regE (by kernel_rfl) ?_
                    refine seg [.p] [2] (fun K => K [⟨2, none, .int .i64 9⟩] [.box g1 27 (cTBlock x0 gx0)]) (fun K => by kernel_rfl) hF hH ?_
                    clear hF hH; intro a w hF hH
                    refine wl_end (by kernel_rfl) ?_
                    refine then_n ?_
                    refine wp_retE (by kernel_rfl) ?_
                    refine block_ret ?_
                    refine then_ret ?_
                    refine retE (vs := [.int .i64 9]) (p := True) (v := .int .i64 9) [] (by kernel_rfl) trivial (by kernel_rfl) hF hH ?_
                    obtain rfl := Option.some.inj hm
                    exact ⟨(), by kernel_rfl, hH.below, trivial, newK hH [] [] (by kernel_rfl) (by kernel_rfl) (by kernel_rfl) (by kernel_rfl)⟩
                  · have hm := condF hb7 hm
                    have hb7p := of_decide_eq_false hb7
                    refine wp_seqE (by kernel_rfl) ?_
                    refine wp_regE (by kernel_rfl) ?_
                    refine seg [.p, .ld (.r 0)] [69] (fun K => (((g1 : Nat) = g1) ∧ ((none : Option Nat) = none)) ∧ K [⟨69, none, sl x0.Text.length gx0⟩] [.box g1 27 (cTBlock x0 gx0)]) (fun K => by kernel_rfl) hF hH ?_
                    refine ⟨⟨rfl, rfl⟩, ?_⟩
                    clear hF hH; intro a w hF hH
                    obtain ⟨r6, hx8, hm⟩ := bnd_some hm
                    refine callE (d := 70) (c_r23_filled N x0.Text gx0 r6 hx8) [.v (.n 0)] [] (by kernel_rfl) trivial (.inl rfl) (by kernel_rfl) (by kernel_rfl) (by kernel_rfl) (by kernel_rfl) hF hH ?_
                    clear hF hH; rintro ⟨⟩ - a w hF hH
                    refine seg [.p] [67] (fun K => K [⟨67, none, .bool r6⟩] [.box g1 27 (cTBlock x0 gx0)]) (fun K => by kernel_rfl) hF hH ?_
                    clear hF hH; intro a w hF hH
                    refine wl_end (by kernel_rfl) ?_
                    refine then_n ?_
                    refine wp_condE (b := r6) (by kernel_rfl) (by kernel_rfl) hF (fun hb8 => ?_) (fun hb8 => ?_)
                    · have hm := condT hb8 hm
                      refine wp_seqE (by kernel_rfl) ?_
                      refine wp_regE (by kernel_rfl) ?_
                      refine seg [.p] [2] (fun K => K [⟨2, none, .int .i64 4⟩] [.box g1 27 (cTBlock x0 gx0)]) (fun K => by kernel_rfl) hF hH ?_
                      clear hF hH; intro a w hF hH
                      refine wl_end (by kernel_rfl) ?_
                      refine then_n ?_
                      refine wp_retE (by kernel_rfl) ?_
                      refine block_ret ?_
                      refine then_ret ?_
                      refine retE (vs := [.int .i64 4]) (p := True) (v := .int .i64 4) [] (by kernel_rfl) trivial (by kernel_rfl) hF hH ?_
                      obtain rfl := Option.some.inj hm
                      exact ⟨(), by kernel_rfl, hH.below, trivial, newK hH [] [] (by kernel_rfl) (by kernel_rfl) (by kernel_rfl) (by kernel_rfl)⟩
                    · have hm := condF hb8 hm
                      refine wp_skipE (by kernel_rfl) ?_
                      refine block_n ?_
                      refine then_n ?_
                      refine wp_seqE (by kernel_rfl) ?_
                      refine wp_regE (by kernel_rfl) ?_
                      refine seg [.p] [2] (fun K => K [⟨2, none, .int .i64 0⟩] [.box g1 27 (cTBlock x0 gx0)]) (fun K => by kernel_rfl) hF hH ?_
                      clear hF hH; intro a w hF hH
                      refine wl_end (by kernel_rfl) ?_
                      refine then_n ?_
                      refine wp_retE (by kernel_rfl) ?_
                      refine retE (vs := [.int .i64 0]) (p := True) (v := .int .i64 0) [] (by kernel_rfl) trivial (by kernel_rfl) hF hH ?_
                      obtain rfl := Option.some.inj hm
                      exact ⟨(), by kernel_rfl, hH.below, trivial, newK hH [] [] (by kernel_rfl) (by kernel_rfl) (by kernel_rfl) (by kernel_rfl)⟩

theorem c_l23_same (N : Nat) (x0 : TBlock) (gx0 : Gs Unit) (x1 : TBlock) (gx1 : Gs Unit) (r : Bool) (hm : l23_same N x0 x1 = some r) : CallOk Try.prog 13 [ag (cTBlock x0 gx0), ag (cTBlock x1 gx1)] [vw elB x0.Text.length x0.Text gx0, vw elB x1.Text.length x1.Text gx1] [] (U := Unit) (fun _ => .bool r) (fun _ => []) (fun _ => []) (fun _ => True) := by
  unfold l23_same at hm
  refine callI (N := 73) Try.func13 (by kernel_rfl) (by kernel_rfl) (by kernel_rfl) ?_
  intro w0 B M a hF hH
  refine wp_seqE (by kernel_rfl) ?_
  refine wp_regE (by kernel_rfl) ?_
  refine seg [.bx, .bx, .p] [2, 3] (fun K => ∀ g1, ∀ g2, K [⟨2, none, .pointer (some ⟨g1, 0, none⟩)⟩, ⟨3, none, .pointer (some ⟨g2, 0, none⟩)⟩] [.box g1 27 (cTBlock x0 gx0), .box g2 27 (cTBlock x1 gx1)]) (fun K => by kernel_rfl) hF hH ?_
  intro g1
  intro g2
  clear hF hH; intro a w hF hH
  refine wl_end (by kernel_rfl) ?_
  refine then_n ?_
  refine wp_seqE (by kernel_rfl) ?_
  refine wp_regE (by kernel_rfl) ?_
  refine seg [.p, .ld (.r 0), .p, .ld (.r 1), .p, .p, .p, .ld (.r 0), .p, .ld (.r 1), .p, .pk, .p, .p, .ld (.r 0), .p, .ld (.r 1), .p, .pk, .p, .p, .ld (.r 0), .p, .ld (.r 1), .p, .pk, .p, .p, .ld (.r 0), .p, .ld (.r 1), .ae, .pk, .p, .p, .ld (.r 0), .p, .ld (.r 1), .ae, .pk, .p, .p, .ld (.r 0), .p, .ld (.r 1), .p, .pk, .p, .p, .ld (.r 0), .p, .ld (.r 1), .p, .pk, .p, .p, .ld (.r 0), .p, .ld (.r 1), .p, .pk, .p] [2, 3, 66] (fun K => (((g1 : Nat) = g1) ∧ ((none : Option Nat) = none)) ∧ (((g2 : Nat) = g2) ∧ ((none : Option Nat) = none)) ∧ (((g1 : Nat) = g1) ∧ ((none : Option Nat) = none)) ∧ (((g2 : Nat) = g2) ∧ ((none : Option Nat) = none)) ∧ (((g1 : Nat) = g1) ∧ ((none : Option Nat) = none)) ∧ (((g2 : Nat) = g2) ∧ ((none : Option Nat) = none)) ∧ (((g1 : Nat) = g1) ∧ ((none : Option Nat) = none)) ∧ (((g2 : Nat) = g2) ∧ ((none : Option Nat) = none)) ∧ (((g1 : Nat) = g1) ∧ ((none : Option Nat) = none)) ∧ (((g2 : Nat) = g2) ∧ ((none : Option Nat) = none)) ∧ (((g1 : Nat) = g1) ∧ ((none : Option Nat) = none)) ∧ (((g2 : Nat) = g2) ∧ ((none : Option Nat) = none)) ∧ (((g1 : Nat) = g1) ∧ ((none : Option Nat) = none)) ∧ (((g2 : Nat) = g2) ∧ ((none : Option Nat) = none)) ∧ (((g1 : Nat) = g1) ∧ ((none : Option Nat) = none)) ∧ (((g2 : Nat) = g2) ∧ ((none : Option Nat) = none)) ∧ (((g1 : Nat) = g1) ∧ ((none : Option Nat) = none)) ∧ (((g2 : Nat) = g2) ∧ ((none : Option Nat) = none)) ∧ K [⟨2, none, .pointer (some ⟨g1, 0, none⟩)⟩, ⟨3, none, .pointer (some ⟨g2, 0, none⟩)⟩, ⟨66, none, .bool (((((((((x0.Group == x1.Group) && (x0.Number == x1.Number)) && ((x0.Extension.toNat : Int) == (x1.Extension.toNat : Int))) && ((x0.Status.toNat : Int) == (x1.Status.toNat : Int))) && ((x0.In.H == x1.In.H) && ((x0.In.M == x1.In.M) && ((x0.In.S == x1.In.S) && ((x0.In.F == x1.In.F) && ((x0.In.Drop == x1.In.Drop) && true)))))) && ((x0.Out.H == x1.Out.H) && ((x0.Out.M == x1.Out.M) && ((x0.Out.S == x1.Out.S) && ((x0.Out.F == x1.Out.F) && ((x0.Out.Drop == x1.Out.Drop) && true)))))) && (x0.Row == x1.Row)) && ((x0.Align.toNat : Int) == (x1.Align.toNat : Int))) && (x0.Comment == x1.Comment))⟩] [.box g1 27 (cTBlock x0 gx0), .box g2 27 (cTBlock x1 gx1)]) (fun K => by kernel_rfl) hF hH ?_
  refine ⟨⟨rfl, rfl⟩, ?_⟩
  refine ⟨⟨rfl, rfl⟩, ?_⟩
  refine ⟨⟨rfl, rfl⟩, ?_⟩
  refine ⟨⟨rfl, rfl⟩, ?_⟩
  refine ⟨⟨rfl, rfl⟩, ?_⟩
  refine ⟨⟨rfl, rfl⟩, ?_⟩
  refine ⟨⟨rfl, rfl⟩, ?_⟩
  refine ⟨⟨rfl, rfl⟩, ?_⟩
  refine ⟨⟨rfl, rfl⟩, ?_⟩
  refine ⟨⟨rfl, rfl⟩, ?_⟩
  refine ⟨⟨rfl, rfl⟩, ?_⟩
  refine ⟨⟨rfl, rfl⟩, ?_⟩
  refine ⟨⟨rfl, rfl⟩, ?_⟩
  refine ⟨⟨rfl, rfl⟩, ?_⟩
  refine ⟨⟨rfl, rfl⟩, ?_⟩
  refine ⟨⟨rfl, rfl⟩, ?_⟩
  refine ⟨⟨rfl, rfl⟩, ?_⟩
  refine ⟨⟨rfl, rfl⟩, ?_⟩
  clear hF hH; intro a w hF hH
  rcases Bool.eq_false_or_eq_true (((((((((x0.Group == x1.Group) && (x0.Number == x1.Number)) && ((x0.Extension.toNat : Int) == (x1.Extension.toNat : Int))) && ((x0.Status.toNat : Int) == (x1.Status.toNat : Int))) && ((x0.In.H == x1.In.H) && ((x0.In.M == x1.In.M) && ((x0.In.S == x1.In.S) && ((x0.In.F == x1.In.F) && ((x0.In.Drop == x1.In.Drop) && true)))))) && ((x0.Out.H == x1.Out.H) && ((x0.Out.M == x1.Out.M) && ((x0.Out.S == x1.Out.S) && ((x0.Out.F == x1.Out.F) && ((x0.Out.Drop == x1.Out.Drop) && true)))))) && (x0.Row == x1.Row)) && ((x0.Align.toNat : Int) == (x1.Align.toNat : Int))) && (x0.Comment == x1.Comment)) with hx1 | hx1
  · have hm := condT hx1 hm
    rw [hx1] at hF
    refine seg [.gt (.p), .gt (.ld (.r 0)), .gt (.p), .gt (.ld (.r 1))] [66, 68, 70] (fun K => (true = true) ∧ (true = true) ∧ (((g1 : Nat) = g1) ∧ ((none : Option Nat) = none)) ∧ (true = true) ∧ (true = true) ∧ (((g2 : Nat) = g2) ∧ ((none : Option Nat) = none)) ∧ K [⟨66, none, .bool true⟩, ⟨68, none, sl x0.Text.length gx0⟩, ⟨70, none, sl x1.Text.length gx1⟩] [.box g1 27 (cTBlock x0 gx0), .box g2 27 (cTBlock x1 gx1)]) (fun K => by kernel_rfl) hF hH ?_
    refine ⟨rfl, ?_⟩
    refine ⟨rfl, ?_⟩
    refine ⟨⟨rfl, rfl⟩, ?_⟩
    refine ⟨rfl, ?_⟩
    refine ⟨rfl, ?_⟩
    refine ⟨⟨rfl, rfl⟩, ?_⟩
    clear hF hH; intro a w hF hH
    obtain ⟨r1, hx2, hm⟩ := bnd_some hm
    refine callE (d := 71) (c_slices_Equal_Lbyte N x0.Text gx0 x1.Text gx1 r1 hx2) [.v (.n 0), .v (.n 1)] [] (by kernel_rfl) trivial (.inl rfl) (by kernel_rfl) (by kernel_rfl) (by kernel_rfl) (by kernel_rfl) hF hH ?_
    clear hF hH; rintro ⟨⟩ - a w hF hH
    refine seg [.p, .p] [4] (fun K => K [⟨4, none, .bool r1⟩] [.box g1 27 (cTBlock x0 gx0), .box g2 27 (cTBlock x1 gx1)]) (fun K => by kernel_rfl) hF hH ?_
    clear hF hH; intro a w hF hH
    refine wl_end (by kernel_rfl) ?_
    refine then_n ?_
    refine wp_retE (by kernel_rfl) ?_
    refine retE (vs := [.bool r1]) (p := True) (v := .bool r1) [] (by kernel_rfl) trivial (by kernel_rfl) hF hH ?_
    obtain rfl := Option.some.inj hm
    exact ⟨(), by kernel_rfl, hH.below, trivial, newK hH [] [] (by kernel_rfl) (by kernel_rfl) (by kernel_rfl) (by kernel_rfl)⟩
  · have hm := condF hx1 hm
    rw [hx1] at hF
    refine seg [.sk, .sk, .sk, .sk, .sk, .p, .p] [4] (fun K => (false = !true) ∧ (false = !true) ∧ (false = !true) ∧ (false = !true) ∧ (false = !true) ∧ K [⟨4, none, .bool false⟩] [.box g1 27 (cTBlock x0 gx0), .box g2 27 (cTBlock x1 gx1)]) (fun K => by kernel_rfl) hF hH ?_
    refine ⟨rfl, ?_⟩
    refine ⟨rfl, ?_⟩
    refine ⟨rfl, ?_⟩
    refine ⟨rfl, ?_⟩
    refine ⟨rfl, ?_⟩
    clear hF hH; intro a w hF hH
    refine wl_end (by kernel_rfl) ?_
    refine then_n ?_
    refine wp_retE (by kernel_rfl) ?_
    refine retE (vs := [.bool false]) (p := True) (v := .bool false) [] (by kernel_rfl) trivial (by kernel_rfl) hF hH ?_
    obtain rfl := Option.some.inj hm
    exact ⟨(), by kernel_rfl, hH.below, trivial, newK hH [] [] (by kernel_rfl) (by kernel_rfl) (by kernel_rfl) (by kernel_rfl)⟩

theorem c_tape_alike (N : Nat) (x0 : TBlock) (gx0 : Gs Unit) (x1 : TBlock) (gx1 : Gs Unit) (r : Bool) (hm : tape_alike N x0 x1 = some r) : CallOk Try.prog 28 [ag (cTBlock x0 gx0), ag (cTBlock x1 gx1)] [vw elB x0.Text.length x0.Text gx0, vw elB x1.Text.length x1.Text gx1] [] (U := Unit) (fun _ => .bool r) (fun _ => []) (fun _ => []) (fun _ => True) := by
  unfold tape_alike at hm
  refine callI (N := 59) Try.func28 (by kernel_rfl) (by kernel_rfl) (by kernel_rfl) ?_
  intro w0 B M a hF hH
  refine wp_seqE (by kernel_rfl) ?_
  refine wp_regE (by kernel_rfl) ?_
  refine seg [.bx, .bx, .p] [2, 3] (fun K => ∀ g1, ∀ g2, K [⟨2, none, .pointer (some ⟨g1, 0, none⟩)⟩, ⟨3, none, .pointer (some ⟨g2, 0, none⟩)⟩] [.box g1 27 (cTBlock x0 gx0), .box g2 27 (cTBlock x1 gx1)]) (fun K => by kernel_rfl) hF hH ?_
  intro g1
  intro g2
  clear hF hH; intro a w hF hH
  refine wl_end (by kernel_rfl) ?_
  refine then_n ?_
  refine wp_seqE (by kernel_rfl) ?_
  refine wp_regE (by kernel_rfl) ?_
  refine seg [.p, .ld (.r 0), .p, .ld (.r 1), .p, .p, .p, .ld (.r 0), .p, .ld (.r 1), .p, .pk, .p, .p, .ld (.r 0), .p, .ld (.r 1), .p, .pk, .p, .p, .ld (.r 0), .p, .ld (.r 1), .ae, .pk, .p, .p, .ld (.r 0), .p, .ld (.r 1), .ae, .pk, .p, .p, .ld (.r 0), .p, .ld (.r 1), .p, .pk, .p, .p, .ld (.r 0), .p, .ld (.r 1), .p, .pk, .p, .p, .ld (.r 0), .p, .ld (.r 1), .p, .pk, .p] [4] (fun K => (((g1 : Nat) = g1) ∧ ((none : Option Nat) = none)) ∧ (((g2 : Nat) = g2) ∧ ((none : Option Nat) = none)) ∧ (((g1 : Nat) = g1) ∧ ((none : Option Nat) = none)) ∧ (((g2 : Nat) = g2) ∧ ((none : Option Nat) = none)) ∧ (((g1 : Nat) = g1) ∧ ((none : Option Nat) = none)) ∧ (((g2 : Nat) = g2) ∧ ((none : Option Nat) = none)) ∧ (((g1 : Nat) = g1) ∧ ((none : Option Nat) = none)) ∧ (((g2 : Nat) = g2) ∧ ((none : Option Nat) = none)) ∧ (((g1 : Nat) = g1) ∧ ((none : Option Nat) = none)) ∧ (((g2 : Nat) = g2) ∧ ((none : Option Nat) = none)) ∧ (((g1 : Nat) = g1) ∧ ((none : Option Nat) = none)) ∧ (((g2 : Nat) = g2) ∧ ((none : Option Nat) = none)) ∧ (((g1 : Nat) = g1) ∧ ((none : Option Nat) = none)) ∧ (((g2 : Nat) = g2) ∧ ((none : Option Nat) = none)) ∧ (((g1 : Nat) = g1) ∧ ((none : Option Nat) = none)) ∧ (((g2 : Nat) = g2) ∧ ((none : Option Nat) = none)) ∧ K [⟨4, none, .bool ((((((((x0.Group == x1.Group) && (x0.Number == x1.Number)) && ((x0.Status.toNat : Int) == (x1.Status.toNat : Int))) && ((x0.In.H == x1.In.H) && ((x0.In.M == x1.In.M) && ((x0.In.S == x1.In.S) && ((x0.In.F == x1.In.F) && ((x0.In.Drop == x1.In.Drop) && true)))))) && ((x0.Out.H == x1.Out.H) && ((x0.Out.M == x1.Out.M) && ((x0.Out.S == x1.Out.S) && ((x0.Out.F == x1.Out.F) && ((x0.Out.Drop == x1.Out.Drop) && true)))))) && (x0.Row == x1.Row)) && ((x0.Align.toNat : Int) == (x1.Align.toNat : Int))) && (x0.Comment == x1.Comment))⟩] [.box g1 27 (cTBlock x0 gx0), .box g2 27 (cTBlock x1 gx1)]) (fun K => by kernel_rfl) hF hH ?_
  refine ⟨⟨rfl, rfl⟩, ?_⟩
  refine ⟨⟨rfl, rfl⟩, ?_⟩
  refine ⟨⟨rfl, rfl⟩, ?_⟩
  refine ⟨⟨rfl, rfl⟩, ?_⟩
  refine ⟨⟨rfl, rfl⟩, ?_⟩
  refine ⟨⟨rfl, rfl⟩, ?_⟩
  refine ⟨⟨rfl, rfl⟩, ?_⟩
  refine ⟨⟨rfl, rfl⟩, ?_⟩
  refine ⟨⟨rfl, rfl⟩, ?_⟩
  refine ⟨⟨rfl, rfl⟩, ?_⟩
  refine ⟨⟨rfl, rfl⟩, ?_⟩
  refine ⟨⟨rfl, rfl⟩, ?_⟩
  refine ⟨⟨rfl, rfl⟩, ?_⟩
  refine ⟨⟨rfl, rfl⟩, ?_⟩
  refine ⟨⟨rfl, rfl⟩, ?_⟩
  refine ⟨⟨rfl, rfl⟩, ?_⟩
  clear hF hH; intro a w hF hH
  refine wl_end (by kernel_rfl) ?_
  refine then_n ?_
  refine wp_retE (by kernel_rfl) ?_
  refine retE (vs := [.bool ((((((((x0.Group == x1.Group) && (x0.Number == x1.Number)) && ((x0.Status.toNat : Int) == (x1.Status.toNat : Int))) && ((x0.In.H == x1.In.H) && ((x0.In.M == x1.In.M) && ((x0.In.S == x1.In.S) && ((x0.In.F == x1.In.F) && ((x0.In.Drop == x1.In.Drop) && true)))))) && ((x0.Out.H == x1.Out.H) && ((x0.Out.M == x1.Out.M) && ((x0.Out.S == x1.Out.S) && ((x0.Out.F == x1.Out.F) && ((x0.Out.Drop == x1.Out.Drop) && true)))))) && (x0.Row == x1.Row)) && ((x0.Align.toNat : Int) == (x1.Align.toNat : Int))) && (x0.Comment == x1.Comment))]) (p := True) (v := .bool ((((((((x0.Group == x1.Group) && (x0.Number == x1.Number)) && ((x0.Status.toNat : Int) == (x1.Status.toNat : Int))) && ((x0.In.H == x1.In.H) && ((x0.In.M == x1.In.M) && ((x0.In.S == x1.In.S) && ((x0.In.F == x1.In.F) && ((x0.In.Drop == x1.In.Drop) && true)))))) && ((x0.Out.H == x1.Out.H) && ((x0.Out.M == x1.Out.M) && ((x0.Out.S == x1.Out.S) && ((x0.Out.F == x1.Out.F) && ((x0.Out.Drop == x1.Out.Drop) && true)))))) && (x0.Row == x1.Row)) && ((x0.Align.toNat : Int) == (x1.Align.toNat : Int))) && (x0.Comment == x1.Comment))) [] (by kernel_rfl) trivial (by kernel_rfl) hF hH ?_
  obtain rfl := Option.some.inj hm
  exact ⟨(), by kernel_rfl, hH.below, trivial, newK hH [] [] (by kernel_rfl) (by kernel_rfl) (by kernel_rfl) (by kernel_rfl)⟩

end Go.Proofs.Ytcccboodapgejaa
