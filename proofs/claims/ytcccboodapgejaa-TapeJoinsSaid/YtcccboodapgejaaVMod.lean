/-
  The functions that are reached, as plain Lean: printed by a program, each after the Go function of its name.
-/
import Derived.Test.YtcccboodapgejaaVRepLib
namespace Go.Cap
open Go Go.Sym

structure TLabel where
  H : Int
  M : Int
  S : Int
  F : Int
  Drop : Bool
def TLabel.z : TLabel := ⟨0, 0, 0, 0, false⟩
instance : Inhabited TLabel := ⟨TLabel.z⟩
structure TBlock where
  Group : Int
  Number : Int
  Extension : UInt8
  Status : UInt8
  In : TLabel
  Out : TLabel
  Row : Int
  Align : UInt8
  Comment : Bool
  Text : List UInt8
def TBlock.z : TBlock := ⟨0, 0, 0, 0, TLabel.z, TLabel.z, 0, 0, false, []⟩
instance : Inhabited TBlock := ⟨TBlock.z⟩

def bits_Mul32 (_N : Nat) (x0 : Int) (x1 : Int) : Option (Int × Int) := some (IntKind.wrap .u32 (Int.fdiv (IntKind.wrap .u64 ((IntKind.wrap .u64 x0) * (IntKind.wrap .u64 x1))) (2 ^ 32)), IntKind.wrap .u32 (IntKind.wrap .u64 ((IntKind.wrap .u64 x0) * (IntKind.wrap .u64 x1))))

def bits_Mul64 (_N : Nat) (x0 : Int) (x1 : Int) : Option (Int × Int) := some (IntKind.wrap .u64 ((IntKind.wrap .u64 ((IntKind.wrap .u64 ((Int.fdiv x0 (2 ^ 32)) * (Int.fdiv x1 (2 ^ 32)))) + (Int.fdiv (IntKind.wrap .u64 ((IntKind.wrap .u64 ((Int.fdiv x0 (2 ^ 32)) * (bits .and .u64 x1 4294967295))) + (Int.fdiv (IntKind.wrap .u64 ((bits .and .u64 x0 4294967295) * (bits .and .u64 x1 4294967295))) (2 ^ 32)))) (2 ^ 32)))) + (Int.fdiv (IntKind.wrap .u64 ((bits .and .u64 (IntKind.wrap .u64 ((IntKind.wrap .u64 ((Int.fdiv x0 (2 ^ 32)) * (bits .and .u64 x1 4294967295))) + (Int.fdiv (IntKind.wrap .u64 ((bits .and .u64 x0 4294967295) * (bits .and .u64 x1 4294967295))) (2 ^ 32)))) 4294967295) + (IntKind.wrap .u64 ((bits .and .u64 x0 4294967295) * (Int.fdiv x1 (2 ^ 32)))))) (2 ^ 32))), IntKind.wrap .u64 (x0 * x1))

def bits_Mul (N : Nat) (x0 : Int) (x1 : Int) : Option (Int × Int) := (bits_Mul64 N x0 x1).bind fun r1 => (some (r1.1, r1.2))

/-- one byte, at most 8192 times -/
def bytes_Repeat (_N : Nat) (x0 : List UInt8) (x1 : Int) : Option (List UInt8) := grd (x0.length = 1 ∧ 0 ≤ x1 ∧ x1 ≤ 8192) (some (List.replicate x1.toNat (x0.getD 0 0)))

def bytes_Clone_some (_N : Nat) (x0 : List UInt8) : Option (List UInt8) := grd ((0 + x0.length) * 1 ≤ 140737488355328) (some x0)
def bytes_Clone_none (_N : Nat) : Option (List UInt8) := some []
def bytes_Clone (N : Nat) (x0 : List UInt8) : Option (List UInt8) := bytes_Clone_some N x0

def l23_example (_N : Nat) : Option TBlock := some (⟨0, 258, 255, 0, (⟨1, 2, 3, 4, false⟩ : TLabel), (⟨1, 2, 5, 0, false⟩ : TLabel), 13, 2, false, [65]⟩ : TBlock)

def tape_timed (_N : Nat) (x0 : TLabel) : Option Int := cond ((((((((decide (x0.H < 0)) || (decide (23 < x0.H))) || (decide (x0.M < 0))) || (decide (59 < x0.M))) || (decide (x0.S < 0))) || (decide (59 < x0.S))) || (decide (x0.F < 0))) || (decide (29 < x0.F))) (some 2) (some 0)

def bytes_IndexByte (_N : Nat) (x0 : List UInt8) (x1 : UInt8) : Option Int := some (ixB x0 x1)

def tape_Check (N : Nat) (x0 : TBlock) : Option Int := cond ((((decide (x0.Group < 0)) || (decide (255 < x0.Group))) || (decide (x0.Number < 0))) || (decide (65535 < x0.Number))) (some 2) (cond (((decide (240 ≤ (x0.Extension.toNat : Int))) && (decide ((x0.Extension.toNat : Int) < 255))) || (decide (3 < (x0.Status.toNat : Int)))) (some 3) ((tape_timed N x0.In).bind fun r1 => (cond (r1 != 0) (some 2) ((tape_timed N x0.Out).bind fun r2 => (cond (r2 != 0) (some 2) (cond (x0.In.Drop || x0.Out.Drop) (some 13) (cond ((decide (x0.Row < 0)) || (decide (15 ≤ x0.Row))) (some 2) (cond ((decide ((x0.Align.toNat : Int) < 1)) || (decide (3 < (x0.Align.toNat : Int)))) (some 3) (cond (decide (112 < (x0.Text.length : Int))) (some 9) ((bytes_IndexByte N x0.Text 143).bind fun r3 => (cond (decide (0 ≤ r3)) (some 4) (some 0))))))))))))

def tape_Put (N : Nat) (x0 : TBlock) : Option ((List UInt8) × Int) := (tape_Check N x0).bind fun r1 => (cond (r1 != 0) (some ([], r1)) (jn (fun (v1 : UInt8) => grd ((16 + x0.Text.length) * 1 ≤ 140737488355328) ((bytes_Repeat N [143] (w64 (128 - (([b8 x0.Group, b8 x0.Number, b8 (Int.fdiv x0.Number (2 ^ 8)), x0.Extension, x0.Status, b8 x0.In.H, b8 x0.In.M, b8 x0.In.S, b8 x0.In.F, b8 x0.Out.H, b8 x0.Out.M, b8 x0.Out.S, b8 x0.Out.F, b8 x0.Row, x0.Align, v1] ++ x0.Text).length : Int)))).bind fun r2 => (grd ((([b8 x0.Group, b8 x0.Number, b8 (Int.fdiv x0.Number (2 ^ 8)), x0.Extension, x0.Status, b8 x0.In.H, b8 x0.In.M, b8 x0.In.S, b8 x0.In.F, b8 x0.Out.H, b8 x0.Out.M, b8 x0.Out.S, b8 x0.Out.F, b8 x0.Row, x0.Align, v1] ++ x0.Text).length + r2.length) * 1 ≤ 140737488355328) (some (([b8 x0.Group, b8 x0.Number, b8 (Int.fdiv x0.Number (2 ^ 8)), x0.Extension, x0.Status, b8 x0.In.H, b8 x0.In.M, b8 x0.In.S, b8 x0.In.F, b8 x0.Out.H, b8 x0.Out.M, b8 x0.Out.S, b8 x0.Out.F, b8 x0.Row, x0.Align, v1] ++ x0.Text) ++ r2, 0))))) (fun jk1 => cond x0.Comment (jk1 1) (jk1 0))))

def slices_Equal_Lbyte_L4 (_N : Nat) (x0 : List UInt8) (x1 : List UInt8) (jk1 : Option Bool) : Nat → Int → Option Bool
  | 0, _ => none
  | n + 1, v1 => cond (decide (v1 < (x0.length : Int))) (grd (0 ≤ v1 ∧ v1 < (x0.length : Int)) (grd (0 ≤ v1 ∧ v1 < (x1.length : Int)) (cond (((x0.getD v1.toNat 0).toNat : Int) != ((x1.getD v1.toNat 0).toNat : Int)) (some false) (slices_Equal_Lbyte_L4 _N x0 x1 jk1 n (w64 (v1 + 1)))))) (jk1)
def slices_Equal_Lbyte (N : Nat) (x0 : List UInt8) (x1 : List UInt8) : Option Bool := cond ((x0.length : Int) != (x1.length : Int)) (some false) (jn (some true) (fun jk1 => slices_Equal_Lbyte_L4 N x0 x1 jk1 N 0))

def tape_Split_L12 (N : Nat) (x0 : TBlock) (x1 : List UInt8) (jk1 : (List TBlock) → Option ((List TBlock) × Int)) : Nat → (List TBlock) → Int → Option ((List TBlock) × Int)
  | 0, _, _ => none
  | n + 1, v2, v3 => cond (decide (v3 < (max 1 (w64 (Int.tdiv (w64 ((w64 ((x1.length : Int) + 112)) - 1)) 112))))) (jn (fun (v4 : UInt8) => grd (0 ≤ w64 (v3 * 112) ∧ 0 ≤ min (x1.length : Int) (w64 ((w64 (v3 + 1)) * 112)) ∧ (w64 (v3 * 112)).toNat ≤ (min (x1.length : Int) (w64 ((w64 (v3 + 1)) * 112))).toNat ∧ (min (x1.length : Int) (w64 ((w64 (v3 + 1)) * 112))).toNat ≤ x1.length) ((bytes_Clone N ((x1.take ((min (x1.length : Int) (w64 ((w64 (v3 + 1)) * 112))).toNat)).drop ((w64 (v3 * 112)).toNat))).bind fun r3 => (grd ((v2.length + 1) * 144 ≤ 140737488355328) (tape_Split_L12 N x0 x1 jk1 n (v2 ++ [{ x0 with Extension := v4, Text := r3 }]) (w64 (v3 + 1)))))) (fun jk2 => cond (v3 == (w64 ((max 1 (w64 (Int.tdiv (w64 ((w64 ((x1.length : Int) + 112)) - 1)) 112))) - 1))) (jk2 255) (jk2 (b8 v3)))) (jk1 v2)
def tape_Split (N : Nat) (x0 : TBlock) (x1 : List UInt8) : Option ((List TBlock) × Int) := (tape_Check N ({ x0 with Extension := 0, Text := [] })).bind fun r1 => (cond (r1 != 0) (some ([], r1)) (cond (decide (241 < (max 1 (w64 (Int.tdiv (w64 ((w64 ((x1.length : Int) + 112)) - 1)) 112))))) (some ([], 9)) ((bytes_IndexByte N x1 143).bind fun r2 => (cond (decide (0 ≤ r2)) (some ([], 4)) (jn (fun (v1 : List TBlock) => some (v1, 0)) (fun jk1 => tape_Split_L12 N x0 x1 jk1 N [] 0))))))

def l23_awake (N : Nat) : Option Bool := (l23_example N).bind fun r1 => ((tape_Put N r1).bind fun r2 => (cond ((r2.2 != 0) || ((r2.1.length : Int) != 128)) (some false) (grd (17 ≤ r2.1.length) ((slices_Equal_Lbyte N (r2.1.take 17) [0, 2, 1, 255, 0, 1, 2, 3, 4, 1, 2, 5, 0, 13, 2, 0, 65]).bind fun r3 => (grd (((!r3) = false → 17 < r2.1.length)) (grd ((((!r3) || (((r2.1.getD 17 0).toNat : Int) != 143)) = false → 127 < r2.1.length)) (cond (((!r3) || (((r2.1.getD 17 0).toNat : Int) != 143)) || (((r2.1.getD 127 0).toNat : Int) != 143)) (some false) ((l23_example N).bind fun r4 => ((tape_Split N r4 (List.replicate 113 0)).bind fun r5 => (grd ((((r5.2 == 0) && ((r5.1.length : Int) == 2)) = true → 0 < r5.1.length)) (grd (((((r5.2 == 0) && ((r5.1.length : Int) == 2)) && ((((r5.1.getD 0 TBlock.z).Extension).toNat : Int) == 0)) = true → 1 < r5.1.length)) (grd ((((((r5.2 == 0) && ((r5.1.length : Int) == 2)) && ((((r5.1.getD 0 TBlock.z).Extension).toNat : Int) == 0)) && ((((r5.1.getD 1 TBlock.z).Extension).toNat : Int) == 255)) = true → 0 < r5.1.length)) (grd (((((((r5.2 == 0) && ((r5.1.length : Int) == 2)) && ((((r5.1.getD 0 TBlock.z).Extension).toNat : Int) == 0)) && ((((r5.1.getD 1 TBlock.z).Extension).toNat : Int) == 255)) && ((((r5.1.getD 0 TBlock.z).Text).length : Int) == 112)) = true → 1 < r5.1.length)) (some ((((((r5.2 == 0) && ((r5.1.length : Int) == 2)) && ((((r5.1.getD 0 TBlock.z).Extension).toNat : Int) == 0)) && ((((r5.1.getD 1 TBlock.z).Extension).toNat : Int) == 255)) && ((((r5.1.getD 0 TBlock.z).Text).length : Int) == 112)) && ((((r5.1.getD 1 TBlock.z).Text).length : Int) == 1))))))))))))))))

def l23_short (_N : Nat) (x0 : TBlock) : Option TBlock := grd (0 ≤ min (x0.Text.length : Int) 200 ∧ (min (x0.Text.length : Int) 200).toNat ≤ x0.Text.length) (some ({ x0 with Text := x0.Text.take ((min (x0.Text.length : Int) 200).toNat) }))

def l23_TapeSizes_L8 (_N : Nat) (r3 : (List TBlock) × Int) (jk1 : Option Bool) : Nat → Int → Option Bool
  | 0, _ => none
  | n + 1, v1 => cond (decide (v1 < (r3.1.length : Int))) (grd (0 ≤ v1 ∧ v1 < (r3.1.length : Int)) (cond ((decide ((w64 (v1 + 1)) < (r3.1.length : Int))) && (((((r3.1.getD v1.toNat TBlock.z).Text).length : Int) != 112) || ((((r3.1.getD v1.toNat TBlock.z).Extension).toNat : Int) != v1))) (some false) (l23_TapeSizes_L8 _N r3 jk1 n (w64 (v1 + 1))))) (jk1)
def l23_TapeSizes (N : Nat) (x0 : TBlock) (x1 : List UInt8) : Option Bool := (l23_awake N).bind fun r1 => (cond (!r1) (some false) ((l23_short N x0).bind fun r2 => (grd (0 ≤ min (x1.length : Int) 700 ∧ (min (x1.length : Int) 700).toNat ≤ x1.length) ((tape_Split N r2 (x1.take ((min (x1.length : Int) 700).toNat))).bind fun r3 => (cond (r3.2 != 0) (some true) (jn (grd ((((r3.1.length : Int) == (max (w64 (Int.tdiv (w64 (((x1.take ((min (x1.length : Int) 700).toNat)).length : Int) + 111)) 112)) 1)) = true → 0 ≤ w64 ((r3.1.length : Int) - 1) ∧ w64 ((r3.1.length : Int) - 1) < (r3.1.length : Int))) (some (((r3.1.length : Int) == (max (w64 (Int.tdiv (w64 (((x1.take ((min (x1.length : Int) 700).toNat)).length : Int) + 111)) 112)) 1)) && ((((r3.1.getD ((w64 ((r3.1.length : Int) - 1)).toNat) TBlock.z).Extension).toNat : Int) == 255)))) (fun jk1 => l23_TapeSizes_L8 N r3 jk1 N 0)))))))

def r23_within (_N : Nat) (x0 : Int) (x1 : Int) (x2 : Int) : Option Bool := some ((decide (x1 ≤ x0)) && (decide (x0 ≤ x2)))

def r23_clock (N : Nat) (x0 : TLabel) : Option Bool := (r23_within N x0.H 0 23).bind fun r1 => (cond r1 ((r23_within N x0.M 0 59).bind fun r2 => (cond r2 ((r23_within N x0.S 0 59).bind fun r3 => (cond r3 ((r23_within N x0.F 0 29).bind fun r4 => (some r4)) (some false))) (some false))) (some false))

def r23_filled_L2 (_N : Nat) (x0 : List UInt8) (jk1 : Option Bool) : Nat → Int → Option Bool
  | 0, _ => none
  | n + 1, v1 => cond (decide (v1 < (x0.length : Int))) (grd (0 ≤ v1 ∧ v1 < (x0.length : Int)) (cond (((x0.getD v1.toNat 0).toNat : Int) == 143) (some true) (r23_filled_L2 _N x0 jk1 n (w64 (v1 + 1))))) (jk1)
def r23_filled (N : Nat) (x0 : List UInt8) : Option Bool := jn (some false) (fun jk1 => r23_filled_L2 N x0 jk1 N 0)

def r23_Check (N : Nat) (x0 : TBlock) : Option Int := (r23_within N x0.Group 0 255).bind fun r1 => (cond (!r1) (some 2) ((r23_within N x0.Number 0 65535).bind fun r2 => (cond (!r2) (some 2) (cond (((decide (240 ≤ (x0.Extension.toNat : Int))) && (decide ((x0.Extension.toNat : Int) ≤ 254))) || (decide (3 < (x0.Status.toNat : Int)))) (some 3) ((r23_clock N x0.In).bind fun r3 => (cond (!r3) (some 2) ((r23_clock N x0.Out).bind fun r4 => (cond (!r4) (some 2) (cond (x0.In.Drop || x0.Out.Drop) (some 13) ((r23_within N x0.Row 0 14).bind fun r5 => (cond (!r5) (some 2) (cond ((decide ((x0.Align.toNat : Int) < 1)) || (decide (3 < (x0.Align.toNat : Int)))) (some 3) (cond (decide (112 < (x0.Text.length : Int))) (some 9) ((r23_filled N x0.Text).bind fun r6 => (cond r6 (some 4) (some 0))))))))))))))))

def r23_Split_L11 (_N : Nat) (x0 : TBlock) (jk1 : (List TBlock) → Option ((List TBlock) × Int)) : Nat → (List UInt8) → (List TBlock) → Bool → UInt8 → (List UInt8) → Option ((List TBlock) × Int)
  | 0, _, _, _, _, _ => none
  | n + 1, v2, v3, v4, v5, v6 => cond (v4 || (decide (0 < (v2.length : Int)))) (grd (0 ≤ min (v2.length : Int) 112 ∧ (min (v2.length : Int) 112).toNat ≤ v2.length) (grd ((0 + (v2.take ((min (v2.length : Int) 112).toNat)).length) * 1 ≤ 140737488355328) (grd (0 ≤ min (v2.length : Int) 112 ∧ (min (v2.length : Int) 112).toNat ≤ v2.length) (cond (((v2.drop ((min (v2.length : Int) 112).toNat)).length : Int) == 0) (grd ((v3.length + 1) * 144 ≤ 140737488355328) (r23_Split_L11 _N x0 jk1 n (v2.drop ((min (v2.length : Int) 112).toNat)) (v3 ++ [{ x0 with Extension := 255, Text := v2.take ((min (v2.length : Int) 112).toNat) }]) false 255 (v2.take ((min (v2.length : Int) 112).toNat)))) (grd ((v3.length + 1) * 144 ≤ 140737488355328) (r23_Split_L11 _N x0 jk1 n (v2.drop ((min (v2.length : Int) 112).toNat)) (v3 ++ [{ x0 with Extension := b8 (v3.length : Int), Text := v2.take ((min (v2.length : Int) 112).toNat) }]) false (b8 (v3.length : Int)) (v2.take ((min (v2.length : Int) 112).toNat)))))))) (jk1 v3)
def r23_Split (N : Nat) (x0 : TBlock) (x1 : List UInt8) : Option ((List TBlock) × Int) := (r23_Check N ({ x0 with Extension := 0, Text := [] })).bind fun r1 => (cond (r1 != 0) (some ([], r1)) (cond (decide (26992 < (x1.length : Int))) (some ([], 9)) ((r23_filled N x1).bind fun r2 => (cond r2 (some ([], 4)) (jn (fun (v1 : List TBlock) => some (v1, 0)) (fun jk1 => r23_Split_L11 N x0 jk1 N x1 [] true 0 []))))))

def l23_same (N : Nat) (x0 : TBlock) (x1 : TBlock) : Option Bool := cond (((((((((x0.Group == x1.Group) && (x0.Number == x1.Number)) && ((x0.Extension.toNat : Int) == (x1.Extension.toNat : Int))) && ((x0.Status.toNat : Int) == (x1.Status.toNat : Int))) && ((x0.In.H == x1.In.H) && ((x0.In.M == x1.In.M) && ((x0.In.S == x1.In.S) && ((x0.In.F == x1.In.F) && ((x0.In.Drop == x1.In.Drop) && true)))))) && ((x0.Out.H == x1.Out.H) && ((x0.Out.M == x1.Out.M) && ((x0.Out.S == x1.Out.S) && ((x0.Out.F == x1.Out.F) && ((x0.Out.Drop == x1.Out.Drop) && true)))))) && (x0.Row == x1.Row)) && ((x0.Align.toNat : Int) == (x1.Align.toNat : Int))) && (x0.Comment == x1.Comment)) ((slices_Equal_Lbyte N x0.Text x1.Text).bind fun r1 => (some r1)) (some false)

def tape_alike (_N : Nat) (x0 : TBlock) (x1 : TBlock) : Option Bool := some ((((((((x0.Group == x1.Group) && (x0.Number == x1.Number)) && ((x0.Status.toNat : Int) == (x1.Status.toNat : Int))) && ((x0.In.H == x1.In.H) && ((x0.In.M == x1.In.M) && ((x0.In.S == x1.In.S) && ((x0.In.F == x1.In.F) && ((x0.In.Drop == x1.In.Drop) && true)))))) && ((x0.Out.H == x1.Out.H) && ((x0.Out.M == x1.Out.M) && ((x0.Out.S == x1.Out.S) && ((x0.Out.F == x1.Out.F) && ((x0.Out.Drop == x1.Out.Drop) && true)))))) && (x0.Row == x1.Row)) && ((x0.Align.toNat : Int) == (x1.Align.toNat : Int))) && (x0.Comment == x1.Comment))

def tape_Join_L4 (N : Nat) (x0 : List TBlock) (jk1 : Option (TBlock × (List UInt8) × Int)) : Nat → Int → Option (TBlock × (List UInt8) × Int)
  | 0, _ => none
  | n + 1, v1 => cond (decide (v1 < (x0.length : Int))) (grd (0 ≤ v1 ∧ v1 < (x0.length : Int)) ((tape_Check N (x0.getD v1.toNat TBlock.z)).bind fun r1 => (cond (r1 != 0) (some (TBlock.z, [], r1)) (tape_Join_L4 N x0 jk1 n (w64 (v1 + 1)))))) (jk1)
def tape_Join_L12 (N : Nat) (x0 : List TBlock) (jk2 : Option (TBlock × (List UInt8) × Int)) : Nat → Int → Option (TBlock × (List UInt8) × Int)
  | 0, _ => none
  | n + 1, v2 => cond (decide (v2 < (x0.length : Int))) (grd (0 ≤ v2 ∧ v2 < (x0.length : Int)) (jn (fun (v3 : Int) => grd ((((((x0.getD v2.toNat TBlock.z).Extension).toNat : Int) != v3) = false → 0 < x0.length)) (cond ((((x0.getD v2.toNat TBlock.z).Extension).toNat : Int) != v3) (some (TBlock.z, [], 8)) ((tape_alike N (x0.getD v2.toNat TBlock.z) (x0.getD 0 TBlock.z)).bind fun r2 => (cond (!r2) (some (TBlock.z, [], 8)) (tape_Join_L12 N x0 jk2 n (w64 (v2 + 1))))))) (fun jk3 => cond (v2 == (w64 ((x0.length : Int) - 1))) (jk3 255) (jk3 v2)))) (jk2)
def tape_Join_L22 (_N : Nat) (x0 : List TBlock) (jk4 : (List UInt8) → Option (TBlock × (List UInt8) × Int)) : Nat → (List UInt8) → Int → Option (TBlock × (List UInt8) × Int)
  | 0, _, _ => none
  | n + 1, v5, v6 => cond (decide (v6 < (x0.length : Int))) (grd (0 ≤ v6 ∧ v6 < (x0.length : Int)) (cond (((decide (v6 < (w64 ((x0.length : Int) - 1)))) && (decide ((((x0.getD v6.toNat TBlock.z).Text).length : Int) < 112))) || (((v6 == (w64 ((x0.length : Int) - 1))) && (decide (0 < (w64 ((x0.length : Int) - 1))))) && ((((x0.getD v6.toNat TBlock.z).Text).length : Int) == 0))) (some (TBlock.z, [], 4)) (grd ((v5.length + ((x0.getD v6.toNat TBlock.z).Text).length) * 1 ≤ 140737488355328) (tape_Join_L22 _N x0 jk4 n (v5 ++ ((x0.getD v6.toNat TBlock.z).Text)) (w64 (v6 + 1)))))) (jk4 v5)
def tape_Join (N : Nat) (x0 : List TBlock) : Option (TBlock × (List UInt8) × Int) := cond ((x0.length : Int) == 0) (some (TBlock.z, [], 6)) (jn (jn (jn (fun (v4 : List UInt8) => grd (0 < x0.length) (some ({ (x0.getD 0 TBlock.z) with Extension := 255, Text := [] }, v4, 0))) (fun jk4 => tape_Join_L22 N x0 jk4 N [] 0)) (fun jk2 => tape_Join_L12 N x0 jk2 N 0)) (fun jk1 => tape_Join_L4 N x0 jk1 N 0))

def slices_EqualFunc_LBlock_l23_same_L4 (N : Nat) (x0 : List TBlock) (x1 : List TBlock) (jk1 : Option Bool) : Nat → Int → Option Bool
  | 0, _ => none
  | n + 1, v1 => cond (decide (v1 < (x0.length : Int))) (grd (0 ≤ v1 ∧ v1 < (x0.length : Int)) (grd (0 ≤ v1 ∧ v1 < (x1.length : Int)) ((l23_same N (x0.getD v1.toNat TBlock.z) (x1.getD v1.toNat TBlock.z)).bind fun r1 => (cond (!r1) (some false) (slices_EqualFunc_LBlock_l23_same_L4 N x0 x1 jk1 n (w64 (v1 + 1))))))) (jk1)
def slices_EqualFunc_LBlock_l23_same (N : Nat) (x0 : List TBlock) (x1 : List TBlock) : Option Bool := cond ((x0.length : Int) != (x1.length : Int)) (some false) (jn (some true) (fun jk1 => slices_EqualFunc_LBlock_l23_same_L4 N x0 x1 jk1 N 0))

def l23_TapeSplits (N : Nat) (x0 : TBlock) (x1 : List UInt8) : Option Bool := (l23_awake N).bind fun r1 => (cond (!r1) (some false) ((l23_short N x0).bind fun r2 => (grd (0 ≤ min (x1.length : Int) 500 ∧ (min (x1.length : Int) 500).toNat ≤ x1.length) ((tape_Split N r2 (x1.take ((min (x1.length : Int) 500).toNat))).bind fun r3 => ((r23_Split N r2 (x1.take ((min (x1.length : Int) 500).toNat))).bind fun r4 => ((slices_EqualFunc_LBlock_l23_same N r3.1 r4.1).bind fun r5 => (cond ((!r5) || (r3.2 != r4.2)) (some false) (cond (r3.2 != 0) (some ((r3.1.length : Int) == 0)) ((tape_Join N r3.1).bind fun r6 => (cond (r6.2.2 == 0) ((l23_same N r6.1 ({ r2 with Extension := 255, Text := [] })).bind fun r7 => (cond r7 ((slices_Equal_Lbyte N r6.2.1 (x1.take ((min (x1.length : Int) 500).toNat))).bind fun r8 => (some r8)) (some false))) (some false)))))))))))

def l23_few (_N : Nat) (x0 : List TBlock) : Option (List TBlock) := grd (0 ≤ min (x0.length : Int) 5 ∧ (min (x0.length : Int) 5).toNat ≤ x0.length) (some (x0.take ((min (x0.length : Int) 5).toNat)))

def r23_alike (_N : Nat) (x0 : TBlock) (x1 : TBlock) : Option Bool := some ((((((((x0.Group == x1.Group) && (x0.Number == x1.Number)) && ((x0.Status.toNat : Int) == (x1.Status.toNat : Int))) && ((x0.In.H == x1.In.H) && ((x0.In.M == x1.In.M) && ((x0.In.S == x1.In.S) && ((x0.In.F == x1.In.F) && ((x0.In.Drop == x1.In.Drop) && true)))))) && ((x0.Out.H == x1.Out.H) && ((x0.Out.M == x1.Out.M) && ((x0.Out.S == x1.Out.S) && ((x0.Out.F == x1.Out.F) && ((x0.Out.Drop == x1.Out.Drop) && true)))))) && (x0.Row == x1.Row)) && ((x0.Align.toNat : Int) == (x1.Align.toNat : Int))) && (x0.Comment == x1.Comment))

def r23_Join_L4 (N : Nat) (x0 : List TBlock) (jk1 : Option (TBlock × (List UInt8) × Int)) : Nat → Int → Option (TBlock × (List UInt8) × Int)
  | 0, _ => none
  | n + 1, v1 => cond (decide (v1 < (x0.length : Int))) (grd (0 ≤ v1 ∧ v1 < (x0.length : Int)) ((r23_Check N (x0.getD v1.toNat TBlock.z)).bind fun r1 => (cond (r1 != 0) (some (TBlock.z, [], r1)) (r23_Join_L4 N x0 jk1 n (w64 (v1 + 1)))))) (jk1)
def r23_Join_L12 (N : Nat) (x0 : List TBlock) (jk2 : Option (TBlock × (List UInt8) × Int)) : Nat → Int → Option (TBlock × (List UInt8) × Int)
  | 0, _ => none
  | n + 1, v2 => cond (decide (v2 < (x0.length : Int))) (grd (0 ≤ v2 ∧ v2 < (x0.length : Int)) (grd (((((decide (v2 < (w64 ((x0.length : Int) - 1)))) && ((((x0.getD v2.toNat TBlock.z).Extension).toNat : Int) != v2)) || ((v2 == (w64 ((x0.length : Int) - 1))) && ((((x0.getD v2.toNat TBlock.z).Extension).toNat : Int) != 255))) = false → 0 < x0.length)) (cond (((decide (v2 < (w64 ((x0.length : Int) - 1)))) && ((((x0.getD v2.toNat TBlock.z).Extension).toNat : Int) != v2)) || ((v2 == (w64 ((x0.length : Int) - 1))) && ((((x0.getD v2.toNat TBlock.z).Extension).toNat : Int) != 255))) (some (TBlock.z, [], 8)) ((r23_alike N (x0.getD v2.toNat TBlock.z) (x0.getD 0 TBlock.z)).bind fun r2 => (cond (!r2) (some (TBlock.z, [], 8)) (r23_Join_L12 N x0 jk2 n (w64 (v2 + 1)))))))) (jk2)
def r23_Join_L19 (_N : Nat) (x0 : List TBlock) (jk3 : (List UInt8) → Option (TBlock × (List UInt8) × Int)) : Nat → (List UInt8) → Int → Option (TBlock × (List UInt8) × Int)
  | 0, _, _ => none
  | n + 1, v4, v5 => cond (decide (v5 < (x0.length : Int))) (grd (0 ≤ v5 ∧ v5 < (x0.length : Int)) (cond (((decide (v5 < (w64 ((x0.length : Int) - 1)))) && (decide ((((x0.getD v5.toNat TBlock.z).Text).length : Int) < 112))) || (((v5 == (w64 ((x0.length : Int) - 1))) && (decide (0 < v5))) && ((((x0.getD v5.toNat TBlock.z).Text).length : Int) == 0))) (some (TBlock.z, [], 4)) (grd ((v4.length + ((x0.getD v5.toNat TBlock.z).Text).length) * 1 ≤ 140737488355328) (r23_Join_L19 _N x0 jk3 n (v4 ++ ((x0.getD v5.toNat TBlock.z).Text)) (w64 (v5 + 1)))))) (jk3 v4)
def r23_Join (N : Nat) (x0 : List TBlock) : Option (TBlock × (List UInt8) × Int) := cond ((x0.length : Int) == 0) (some (TBlock.z, [], 6)) (jn (jn (jn (fun (v3 : List UInt8) => grd (0 < x0.length) (some ({ (x0.getD 0 TBlock.z) with Extension := 255, Text := [] }, v3, 0))) (fun jk3 => r23_Join_L19 N x0 jk3 N [] 0)) (fun jk2 => r23_Join_L12 N x0 jk2 N 0)) (fun jk1 => r23_Join_L4 N x0 jk1 N 0))

def l23_TapeJoins_L5 (_N : Nat) (r2 : List TBlock) (jk1 : Option Bool) : Nat → Int → Option Bool
  | 0, _ => none
  | n + 1, v1 => cond (decide (v1 < (r2.length : Int))) (grd (0 ≤ v1 ∧ v1 < (r2.length : Int)) (cond (decide (200 < (((r2.getD v1.toNat TBlock.z).Text).length : Int))) (some true) (l23_TapeJoins_L5 _N r2 jk1 n (w64 (v1 + 1))))) (jk1)
def l23_TapeJoins (N : Nat) (x0 : List TBlock) : Option Bool := (l23_awake N).bind fun r1 => (cond (!r1) (some false) ((l23_few N x0).bind fun r2 => (jn ((tape_Join N r2).bind fun r3 => ((r23_Join N r2).bind fun r4 => ((l23_same N r3.1 r4.1).bind fun r5 => (cond (!r5) (some false) ((slices_Equal_Lbyte N r3.2.1 r4.2.1).bind fun r6 => (cond ((!r6) || (r3.2.2 != r4.2.2)) (some false) ((tape_Split N r3.1 r3.2.1).bind fun r7 => (cond (r3.2.2 != 0) (some true) (cond (r7.2 == 0) ((slices_EqualFunc_LBlock_l23_same N r2 r7.1).bind fun r8 => (some r8)) (some false)))))))))) (fun jk1 => l23_TapeJoins_L5 N r2 jk1 N 0))))

def r23_fill_L2 (_N : Nat) (x1 : Int) (x2 : UInt8) (jk1 : (List UInt8) → Option (List UInt8)) : Nat → (List UInt8) → Option (List UInt8)
  | 0, _ => none
  | n + 1, v2 => cond (decide ((v2.length : Int) < x1)) (grd ((v2.length + 1) * 1 ≤ 140737488355328) (r23_fill_L2 _N x1 x2 jk1 n (v2 ++ [x2]))) (jk1 v2)
def r23_fill (N : Nat) (x0 : List UInt8) (x1 : Int) (x2 : UInt8) : Option (List UInt8) := grd ((0 + x0.length) * 1 ≤ 140737488355328) (jn (fun (v1 : List UInt8) => some v1) (fun jk1 => r23_fill_L2 N x1 x2 jk1 N x0))

def r23_Put (N : Nat) (x0 : TBlock) : Option ((List UInt8) × Int) := (r23_Check N x0).bind fun r1 => (cond (r1 != 0) (some ([], r1)) (grd ((5 + 8) * 1 ≤ 140737488355328) (jn (fun (v1 : UInt8) => grd ((([b8 x0.Group, b8 (Int.tmod x0.Number 256), b8 (w64 (Int.tdiv x0.Number 256)), x0.Extension, x0.Status] ++ [b8 x0.In.H, b8 x0.In.M, b8 x0.In.S, b8 x0.In.F, b8 x0.Out.H, b8 x0.Out.M, b8 x0.Out.S, b8 x0.Out.F]).length + 3) * 1 ≤ 140737488355328) ((r23_fill N x0.Text 112 143).bind fun r2 => (grd (((([b8 x0.Group, b8 (Int.tmod x0.Number 256), b8 (w64 (Int.tdiv x0.Number 256)), x0.Extension, x0.Status] ++ [b8 x0.In.H, b8 x0.In.M, b8 x0.In.S, b8 x0.In.F, b8 x0.Out.H, b8 x0.Out.M, b8 x0.Out.S, b8 x0.Out.F]) ++ [b8 x0.Row, x0.Align, v1]).length + r2.length) * 1 ≤ 140737488355328) (some ((([b8 x0.Group, b8 (Int.tmod x0.Number 256), b8 (w64 (Int.tdiv x0.Number 256)), x0.Extension, x0.Status] ++ [b8 x0.In.H, b8 x0.In.M, b8 x0.In.S, b8 x0.In.F, b8 x0.Out.H, b8 x0.Out.M, b8 x0.Out.S, b8 x0.Out.F]) ++ [b8 x0.Row, x0.Align, v1]) ++ r2, 0))))) (fun jk1 => cond x0.Comment (jk1 1) (jk1 0)))))

def tape_times (_N : Nat) (x0 : List UInt8) : Option TLabel := grd (0 < x0.length) (grd (1 < x0.length) (grd (2 < x0.length) (grd (3 < x0.length) (some (⟨((x0.getD 0 0).toNat : Int), ((x0.getD 1 0).toNat : Int), ((x0.getD 2 0).toNat : Int), ((x0.getD 3 0).toNat : Int), false⟩ : TLabel)))))

def bytes_Equal (_N : Nat) (x0 : List UInt8) (x1 : List UInt8) : Option Bool := some (decide (x0 = x1))

def bytes_Index (N : Nat) (x0 : List UInt8) (x1 : List UInt8) : Option Int := cond ((x1.length : Int) == 0) (some 0) (cond ((x1.length : Int) == 1) (grd (0 < x1.length) ((bytes_IndexByte N x0 (x1.getD 0 0)).bind fun r1 => (some r1))) (cond ((x1.length : Int) == (x0.length : Int)) ((bytes_Equal N x1 x0).bind fun r2 => (cond r2 (some 0) (some (-1)))) (cond (decide ((x0.length : Int) < (x1.length : Int))) (some (-1)) (none))))

def bytes_Cut (N : Nat) (x0 : List UInt8) (x1 : List UInt8) : Option ((List UInt8) × (List UInt8) × Bool) := (bytes_Index N x0 x1).bind fun r1 => (cond (decide (0 ≤ r1)) (grd (0 ≤ r1 ∧ r1.toNat ≤ x0.length) (grd (0 ≤ w64 (r1 + (x1.length : Int)) ∧ (w64 (r1 + (x1.length : Int))).toNat ≤ x0.length) (some (x0.take r1.toNat, x0.drop ((w64 (r1 + (x1.length : Int))).toNat), true)))) (some (x0, [], false)))

def tape_Get (N : Nat) (x0 : List UInt8) : Option (TBlock × Int) := cond ((x0.length : Int) != 128) (some (TBlock.z, 4)) (grd (0 < x0.length) (grd (1 < x0.length) (grd (2 < x0.length) (grd (3 < x0.length) (grd (4 < x0.length) (grd (5 ≤ x0.length) ((tape_times N (x0.drop 5)).bind fun r1 => (grd (9 ≤ x0.length) ((tape_times N (x0.drop 9)).bind fun r2 => (grd (13 < x0.length) (grd (14 < x0.length) (grd (15 < x0.length) (grd (16 ≤ x0.length) ((bytes_Cut N (x0.drop 16) [143]).bind fun r3 => ((bytes_Clone N r3.1).bind fun r4 => ((tape_Put N (⟨((x0.getD 0 0).toNat : Int), bits .or .i64 ((x0.getD 1 0).toNat : Int) (w64 (((x0.getD 2 0).toNat : Int) * 2 ^ 8)), x0.getD 3 0, x0.getD 4 0, r1, r2, ((x0.getD 13 0).toNat : Int), x0.getD 14 0, ((x0.getD 15 0).toNat : Int) == 1, r4⟩ : TBlock)).bind fun r5 => (cond (r5.2 != 0) (some (TBlock.z, 4)) ((bytes_Equal N x0 r5.1).bind fun r6 => (cond (!r6) (some (TBlock.z, 4)) (some ((⟨((x0.getD 0 0).toNat : Int), bits .or .i64 ((x0.getD 1 0).toNat : Int) (w64 (((x0.getD 2 0).toNat : Int) * 2 ^ 8)), x0.getD 3 0, x0.getD 4 0, r1, r2, ((x0.getD 13 0).toNat : Int), x0.getD 14 0, ((x0.getD 15 0).toNat : Int) == 1, r4⟩ : TBlock), 0)))))))))))))))))))))

def l23_TapePuts (N : Nat) (x0 : TBlock) : Option Bool := (l23_awake N).bind fun r1 => (cond (!r1) (some false) ((l23_short N x0).bind fun r2 => ((tape_Put N r2).bind fun r3 => ((r23_Put N r2).bind fun r4 => ((slices_Equal_Lbyte N r3.1 r4.1).bind fun r5 => (cond ((!r5) || (r3.2 != r4.2)) (some false) ((tape_Check N r2).bind fun r6 => (cond (r6 != r3.2) (some false) (cond (r3.2 != 0) (some ((r3.1.length : Int) == 0)) ((tape_Get N r3.1).bind fun r7 => (cond (r7.2 == 0) ((l23_same N r7.1 r2).bind fun r8 => (some (r8 && ((r3.1.length : Int) == 128)))) (some false))))))))))))

def r23_fields (_N : Nat) (x0 : List UInt8) : Option TBlock := grd (0 < x0.length) (grd (1 < x0.length) (grd (2 < x0.length) (grd (3 < x0.length) (grd (4 < x0.length) (grd (13 < x0.length) (grd (14 < x0.length) (grd (15 < x0.length) (grd (5 < x0.length) (grd (6 < x0.length) (grd (7 < x0.length) (grd (8 < x0.length) (grd (9 < x0.length) (grd (10 < x0.length) (grd (11 < x0.length) (grd (12 < x0.length) (some (⟨((x0.getD 0 0).toNat : Int), w64 (((x0.getD 1 0).toNat : Int) + (w64 (256 * ((x0.getD 2 0).toNat : Int)))), x0.getD 3 0, x0.getD 4 0, (⟨((x0.getD 5 0).toNat : Int), ((x0.getD 6 0).toNat : Int), ((x0.getD 7 0).toNat : Int), ((x0.getD 8 0).toNat : Int), false⟩ : TLabel), (⟨((x0.getD 9 0).toNat : Int), ((x0.getD 10 0).toNat : Int), ((x0.getD 11 0).toNat : Int), ((x0.getD 12 0).toNat : Int), false⟩ : TLabel), ((x0.getD 13 0).toNat : Int), x0.getD 14 0, ((x0.getD 15 0).toNat : Int) == 1, []⟩ : TBlock)))))))))))))))))

def r23_equal (_N : Nat) (x0 : List UInt8) (x1 : List UInt8) : Option Bool := some (decide (x0 = x1))

def r23_Get_L5 (_N : Nat) (x0 : List UInt8) (jk1 : (List UInt8) → Option (TBlock × Int)) : Nat → Int → (List UInt8) → Option (TBlock × Int)
  | 0, _, _ => none
  | n + 1, v2, v3 => cond (decide (v2 < ((x0.drop 16).length : Int))) (grd (0 ≤ v2 ∧ v2 < ((x0.drop 16).length : Int)) (cond ((((x0.drop 16).getD v2.toNat 0).toNat : Int) == 143) (jk1 v3) (grd ((v3.length + 1) * 1 ≤ 140737488355328) (r23_Get_L5 _N x0 jk1 n (w64 (v2 + 1)) (v3 ++ [((x0.drop 16).getD v2.toNat 0)]))))) (jk1 v3)
def r23_Get (N : Nat) (x0 : List UInt8) : Option (TBlock × Int) := cond ((x0.length : Int) != 128) (some (TBlock.z, 4)) ((r23_fields N x0).bind fun r1 => (grd (16 ≤ x0.length) (jn (fun (v1 : List UInt8) => (r23_Put N ({ r1 with Text := v1 })).bind fun r2 => (cond (r2.2 != 0) (some (TBlock.z, 4)) ((r23_equal N x0 r2.1).bind fun r3 => (cond (!r3) (some (TBlock.z, 4)) (some ({ r1 with Text := v1 }, 0)))))) (fun jk1 => r23_Get_L5 N x0 jk1 N 0 r1.Text))))

def l23_TapeGets (N : Nat) (x0 : List UInt8) : Option Bool := (l23_awake N).bind fun r1 => (cond (!r1) (some false) (grd (0 ≤ min (x0.length : Int) 130 ∧ (min (x0.length : Int) 130).toNat ≤ x0.length) ((tape_Get N (x0.take ((min (x0.length : Int) 130).toNat))).bind fun r2 => ((r23_Get N (x0.take ((min (x0.length : Int) 130).toNat))).bind fun r3 => ((l23_same N r2.1 r3.1).bind fun r4 => (cond ((!r4) || (r2.2 != r3.2)) (some false) ((tape_Put N r2.1).bind fun r5 => (cond (r2.2 != 0) (some true) (cond (r5.2 == 0) ((slices_Equal_Lbyte N (x0.take ((min (x0.length : Int) 130).toNat)) r5.1).bind fun r6 => (some r6)) (some false))))))))))

end Go.Cap
