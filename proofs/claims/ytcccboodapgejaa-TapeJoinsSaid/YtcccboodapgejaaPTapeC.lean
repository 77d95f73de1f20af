/-
  Join of layer 23 (tape) in plain Lean, and the laws TapeSplits and TapeJoins. No program in it.
-/
import Derived.Test.YtcccboodapgejaaPTapeB
namespace Go.Cap
open Go Go.Sym

/-! ### Join -/
/-- the blocks differ in Extension and Text at most -/
def alk (a b : TBlock) : Prop := a = { b with Extension := a.Extension, Text := a.Text }
instance (a b : TBlock) : Decidable (alk a b) :=
  decidable_of_iff (a.Group = b.Group ∧ a.Number = b.Number ∧ a.Status = b.Status ∧ (a.In.H = b.In.H ∧ a.In.M = b.In.M ∧ a.In.S = b.In.S ∧ a.In.F = b.In.F ∧ a.In.Drop = b.In.Drop) ∧ (a.Out.H = b.Out.H ∧ a.Out.M = b.Out.M ∧ a.Out.S = b.Out.S ∧ a.Out.F = b.Out.F ∧ a.Out.Drop = b.Out.Drop) ∧ a.Row = b.Row ∧ a.Align = b.Align ∧ a.Comment = b.Comment) (by
    obtain ⟨a1, a2, a3, a4, ⟨_, _, _, _, _⟩, ⟨_, _, _, _, _⟩, a7, a8, a9, a10⟩ := a
    obtain ⟨b1, b2, b3, b4, ⟨_, _, _, _, _⟩, ⟨_, _, _, _, _⟩, b7, b8, b9, b10⟩ := b
    simp [alk])
theorem u8i (a b : UInt8) : (((a.toNat : Nat) : Int) == ((b.toNat : Nat) : Int)) = decide (a = b) := by
  rw [Bool.eq_iff_iff]
  simp only [beq_iff_eq, decide_eq_true_eq]
  exact ⟨fun e => UInt8.toNat_inj.1 (by omega), fun e => by rw [e]⟩
theorem alike_eq (N : Nat) (a b : TBlock) : tape_alike N a b = some (decide (alk a b)) := by
  unfold tape_alike
  congr 1
  rw [Bool.eq_iff_iff, decide_eq_true_eq]
  obtain ⟨a1, a2, a3, a4, ⟨_, _, _, _, _⟩, ⟨_, _, _, _, _⟩, a7, a8, a9, a10⟩ := a
  obtain ⟨b1, b2, b3, b4, ⟨_, _, _, _, _⟩, ⟨_, _, _, _, _⟩, b7, b8, b9, b10⟩ := b
  simp only [alk, u8i, TBlock.mk.injEq, TLabel.mk.injEq, Bool.and_eq_true, beq_iff_eq, decide_eq_true_eq, and_true, true_and]
  constructor
  · rintro ⟨⟨⟨⟨⟨⟨⟨h1, h2⟩, h3⟩, h4⟩, h5⟩, h6⟩, h7⟩, h8⟩; exact ⟨h1, h2, h3, h4, h5, h6, h7, h8⟩
  · rintro ⟨h1, h2, h3, h4, h5, h6, h7, h8⟩; exact ⟨⟨⟨⟨⟨⟨⟨h1, h2⟩, h3⟩, h4⟩, h5⟩, h6⟩, h7⟩, h8⟩
theorem ralike_eq (N : Nat) (a b : TBlock) : r23_alike N a b = some (decide (alk a b)) := alike_eq N a b
theorem same_iff (N : Nat) (a b : TBlock) (h : a.Text.length < N) (hb : a.Text.length ≤ 65536) : ∃ c, l23_same N a b = some c ∧ (c = true ↔ a = b) := by
  unfold l23_same
  rw [equal_eq N _ _ h hb, Option.bind_some]
  have hc : ∀ (c d : Bool), cond c (some d) (some false) = some (c && d) := fun c d => by cases c <;> rfl
  rw [hc]
  refine ⟨_, rfl, ?_⟩
  obtain ⟨a1, a2, a3, a4, ⟨_, _, _, _, _⟩, ⟨_, _, _, _, _⟩, a7, a8, a9, a10⟩ := a
  obtain ⟨b1, b2, b3, b4, ⟨_, _, _, _, _⟩, ⟨_, _, _, _, _⟩, b7, b8, b9, b10⟩ := b
  simp only [u8i, TBlock.mk.injEq, TLabel.mk.injEq, Bool.and_eq_true, beq_iff_eq, decide_eq_true_eq, and_true]
  constructor
  · rintro ⟨⟨⟨⟨⟨⟨⟨⟨⟨h1, h2⟩, h2b⟩, h3⟩, h4⟩, h5⟩, h6⟩, h7⟩, h8⟩, h9⟩; exact ⟨h1, h2, h2b, h3, h4, h5, h6, h7, h8, h9⟩
  · rintro ⟨h1, h2, h2b, h3, h4, h5, h6, h7, h8, h9⟩; exact ⟨⟨⟨⟨⟨⟨⟨⟨⟨h1, h2⟩, h2b⟩, h3⟩, h4⟩, h5⟩, h6⟩, h7⟩, h8⟩, h9⟩
/-- the first error of the blocks -/
def badOf : List TBlock → Int
  | [] => 0
  | b :: r => if chk b ≠ 0 then chk b else badOf r
def ordB (l0 : TBlock) (last : Nat) : Nat → List TBlock → Bool
  | _, [] => true
  | k, b :: r => (((b.Extension.toNat : Nat) : Int) == (if k = last then 255 else (k : Int))) && decide (alk b l0) && ordB l0 last (k + 1) r
def sizB (last : Nat) : Nat → List TBlock → Bool
  | _, [] => true
  | k, b :: r => !(decide (k < last ∧ b.Text.length < 112) || decide (k = last ∧ 0 < last ∧ b.Text.length = 0)) && sizB last (k + 1) r
def texts (l : List TBlock) : List UInt8 := l.flatMap (·.Text)
theorem texts_cons (b : TBlock) (r : List TBlock) : texts (b :: r) = b.Text ++ texts r := rfl
def joinR (l : List TBlock) : TBlock × List UInt8 × Int :=
  if l.length = 0 then (TBlock.z, [], 6)
  else if badOf l ≠ 0 then (TBlock.z, [], badOf l)
  else if ordB (l.getD 0 TBlock.z) (l.length - 1) 0 l = false then (TBlock.z, [], 8)
  else if sizB (l.length - 1) 0 l = false then (TBlock.z, [], 4)
  else ({ l.getD 0 TBlock.z with Extension := 255, Text := [] }, texts l, 0)
theorem drop_at (l : List TBlock) (k : Nat) (h : k < l.length) : l.drop k = l.getD k TBlock.z :: l.drop (k + 1) := by
  rw [List.drop_eq_getElem_cons h]
  simp [h]
theorem join_L4 (N : Nat) (l : List TBlock) (hl : l.length ≤ 65536) (jk : Option (TBlock × List UInt8 × Int)) : ∀ (n k : Nat), k ≤ l.length → l.length < n + k → tape_Join_L4 N l jk n (k : Int) = if badOf (l.drop k) ≠ 0 then some (TBlock.z, [], badOf (l.drop k)) else jk
  | 0, k, _, h => by omega
  | n + 1, k, hk, hn => by
    rw [tape_Join_L4]
    by_cases h : k < l.length
    · rw [show decide ((k : Int) < (l.length : Int)) = true from decide_eq_true (by omega), cond_true, grd_pos (by omega), Int.toNat_natCast, w64s (by omega), join_L4 N l hl jk n (k + 1) (by omega) (by omega), drop_at l k h, check_eq, Option.bind_some]
      rw [badOf]
      by_cases hc : chk (l.getD k TBlock.z) = 0
      · rw [hc, show ((0 : Int) != 0) = false from rfl, cond_false, if_neg (show ¬ ((0 : Int) ≠ 0) by simp)]
      · rw [show (chk (l.getD k TBlock.z) != 0) = true from bne_iff_ne.2 hc, cond_true, if_pos hc, if_pos hc]
    · rw [show decide ((k : Int) < (l.length : Int)) = false from decide_eq_false (by omega), cond_false, List.drop_of_length_le (by omega), badOf, if_neg (by simp)]
theorem rjoin_L4 (N : Nat) (hN : 112 < N) (l : List TBlock) (hl : l.length ≤ 65536) (jk : Option (TBlock × List UInt8 × Int)) : ∀ (n k : Nat), k ≤ l.length → l.length < n + k → r23_Join_L4 N l jk n (k : Int) = if badOf (l.drop k) ≠ 0 then some (TBlock.z, [], badOf (l.drop k)) else jk
  | 0, k, _, h => by omega
  | n + 1, k, hk, hn => by
    rw [r23_Join_L4]
    by_cases h : k < l.length
    · rw [show decide ((k : Int) < (l.length : Int)) = true from decide_eq_true (by omega), cond_true, grd_pos (by omega), Int.toNat_natCast, w64s (by omega), rjoin_L4 N hN l hl jk n (k + 1) (by omega) (by omega), drop_at l k h, rcheck_eq N _ hN, Option.bind_some]
      rw [badOf]
      by_cases hc : chk (l.getD k TBlock.z) = 0
      · rw [hc, show ((0 : Int) != 0) = false from rfl, cond_false, if_neg (show ¬ ((0 : Int) ≠ 0) by simp)]
      · rw [show (chk (l.getD k TBlock.z) != 0) = true from bne_iff_ne.2 hc, cond_true, if_pos hc, if_pos hc]
    · rw [show decide ((k : Int) < (l.length : Int)) = false from decide_eq_false (by omega), cond_false, List.drop_of_length_le (by omega), badOf, if_neg (by simp)]
theorem join_L12 (N : Nat) (l : List TBlock) (hl : l.length ≤ 65536) (jk : Option (TBlock × List UInt8 × Int)) : ∀ (n k : Nat), k ≤ l.length → l.length < n + k → tape_Join_L12 N l jk n (k : Int) = if ordB (l.getD 0 TBlock.z) (l.length - 1) k (l.drop k) = false then some (TBlock.z, [], 8) else jk
  | 0, k, _, h => by omega
  | n + 1, k, hk, hn => by
    rw [tape_Join_L12]
    by_cases h : k < l.length
    · rw [show decide ((k : Int) < (l.length : Int)) = true from decide_eq_true (by omega), cond_true, grd_pos (by omega), Int.toNat_natCast, w64s (by omega), w64_eq (x := (l.length : Int) - 1) (by omega), jn_cond, join_L12 N l hl jk n (k + 1) (by omega) (by omega), drop_at l k h, grd_pos (fun _ => by omega), alike_eq, Option.bind_some, ordB]
      have e : (if ((k : Int) == (l.length : Int) - 1) = true then (255 : Int) else (k : Int)) = if k = l.length - 1 then 255 else (k : Int) := by
        by_cases hk' : k = l.length - 1
        · rw [if_pos (beq_iff_eq.2 (by omega)), if_pos hk']
        · rw [if_neg (by rw [beq_iff_eq]; omega), if_neg hk']
      rw [e]
      by_cases h1 : ((((l.getD k TBlock.z).Extension.toNat : Nat) : Int) == (if k = l.length - 1 then 255 else (k : Int))) = true
      · rw [h1, show ((((l.getD k TBlock.z).Extension.toNat : Nat) : Int) != (if k = l.length - 1 then 255 else (k : Int))) = false from by rw [bne, h1]; rfl, cond_false]
        by_cases h2 : alk (l.getD k TBlock.z) (l.getD 0 TBlock.z)
        · rw [decide_eq_true h2]
          rfl
        · rw [decide_eq_false h2]
          rfl
      · rw [Bool.not_eq_true] at h1
        rw [h1, show ((((l.getD k TBlock.z).Extension.toNat : Nat) : Int) != (if k = l.length - 1 then 255 else (k : Int))) = true from by rw [bne, h1]; rfl, cond_true]
        rfl
    · rw [show decide ((k : Int) < (l.length : Int)) = false from decide_eq_false (by omega), cond_false, List.drop_of_length_le (by omega), ordB, if_neg (by simp)]
theorem rjoin_L12 (N : Nat) (l : List TBlock) (hl : l.length ≤ 65536) (jk : Option (TBlock × List UInt8 × Int)) : ∀ (n k : Nat), k ≤ l.length → l.length < n + k → r23_Join_L12 N l jk n (k : Int) = if ordB (l.getD 0 TBlock.z) (l.length - 1) k (l.drop k) = false then some (TBlock.z, [], 8) else jk
  | 0, k, _, h => by omega
  | n + 1, k, hk, hn => by
    rw [r23_Join_L12]
    by_cases h : k < l.length
    · rw [show decide ((k : Int) < (l.length : Int)) = true from decide_eq_true (by omega), cond_true, grd_pos (by omega), Int.toNat_natCast, w64s (by omega), w64_eq (x := (l.length : Int) - 1) (by omega), rjoin_L12 N l hl jk n (k + 1) (by omega) (by omega), drop_at l k h, grd_pos (fun _ => by omega), ralike_eq, Option.bind_some, ordB]
      have e : ((decide ((k : Int) < (l.length : Int) - 1) && ((((l.getD k TBlock.z).Extension.toNat : Nat) : Int) != (k : Int))) || (((k : Int) == (l.length : Int) - 1) && ((((l.getD k TBlock.z).Extension.toNat : Nat) : Int) != 255))) = !((((l.getD k TBlock.z).Extension.toNat : Nat) : Int) == (if k = l.length - 1 then 255 else (k : Int))) := by
        by_cases hk' : k = l.length - 1
        · rw [decide_eq_false (show ¬ ((k : Int) < (l.length : Int) - 1) by omega), show ((k : Int) == (l.length : Int) - 1) = true from beq_iff_eq.2 (by omega), if_pos hk']
          rfl
        · rw [decide_eq_true (show ((k : Int) < (l.length : Int) - 1) by omega), show ((k : Int) == (l.length : Int) - 1) = false from beq_eq_false_iff_ne.2 (by omega), if_neg hk', Bool.false_and, Bool.or_false]
          rfl
      rw [e]
      by_cases h1 : ((((l.getD k TBlock.z).Extension.toNat : Nat) : Int) == (if k = l.length - 1 then 255 else (k : Int))) = true
      · rw [h1]
        by_cases h2 : alk (l.getD k TBlock.z) (l.getD 0 TBlock.z)
        · rw [decide_eq_true h2]
          rfl
        · rw [decide_eq_false h2]
          rfl
      · rw [Bool.not_eq_true] at h1
        rw [h1]
        rfl
    · rw [show decide ((k : Int) < (l.length : Int)) = false from decide_eq_false (by omega), cond_false, List.drop_of_length_le (by omega), ordB, if_neg (by simp)]
theorem join_L22 (N : Nat) (l : List TBlock) (hl : l.length ≤ 60) (ht : ∀ i, i < l.length → (l.getD i TBlock.z).Text.length ≤ 1000) (jk : List UInt8 → Option (TBlock × List UInt8 × Int)) : ∀ (n k : Nat) (v : List UInt8), k ≤ l.length → l.length < n + k → v.length ≤ 1000 * k → tape_Join_L22 N l jk n v (k : Int) = if sizB (l.length - 1) k (l.drop k) = false then some (TBlock.z, [], 4) else jk (v ++ texts (l.drop k))
  | 0, k, v, _, h, _ => by omega
  | n + 1, k, v, hk, hn, hv => by
    rw [tape_Join_L22]
    by_cases h : k < l.length
    · have htk := ht k h
      rw [show decide ((k : Int) < (l.length : Int)) = true from decide_eq_true (by omega), cond_true, grd_pos (by omega), Int.toNat_natCast, w64s (by omega), w64_eq (x := (l.length : Int) - 1) (by omega), drop_at l k h, sizB, grd_pos (by omega), join_L22 N l hl ht jk n (k + 1) _ (by omega) (by omega) (by rw [List.length_append]; omega)]
      have e : ((decide ((k : Int) < (l.length : Int) - 1) && decide (((l.getD k TBlock.z).Text.length : Int) < 112)) || ((((k : Int) == (l.length : Int) - 1) && decide (0 < (l.length : Int) - 1)) && (((l.getD k TBlock.z).Text.length : Int) == 0))) = (decide (k < l.length - 1 ∧ (l.getD k TBlock.z).Text.length < 112) || decide (k = l.length - 1 ∧ 0 < l.length - 1 ∧ (l.getD k TBlock.z).Text.length = 0)) := by
        rw [Bool.eq_iff_iff]
        simp only [Bool.or_eq_true, Bool.and_eq_true, decide_eq_true_eq, beq_iff_eq]
        omega
      rw [e]
      cases (decide (k < l.length - 1 ∧ (l.getD k TBlock.z).Text.length < 112) || decide (k = l.length - 1 ∧ 0 < l.length - 1 ∧ (l.getD k TBlock.z).Text.length = 0)) with
      | true => rfl
      | false =>
        rw [cond_false, Bool.not_false, Bool.true_and, texts_cons, List.append_assoc]
    · rw [show decide ((k : Int) < (l.length : Int)) = false from decide_eq_false (by omega), cond_false, List.drop_of_length_le (by omega), sizB, if_neg (by simp)]
      simp [texts]
theorem rjoin_L19 (N : Nat) (l : List TBlock) (hl : l.length ≤ 60) (ht : ∀ i, i < l.length → (l.getD i TBlock.z).Text.length ≤ 1000) (jk : List UInt8 → Option (TBlock × List UInt8 × Int)) : ∀ (n k : Nat) (v : List UInt8), k ≤ l.length → l.length < n + k → v.length ≤ 1000 * k → r23_Join_L19 N l jk n v (k : Int) = if sizB (l.length - 1) k (l.drop k) = false then some (TBlock.z, [], 4) else jk (v ++ texts (l.drop k))
  | 0, k, v, _, h, _ => by omega
  | n + 1, k, v, hk, hn, hv => by
    rw [r23_Join_L19]
    by_cases h : k < l.length
    · have htk := ht k h
      rw [show decide ((k : Int) < (l.length : Int)) = true from decide_eq_true (by omega), cond_true, grd_pos (by omega), Int.toNat_natCast, w64s (by omega), w64_eq (x := (l.length : Int) - 1) (by omega), drop_at l k h, sizB, grd_pos (by omega), rjoin_L19 N l hl ht jk n (k + 1) _ (by omega) (by omega) (by rw [List.length_append]; omega)]
      have e : ((decide ((k : Int) < (l.length : Int) - 1) && decide (((l.getD k TBlock.z).Text.length : Int) < 112)) || ((((k : Int) == (l.length : Int) - 1) && decide (0 < (k : Int))) && (((l.getD k TBlock.z).Text.length : Int) == 0))) = (decide (k < l.length - 1 ∧ (l.getD k TBlock.z).Text.length < 112) || decide (k = l.length - 1 ∧ 0 < l.length - 1 ∧ (l.getD k TBlock.z).Text.length = 0)) := by
        rw [Bool.eq_iff_iff]
        simp only [Bool.or_eq_true, Bool.and_eq_true, decide_eq_true_eq, beq_iff_eq]
        omega
      rw [e]
      cases (decide (k < l.length - 1 ∧ (l.getD k TBlock.z).Text.length < 112) || decide (k = l.length - 1 ∧ 0 < l.length - 1 ∧ (l.getD k TBlock.z).Text.length = 0)) with
      | true => rfl
      | false =>
        rw [cond_false, Bool.not_false, Bool.true_and, texts_cons, List.append_assoc]
    · rw [show decide ((k : Int) < (l.length : Int)) = false from decide_eq_false (by omega), cond_false, List.drop_of_length_le (by omega), sizB, if_neg (by simp)]
      simp [texts]
theorem joinR_tail (l : List TBlock) (h0 : ¬ l.length = 0) : (if badOf l ≠ 0 then some (TBlock.z, [], badOf l) else if ordB (l.getD 0 TBlock.z) (l.length - 1) 0 l = false then some (TBlock.z, [], 8) else if sizB (l.length - 1) 0 l = false then some (TBlock.z, [], 4) else some ({ l.getD 0 TBlock.z with Extension := 255, Text := [] }, texts l, 0)) = some (joinR l) := by
  unfold joinR
  rw [if_neg h0]
  split
  · rfl
  · split
    · rfl
    · split <;> rfl
theorem join_eq (N : Nat) (l : List TBlock) (hN : 112 < N) (hl : l.length ≤ 60) (ht : ∀ i, i < l.length → (l.getD i TBlock.z).Text.length ≤ 1000) : tape_Join N l = some (joinR l) := by
  unfold tape_Join
  by_cases h0 : l.length = 0
  · rw [h0, show (((0 : Nat) : Int) == 0) = true from rfl, cond_true, joinR, if_pos h0]
  · rw [show ((l.length : Int) == 0) = false from beq_eq_false_iff_ne.2 (by omega), cond_false]
    simp only [jn_eq]
    simp only [grd_pos (show 0 < l.length by omega)]
    have h4 := fun jk => join_L4 N l (by omega) jk N 0 (Nat.zero_le _) (by omega)
    have h12 := fun jk => join_L12 N l (by omega) jk N 0 (Nat.zero_le _) (by omega)
    have h22 := fun jk => join_L22 N l hl ht jk N 0 [] (Nat.zero_le _) (by omega) (by simp)
    simp only [List.drop_zero, List.nil_append] at h4 h12 h22
    rw [show (0 : Int) = ((0 : Nat) : Int) from rfl, h4, h12, h22]
    exact joinR_tail l h0
theorem rjoin_eq (N : Nat) (l : List TBlock) (hN : 112 < N) (hl : l.length ≤ 60) (ht : ∀ i, i < l.length → (l.getD i TBlock.z).Text.length ≤ 1000) : r23_Join N l = some (joinR l) := by
  unfold r23_Join
  by_cases h0 : l.length = 0
  · rw [h0, show (((0 : Nat) : Int) == 0) = true from rfl, cond_true, joinR, if_pos h0]
  · rw [show ((l.length : Int) == 0) = false from beq_eq_false_iff_ne.2 (by omega), cond_false]
    simp only [jn_eq]
    simp only [grd_pos (show 0 < l.length by omega)]
    have h4 := fun jk => rjoin_L4 N hN l (by omega) jk N 0 (Nat.zero_le _) (by omega)
    have h12 := fun jk => rjoin_L12 N l (by omega) jk N 0 (Nat.zero_le _) (by omega)
    have h22 := fun jk => rjoin_L19 N l hl ht jk N 0 [] (Nat.zero_le _) (by omega) (by simp)
    simp only [List.drop_zero, List.nil_append] at h4 h12 h22
    rw [show (0 : Int) = ((0 : Nat) : Int) from rfl, h4, h12, h22]
    exact joinR_tail l h0
/-! ### EqualFunc -/
theorem eqf_loop (N : Nat) (l : List TBlock) (hl : l.length ≤ 65536) (ht : ∀ i, i < l.length → (l.getD i TBlock.z).Text.length < N ∧ (l.getD i TBlock.z).Text.length ≤ 65536) (jk : Option Bool) : ∀ (n k : Nat), k ≤ l.length → l.length < n + k → slices_EqualFunc_LBlock_l23_same_L4 N l l jk n (k : Int) = jk
  | 0, k, _, h => by omega
  | n + 1, k, hk, hn => by
    rw [slices_EqualFunc_LBlock_l23_same_L4]
    by_cases h : k < l.length
    · have htk := ht k h
      rw [show decide ((k : Int) < (l.length : Int)) = true from decide_eq_true (by omega), cond_true, grd_pos (by omega), grd_pos (by omega), Int.toNat_natCast, w64s (by omega), eqf_loop N l hl ht jk n (k + 1) (by omega) (by omega)]
      rw [same_refl N _ htk.1 htk.2]
      rfl
    · rw [show decide ((k : Int) < (l.length : Int)) = false from decide_eq_false (by omega), cond_false]
theorem eqf_refl (N : Nat) (l : List TBlock) (hN : l.length < N) (hl : l.length ≤ 65536) (ht : ∀ i, i < l.length → (l.getD i TBlock.z).Text.length < N ∧ (l.getD i TBlock.z).Text.length ≤ 65536) : slices_EqualFunc_LBlock_l23_same N l l = some true := by
  unfold slices_EqualFunc_LBlock_l23_same
  rw [show ((l.length : Int) != (l.length : Int)) = false from by simp, cond_false, jn_eq]
  exact eqf_loop N l hl ht (some true) N 0 (Nat.zero_le _) (by omega)
end Go.Cap
