/-
  Split and Join of layer 23 (tape) in plain Lean. No program in it.
-/
import Derived.Test.YtcccboodapgejaaPTape
namespace Go.Cap
open Go Go.Sym

/-! ### Split -/
/-- the blocks of a text, the first of which has the number k -/
def chunks (b : TBlock) : Nat → Nat → List UInt8 → List TBlock
  | 0, _, _ => []
  | n + 1, k, t => if t.length ≤ 112 then [{ b with Extension := 255, Text := t }] else { b with Extension := b8 (k : Int), Text := t.take 112 } :: chunks b n (k + 1) (t.drop 112)
theorem chunks_fuel (b : TBlock) : ∀ (n m k : Nat) (t : List UInt8), t.length < 112 * n → t.length < 112 * m → chunks b n k t = chunks b m k t
  | 0, _, _, _, h, _ => by omega
  | n + 1, 0, _, _, _, h => by omega
  | n + 1, m + 1, k, t, h1, h2 => by
    rw [chunks, chunks]
    split
    · rfl
    · congr 1
      exact chunks_fuel b n m (k + 1) (t.drop 112) (by rw [List.length_drop]; omega) (by rw [List.length_drop]; omega)
def cut (b : TBlock) (t : List UInt8) : List TBlock := chunks b (t.length + 1) 0 t
def splitR (b : TBlock) (t : List UInt8) : List TBlock × Int :=
  if chk { b with Extension := 0, Text := [] } ≠ 0 then ([], chk { b with Extension := 0, Text := [] })
  else if 26992 < t.length then ([], 9)
  else if t.contains 143 = true then ([], 4)
  else (cut b t, 0)
theorem cs' {α : Type} {b : Bool} {p : Prop} [Decidable p] {X Y : Option α} {x y : α} (h : b = true ↔ p) (hx : p → X = some x) (hy : ¬ p → Y = some y) : cond b X Y = some (if p then x else y) := by
  by_cases hp : p
  · rw [h.2 hp, if_pos hp]; exact hx hp
  · rw [show b = false from by rw [Bool.eq_false_iff]; exact fun e => hp (h.1 e), if_neg hp]; exact hy hp
theorem min112 (t : List UInt8) : (min (t.length : Int) 112).toNat = min t.length 112 := by omega
theorem take_min (t : List UInt8) : t.take (min t.length 112) = t.take 112 := by
  rcases Nat.le_total t.length 112 with h | h
  · rw [Nat.min_eq_left h, List.take_length, List.take_of_length_le h]
  · rw [Nat.min_eq_right h]
theorem drop_min (t : List UInt8) : t.drop (min t.length 112) = t.drop 112 := by
  rcases Nat.le_total t.length 112 with h | h
  · rw [Nat.min_eq_left h, List.drop_length, List.drop_of_length_le h]
  · rw [Nat.min_eq_right h]
theorem rsplit_end (N : Nat) (b : TBlock) (jk : List TBlock → Option (List TBlock × Int)) (n : Nat) (v3 : List TBlock) (v5 : UInt8) (v6 : List UInt8) : r23_Split_L11 N b jk (n + 1) [] v3 false v5 v6 = jk v3 := by
  rw [r23_Split_L11]
  rfl
theorem rsplit_loop (N : Nat) (b : TBlock) (jk : List TBlock → Option (List TBlock × Int)) : ∀ (n : Nat) (v2 : List UInt8) (v3 : List TBlock) (v4 : Bool) (v5 : UInt8) (v6 : List UInt8), (v4 = true ∨ v2 ≠ []) → v2.length < 112 * n → v2.length ≤ 65536 → v3.length + v2.length ≤ 65536 →
    r23_Split_L11 N b jk (n + 1) v2 v3 v4 v5 v6 = jk (v3 ++ chunks b n v3.length v2)
  | 0, v2, v3, v4, v5, v6, _, h, _, _ => by omega
  | n + 1, v2, v3, v4, v5, v6, h4, hn, hl, hv => by
    rw [r23_Split_L11]
    have hc : (v4 || decide (0 < (v2.length : Int))) = true := by
      rcases h4 with h | h
      · rw [h]; rfl
      · have : 0 < v2.length := List.length_pos_iff.2 h
        rw [decide_eq_true (show (0 : Int) < (v2.length : Int) by omega), Bool.or_true]
    rw [hc, cond_true, min112, take_min, drop_min, grd_pos (by omega), grd_pos (by rw [List.length_take]; omega), grd_pos (by omega), chunks]
    by_cases hs : v2.length ≤ 112
    · rw [List.drop_of_length_le hs, List.take_of_length_le hs, if_pos hs, show ((([] : List UInt8).length : Int) == 0) = true from rfl, cond_true, grd_pos (by omega), rsplit_end]
    · rw [if_neg hs, show (((v2.drop 112).length : Int) == 0) = false from beq_eq_false_iff_ne.2 (by rw [List.length_drop]; omega), cond_false, grd_pos (by omega)]
      rw [rsplit_loop N b jk n (v2.drop 112) _ false _ _ (.inr (fun e => by have := congrArg List.length e; rw [List.length_drop] at this; simp at this; omega)) (by rw [List.length_drop]; omega) (by rw [List.length_drop]; omega) (by rw [List.length_drop, List.length_append]; simp; omega)]
      rw [List.length_append, List.append_assoc]
      rfl
theorem rsplit_eq (N : Nat) (b : TBlock) (t : List UInt8) (hN : 112 < N) (ht : t.length < N) (h2 : t.length ≤ 32768) : r23_Split N b t = some (splitR b t) := by
  unfold r23_Split splitR
  rw [rcheck_eq N _ (by omega), Option.bind_some]
  refine cs' (by rw [bne_iff_ne]) (fun _ => rfl) fun _ => ?_
  refine cs' (by rw [decide_eq_true_eq]; omega) (fun _ => rfl) fun h1 => ?_
  rw [filled_eq N t ht (by omega), Option.bind_some]
  refine cs' Iff.rfl (fun _ => rfl) fun _ => ?_
  rw [jn_eq]
  obtain ⟨M, rfl⟩ : ∃ M, N = M + 1 := ⟨N - 1, by omega⟩
  rw [rsplit_loop (M + 1) b _ M t [] true 0 [] (.inl rfl) (by omega) (by omega) (by simp; omega)]
  rw [List.nil_append, List.length_nil, cut, chunks_fuel b M (t.length + 1) 0 t (by omega) (by omega)]
/-- how many blocks -/
theorem pieces_eq (n : Nat) (h : n ≤ 65536) : max 1 (w64 (Int.tdiv (w64 ((w64 ((n : Int) + 112)) - 1)) 112)) = ((max 1 ((n + 111) / 112) : Nat) : Int) := by
  rw [w64_eq (x := (n : Int) + 112) (by omega), w64_eq (x := (n : Int) + 112 - 1) (by omega), Int.tdiv_eq_ediv_of_nonneg (by omega), w64_eq (by omega)]
  omega
theorem split_loop (N : Nat) (b : TBlock) (t : List UInt8) (ht : t.length ≤ 32768) (jk : List TBlock → Option (List TBlock × Int)) : ∀ (n m k : Nat) (v : List TBlock), k < max 1 ((t.length + 111) / 112) → max 1 ((t.length + 111) / 112) ≤ n + k → t.length - k * 112 < 112 * m → v.length ≤ k →
    tape_Split_L12 N b t jk (n + 1) v (k : Int) = jk (v ++ chunks b m k (t.drop (k * 112)))
  | 0, m, k, v, hk, hn, _, _ => by omega
  | n + 1, 0, k, v, hk, hn, hm, _ => by omega
  | n + 1, m + 1, k, v, hk, hn, hm, hv => by
    have hp : max 1 ((t.length + 111) / 112) ≤ 293 := by omega
    have hk0 : k * 112 ≤ t.length := by omega
    rw [tape_Split_L12, pieces_eq _ (by omega)]
    rw [show decide ((k : Int) < ((max 1 ((t.length + 111) / 112) : Nat) : Int)) = true from decide_eq_true (by omega), cond_true, jn_cond]
    rw [w64_eq (x := ((max 1 ((t.length + 111) / 112) : Nat) : Int) - 1) (by omega), w64s (by omega), w64_eq (x := (k : Int) * 112) (by omega), w64_eq (x := ((k + 1 : Nat) : Int) * 112) (by omega)]
    rw [show ((k : Int) * 112).toNat = k * 112 by omega, show (min (t.length : Int) (((k + 1 : Nat) : Int) * 112)).toNat = min t.length ((k + 1) * 112) by omega]
    rw [grd_pos (by omega)]
    have hcut : (t.take (min t.length ((k + 1) * 112))).drop (k * 112) = (t.drop (k * 112)).take 112 := by
      rw [List.drop_take]
      rcases Nat.le_total t.length ((k + 1) * 112) with h | h
      · rw [Nat.min_eq_left h, List.take_of_length_le (by rw [List.length_drop]; omega), List.take_of_length_le (by rw [List.length_drop]; omega)]
      · rw [Nat.min_eq_right h]
        congr 1
        omega
    rw [hcut, clone_eq N _ (by rw [List.length_take]; omega), Option.bind_some, grd_pos (by omega), chunks]
    by_cases hs : (t.drop (k * 112)).length ≤ 112
    · have hke : k + 1 = max 1 ((t.length + 111) / 112) := by rw [List.length_drop] at hs; omega
      rw [if_pos hs, show ((k : Int) == ((max 1 ((t.length + 111) / 112) : Nat) : Int) - 1) = true from beq_iff_eq.2 (by omega), if_pos rfl, List.take_of_length_le hs]
      rw [tape_Split_L12, pieces_eq _ (by omega), show decide (((k + 1 : Nat) : Int) < ((max 1 ((t.length + 111) / 112) : Nat) : Int)) = false from decide_eq_false (by omega), cond_false]
    · have hke : k + 1 < max 1 ((t.length + 111) / 112) := by rw [List.length_drop] at hs; omega
      rw [if_neg hs, show ((k : Int) == ((max 1 ((t.length + 111) / 112) : Nat) : Int) - 1) = false from beq_eq_false_iff_ne.2 (by omega), if_neg (by simp)]
      rw [split_loop N b t ht jk n m (k + 1) _ hke (by omega) (by omega) (by simp; omega), List.append_assoc, List.drop_drop]
      rw [show k * 112 + 112 = (k + 1) * 112 by omega]
      rfl
theorem split_eq (N : Nat) (b : TBlock) (t : List UInt8) (hN : 300 < N) (h2 : t.length ≤ 32768) : tape_Split N b t = some (splitR b t) := by
  unfold tape_Split splitR
  rw [check_eq, Option.bind_some, pieces_eq _ (by omega)]
  refine cs' (by rw [bne_iff_ne]) (fun _ => rfl) fun _ => ?_
  refine cs' (by rw [decide_eq_true_eq]; omega) (fun _ => rfl) fun h1 => ?_
  rw [bytes_IndexByte, Option.bind_some, ixB_ge]
  refine cs' Iff.rfl (fun _ => rfl) fun _ => ?_
  rw [jn_eq]
  obtain ⟨M, rfl⟩ : ∃ M, N = M + 1 := ⟨N - 1, by omega⟩
  have := split_loop (M + 1) b t h2 (fun v1 => some (v1, 0)) M (t.length + 1) 0 [] (by omega) (by omega) (by omega) (Nat.le_refl _)
  rw [Nat.zero_mul, List.drop_zero, List.nil_append] at this
  exact this
end Go.Cap
