/-
  Texts put together, in build order: XC XD XE.
-/
import Derived.Test.YtihkkflfdblpcaaGreatDoorBA
set_option linter.all false

section
/-
  Plain facts: loops over a text; letters; the escaped text, both sides.
-/
set_option linter.all false
namespace Go.Mo
open Go Go.W Go.Lib
set_option maxRecDepth 100000
noncomputable section

/-- a loop that goes through a list, by steps of any length -/
theorem drop_loop {V R σ α : Type} {F : (V → Option R) → V → Option R} {s : List α} (st : σ → Nat → V) (spec : σ → List α → Option R) (I : Nat → σ → Prop)
    (hstep : ∀ self a i, i ≤ s.length → I i a → (∀ a' j, i < j → j ≤ s.length → I j a' → self (st a' j) = spec a' (s.drop j)) → F self (st a i) = spec a (s.drop i)) :
    ∀ (fuel i : Nat) (a : σ), s.length - i < fuel → i ≤ s.length → I i a → fixN F fuel (st a i) = spec a (s.drop i)
  | 0, i, a, h, _, _ => by omega
  | fuel + 1, i, a, h, hi, hI => by
    rw [fixN_s]
    exact hstep _ a i hi hI fun a' j hj hj2 hI2 => drop_loop st spec I hstep fuel j a' (by omega) hj2 hI2
theorem fuelH_len {α : Type} {s : List α} (h : s.length ≤ 4000000) (i : Nat) : s.length - i < fuelH := by have := fuelH_eq; omega

theorem rall_eq {s : List UInt8} (hs : s.length ≤ 600000000) (c : UInt8) (r : List UInt8) (hr : r ≠ [c]) (hr2 : r.length ≤ 6) : strings_ReplaceAll fuelH (s, [c], r) = some (s.flatMap (sub1 c r)) := by
  have h1 : strings_ReplaceAll fuelH (s, [c], r) = grd (decide (s.length < 4294967281)) (grd (decide (1 ≤ ([c] : List UInt8).length)) (grd (decide (s.length + Lib.count s [c] * r.length ≤ 140737488355328)) (some (Lib.replace s [c] r (-1))))) := by
    unfold strings_ReplaceAll strings_Replace hand_strings_Replace
    generalize hX : grd _ _ = X
    cases X <;> rfl
  have hc := Lib.count_le s [c]
  have hm : Lib.count s [c] * r.length ≤ (s.length + 1) * 6 := Nat.mul_le_mul hc hr2
  rw [h1, grd_t (decide_eq_true (by omega)), grd_t (by rfl), grd_t (decide_eq_true (by omega)), replace_flat c r s hr]
theorem escN (N : Nat) (x : List UInt8) : xml_Escape (N + 10) x = bnd (strings_ReplaceAll (N + 10) (x, [38], [38, 97, 109, 112, 59])) fun a => bnd (strings_ReplaceAll (N + 10) (a, [60], [38, 108, 116, 59])) fun b => bnd (strings_ReplaceAll (N + 10) (b, [62], [38, 103, 116, 59])) fun c => bnd (strings_ReplaceAll (N + 10) (c, [34], [38, 113, 117, 111, 116, 59])) fun d => bnd (strings_ReplaceAll (N + 10) (d, [39], [38, 97, 112, 111, 115, 59])) fun e => some e := by kernel_rfl
theorem sub1_len (c : UInt8) {r : List UInt8} {k : Nat} (hr : r.length ≤ k) (hk : 1 ≤ k) (b : UInt8) : (sub1 c r b).length ≤ k := by
  unfold sub1
  split
  · exact hr
  · exact hk
theorem esc_eq {s : List UInt8} (hs : s.length ≤ 1100000) : xml_Escape fuelH s = some (esc s) := by
  have h0 := escN (fuelM + 4990) s
  have l1 := flat_len (sub1_len 38 (r := [38, 97, 109, 112, 59]) (k := 5) (by decide) (by decide)) s
  have l2 := flat_len (sub1_len 60 (r := [38, 108, 116, 59]) (k := 4) (by decide) (by decide)) (s.flatMap (sub1 38 [38, 97, 109, 112, 59]))
  have l3 := flat_len (sub1_len 62 (r := [38, 103, 116, 59]) (k := 4) (by decide) (by decide)) ((s.flatMap (sub1 38 [38, 97, 109, 112, 59])).flatMap (sub1 60 [38, 108, 116, 59]))
  have l4 := flat_len (sub1_len 34 (r := [38, 113, 117, 111, 116, 59]) (k := 6) (by decide) (by decide)) (((s.flatMap (sub1 38 [38, 97, 109, 112, 59])).flatMap (sub1 60 [38, 108, 116, 59])).flatMap (sub1 62 [38, 103, 116, 59]))
  show xml_Escape (fuelM + 4990 + 10) s = _
  rw [h0]
  show (bnd (strings_ReplaceAll fuelH _) _) = _
  rw [rall_eq (by omega) 38 _ (by decide) (by decide), bnd_some']
  show (bnd (strings_ReplaceAll fuelH _) _) = _
  rw [rall_eq (by omega) 60 _ (by decide) (by decide), bnd_some']
  show (bnd (strings_ReplaceAll fuelH _) _) = _
  rw [rall_eq (by omega) 62 _ (by decide) (by decide), bnd_some']
  show (bnd (strings_ReplaceAll fuelH _) _) = _
  rw [rall_eq (by omega) 34 _ (by decide) (by decide), bnd_some']
  show (bnd (strings_ReplaceAll fuelH _) _) = _
  rw [rall_eq (by omega) 39 _ (by decide) (by decide), bnd_some', esc_five]
theorem esc_cons (b : UInt8) (l : List UInt8) : esc (b :: l) = escB b ++ esc l := by unfold esc; rw [List.flatMap_cons]
end
end Go.Mo
end

section
/-
  Plain facts: what references mean and the text that is meant, both sides.
-/
set_option linter.all false
namespace Go.Mo
open Go Go.W Go.Lib
set_option maxRecDepth 100000
noncomputable section

def hexV (x : UInt8) : Int := if 48 ≤ x.toNat ∧ x.toNat ≤ 57 then (x.toNat : Int) - 48 else if 97 ≤ x.toNat ∧ x.toNat ≤ 102 then (x.toNat : Int) - 87 else if 65 ≤ x.toNat ∧ x.toNat ≤ 70 then (x.toNat : Int) - 55 else -1
def dgV (base : Int) (x : UInt8) : Int := if base ≤ hexV x then -1 else hexV x
theorem digits_tab : ((List.range 256).all fun n => decide (xml_digit 0 (UInt8.ofNat n, 10) = some (dgV 10 (UInt8.ofNat n)) ∧ xml_digit 0 (UInt8.ofNat n, 16) = some (dgV 16 (UInt8.ofNat n)) ∧ r20_hex 0 (UInt8.ofNat n) = some (hexV (UInt8.ofNat n)) ∧ (-1 ≤ hexV (UInt8.ofNat n) ∧ hexV (UInt8.ofNat n) < 16))) = true := by kernel_rfl
theorem digits (x : UInt8) : xml_digit 0 (x, 10) = some (dgV 10 x) ∧ xml_digit 0 (x, 16) = some (dgV 16 x) ∧ r20_hex 0 x = some (hexV x) ∧ (-1 ≤ hexV x ∧ hexV x < 16) :=
  of_decide_eq_true (all_u8 (P := fun x => decide (xml_digit 0 (x, 10) = some (dgV 10 x) ∧ xml_digit 0 (x, 16) = some (dgV 16 x) ∧ r20_hex 0 x = some (hexV x) ∧ (-1 ≤ hexV x ∧ hexV x < 16))) digits_tab x)
theorem digit_of {base : Int} (hb : base = 10 ∨ base = 16) (N : Nat) (x : UInt8) : xml_digit N (x, base) = some (dgV base x) := by
  rcases hb with rfl | rfl
  · exact (digits x).1
  · exact (digits x).2.1
def dOk (base : Int) (x : UInt8) : Bool := decide (0 ≤ hexV x) && decide (hexV x < base)
def numF (base : Int) (n : Int) (d : List UInt8) : Int := d.foldl (fun n x => n * base + hexV x) n
theorem numF_lt {base : Int} (hb : 0 ≤ base) : ∀ (d : List UInt8) (n : Int), 0 ≤ n → d.all (dOk base) = true → 0 ≤ numF base n d ∧ numF base n d < (n + 1) * base ^ d.length
  | [], n, hn, _ => by simp [numF]; omega
  | x :: d, n, hn, h => by
    rw [List.all_cons, Bool.and_eq_true] at h
    have h1 : 0 ≤ hexV x ∧ hexV x < base := by have := h.1; unfold dOk at this; simpa using this
    have h0 : 0 ≤ n * base := Int.mul_nonneg hn hb
    have ih := numF_lt hb d (n * base + hexV x) (by omega) h.2
    refine ⟨ih.1, Int.lt_of_lt_of_le ih.2 ?_⟩
    rw [List.length_cons, Int.pow_succ, Int.mul_comm (base ^ d.length) base, ← Int.mul_assoc]
    refine Int.mul_le_mul_of_nonneg_right ?_ (Int.pow_nonneg hb)
    rw [Int.add_mul]
    omega
/-- the number of the digits of a reference -/
def refN (base : Int) (most : Nat) (d : List UInt8) : List UInt8 × Int :=
  if d = [] ∨ most < d.length ∨ d.all (dOk base) = false then ([], 4) else if inRep (numF base 0 d) = false then ([], 10) else (enc (numF base 0 d), 0)
/-- what a reference means, without its first and its last letter -/
def refC (c : List UInt8) : List UInt8 × Int :=
  if c = [97, 109, 112] then ([38], 0) else if c = [108, 116] then ([60], 0) else if c = [103, 116] then ([62], 0) else if c = [113, 117, 111, 116] then ([34], 0) else if c = [97, 112, 111, 115] then ([39], 0)
  else if c.take 2 = [35, 120] then refN 16 5 (c.drop 2) else if c.take 1 = [35] then refN 10 6 (c.drop 1) else ([], 4)
def not59 (b : UInt8) : Bool := b != 59
theorem numF_small {base : Int} {most : Nat} {d : List UInt8} (hb : (base = 10 ∧ most = 6) ∨ (base = 16 ∧ most = 5)) (hl : d.length ≤ most) (ha : d.all (dOk base) = true) : 0 ≤ numF base 0 d ∧ numF base 0 d < 1048576 := by
  have h0 : 0 ≤ base := by rcases hb with ⟨rfl, _⟩ | ⟨rfl, _⟩ <;> decide
  have h := numF_lt h0 d 0 (Int.le_refl _) ha
  refine ⟨h.1, Int.lt_of_lt_of_le h.2 ?_⟩
  rw [Int.zero_add, Int.one_mul]
  rcases hb with ⟨rfl, rfl⟩ | ⟨rfl, rfl⟩
  · have : (10 : Int) ^ d.length ≤ 10 ^ 6 := by
      have := Nat.pow_le_pow_right (n := 10) (by decide) hl
      exact_mod_cast this
    omega
  · have : (16 : Int) ^ d.length ≤ 16 ^ 5 := by
      have := Nat.pow_le_pow_right (n := 16) (by decide) hl
      exact_mod_cast this
    omega
theorem wr32_id {x : Int} (h : 0 ≤ x ∧ x < 2147483648) : wr .i32 x = x := by
  show IntKind.wrap .i32 x = x
  unfold IntKind.wrap
  simp only [IntKind.bits, IntKind.signed, Bool.true_and, decide_eq_true_eq, show (2 : Int) ^ 32 = 4294967296 from rfl, show (2 : Int) ^ (32 - 1) = 2147483648 from rfl]
  split <;> omega

def xNum (N : Nat) (x : List UInt8) : Option (List UInt8 × Int × Int) :=
    jn (fun (v1 : Int × Int × Int) =>
      jn (fun (v2 : Int × Int) =>
        cnd (ieq v2.1 v1.1)
          (some (([] : List UInt8), (0 : Int), (4 : Int)))
          (cnd (ilt v1.2.2 (w64 (isub v2.1 v1.1)))
            (some (([] : List UInt8), (0 : Int), (4 : Int)))
            (cnd (ieq v2.1 (len x))
              (some (([] : List UInt8), (0 : Int), (4 : Int)))
              (grd (inb v2.1 (len x))
                (cnd (ine (n8 (lget x (toN v2.1) (0 : UInt8))) (n8 (59 : UInt8)))
                  (some (([] : List UInt8), (0 : Int), (4 : Int)))
                  (bnd (charset_Index N (wr .i32 v2.2)) fun v3 =>
                  cnd (ilt v3 (0 : Int))
                    (some (([] : List UInt8), (0 : Int), (10 : Int)))
                    (some (enc (wr .i32 v2.2), w64 (iadd v2.1 (1 : Int)), (0 : Int)))))))))
      fun v4 =>
      fixN (fun v5 (v6 : Int × Int) =>
        cnd (ilt v6.1 (len x))
          (grd (inb v6.1 (len x))
            (bnd (xml_digit N (lget x (toN v6.1) (0 : UInt8), v1.2.1)) fun v7 =>
            cnd (ile (0 : Int) v7)
              (grd (inb v6.1 (len x))
                (bnd (xml_digit N (lget x (toN v6.1) (0 : UInt8), v1.2.1)) fun v8 =>
                v5 (w64 (iadd v6.1 (1 : Int)), imin (w64 (iadd (w64 (imul v6.2 v1.2.1)) v8)) (16777216 : Int))))
              (v4 v6)))
          (v4 v6)) N (v1.1, (0 : Int)))
    fun v9 =>
    bnd (strings_HasPrefix N (x, ([38, 35, 120] : List UInt8))) fun v10 =>
    cnd v10
      (v9 ((3 : Int), (16 : Int), (5 : Int)))
      (bnd (strings_HasPrefix N (x, ([38, 35] : List UInt8))) fun v11 =>
      cnd (bnot v11)
        (some (([] : List UInt8), (0 : Int), (4 : Int)))
        (v9 ((2 : Int), (10 : Int), (6 : Int))))
theorem xref_own (N : Nat) (x : List UInt8) : xml_reference (N + 10) x = jn (fun (_ : Unit) => xNum (N + 10) x) fun v12 => bnd (strings_HasPrefix (N + 10) (x, ([38, 97, 109, 112, 59] : List UInt8))) fun v => cnd v (some (([38] : List UInt8), (5 : Int), (0 : Int))) (bnd (strings_HasPrefix (N + 10) (x, ([38, 108, 116, 59] : List UInt8))) fun v => cnd v (some (([60] : List UInt8), (4 : Int), (0 : Int))) (bnd (strings_HasPrefix (N + 10) (x, ([38, 103, 116, 59] : List UInt8))) fun v => cnd v (some (([62] : List UInt8), (4 : Int), (0 : Int))) (bnd (strings_HasPrefix (N + 10) (x, ([38, 113, 117, 111, 116, 59] : List UInt8))) fun v => cnd v (some (([34] : List UInt8), (6 : Int), (0 : Int))) (bnd (strings_HasPrefix (N + 10) (x, ([38, 97, 112, 111, 115, 59] : List UInt8))) fun v => cnd v (some (([39] : List UInt8), (6 : Int), (0 : Int))) (v12 ()))))) := by kernel_rfl

def kv (v : Int) : Option (List UInt8 × Int) := cnd (ilt v (0 : Int)) (some (([] : List UInt8), (4 : Int))) (bnd (r08_Index fuelH (wr .i32 v)) fun v2 => cnd (ilt v2 (0 : Int)) (some (([] : List UInt8), (10 : Int))) (bnd (r08_Of fuelH ([wr .i32 v] : List Int)) fun v3 => some (v3, (0 : Int))))
def v8 (x : List UInt8) (b : Bool) : Option (List UInt8 × Int) := cnd b (grd (in2 (2 : Int) (len x)) (bnd (r20_code fuelH (ldrop (toN (2 : Int)) x, (16 : Int), (5 : Int))) kv))
  (cnd (ilt (0 : Int) (len x)) (grd (inb (0 : Int) (len x)) (cnd (ieq (n8 (lget x (toN (0 : Int)) (0 : UInt8))) (n8 (35 : UInt8))) (grd (in2 (1 : Int) (len x)) (bnd (r20_code fuelH (ldrop (toN (1 : Int)) x, (10 : Int), (6 : Int))) kv)) (kv (-1 : Int)))) (kv (-1 : Int)))
/-- the numeric part -/
def numC (c : List UInt8) : List UInt8 × Int := if c.take 2 = [35, 120] then refN 16 5 (c.drop 2) else if c.take 1 = [35] then refN 10 6 (c.drop 1) else ([], 4)
theorem refC_eq (c : List UInt8) : refC c = if c = [97, 109, 112] then ([38], 0) else if c = [108, 116] then ([60], 0) else if c = [103, 116] then ([62], 0) else if c = [113, 117, 111, 116] then ([34], 0) else if c = [97, 112, 111, 115] then ([39], 0) else numC c := rfl
theorem hp_eq (N : Nat) (s p : List UInt8) : strings_HasPrefix N (s, p) = some (decide (s.take p.length = p)) := by
  unfold strings_HasPrefix stringslite_HasPrefix
  by_cases h : p.length ≤ s.length
  · rw [cnd_t (ile_t (by simp only [len]; omega)), grd_t (in2_t (by simp only [len]; omega)), bnd_some', seq_dec]
    simp only [ltake, toN, len, Int.toNat_natCast]
    exact congrArg some (decide_eq_decide.2 Iff.rfl)
  · rw [cnd_f (ile_f (by simp only [len]; omega)), bnd_some']
    have : ¬ (s.take p.length = p) := fun e => by
      have := congrArg List.length e
      rw [List.length_take] at this
      omega
    rw [decide_eq_false this]
theorem tw_of {c t : List UInt8} (h : c.all not59 = true) : (c ++ 59 :: t).takeWhile not59 = c := by
  rw [List.takeWhile_append_of_pos (by simpa using h), List.takeWhile_cons]
  simp [not59]
theorem tw_all {c : List UInt8} (h : c.all not59 = true) : c.takeWhile not59 = c := by
  have := List.takeWhile_append_of_pos (p := not59) (l₁ := c) (l₂ := []) (by simpa using h)
  simpa using this
theorem tw_split : ∀ r : List UInt8, (r.all not59 = true) ∨ ∃ c t, r = c ++ 59 :: t ∧ c.all not59 = true
  | [] => .inl rfl
  | b :: r => by
    by_cases hb : b = 59
    · exact .inr ⟨[], r, by rw [hb]; rfl, rfl⟩
    have h1 : not59 b = true := by simpa [not59] using hb
    rcases tw_split r with h | ⟨c, t, e, h⟩
    · exact .inl (by rw [List.all_cons, h1, h]; rfl)
    · exact .inr ⟨b :: c, t, by rw [e]; rfl, by rw [List.all_cons, h1, h]; rfl⟩
theorem clampF_eq {base : Int} (hb : 1 ≤ base) : ∀ (d : List UInt8) (n : Int), 0 ≤ n → d.all (dOk base) = true → n ≤ numF base n d ∧ (numF base n d ≤ 16777216 → d.foldl (fun n x => min (n * base + hexV x) 16777216) n = numF base n d)
  | [], n, _, _ => ⟨Int.le_refl _, fun _ => rfl⟩
  | x :: d, n, hn, h => by
    rw [List.all_cons, Bool.and_eq_true] at h
    have h1 : 0 ≤ hexV x ∧ hexV x < base := by have := h.1; unfold dOk at this; simpa using this
    have h0 : n * 1 ≤ n * base := Int.mul_le_mul_of_nonneg_left hb hn
    have ih := clampF_eq hb d (n * base + hexV x) (by omega) h.2
    refine ⟨Int.le_trans (by omega) ih.1, fun hle => ?_⟩
    have hle : numF base (n * base + hexV x) d ≤ 16777216 := hle
    rw [List.foldl_cons]
    have hm : min (n * base + hexV x) 16777216 = n * base + hexV x := by have := ih.1; omega
    rw [hm]
    exact ih.2 hle
def refX (r : List UInt8) : List UInt8 × Int × Int :=
  let c := r.takeWhile not59
  if c.length = r.length then ([], 0, 4) else if (refC c).2 = 0 then ((refC c).1, ((c.length + 2 : Nat) : Int), 0) else ([], 0, (refC c).2)
theorem refX_no {r : List UInt8} (h : r.all not59 = true) : refX r = ([], 0, 4) := by
  unfold refX
  simp only [tw_all h, if_true]
theorem refX_yes {c t : List UInt8} (h : c.all not59 = true) : refX (c ++ 59 :: t) = if (refC c).2 = 0 then ((refC c).1, ((c.length + 2 : Nat) : Int), 0) else ([], 0, (refC c).2) := by
  unfold refX
  simp only [tw_of h]
  rw [if_neg (by simp)]
/-- behind the digits -/
def k2N (N : Nat) (s : List UInt8) (at' : Int) (most : Int) (v2 : Int × Int) : Option (List UInt8 × Int × Int) :=
        cnd (ieq v2.1 at')
          (some (([] : List UInt8), (0 : Int), (4 : Int)))
          (cnd (ilt most (w64 (isub v2.1 at')))
            (some (([] : List UInt8), (0 : Int), (4 : Int)))
            (cnd (ieq v2.1 (len s))
              (some (([] : List UInt8), (0 : Int), (4 : Int)))
              (grd (inb v2.1 (len s))
                (cnd (ine (n8 (lget s (toN v2.1) (0 : UInt8))) (n8 (59 : UInt8)))
                  (some (([] : List UInt8), (0 : Int), (4 : Int)))
                  (bnd (charset_Index N (wr .i32 v2.2)) fun v3 =>
                  cnd (ilt v3 (0 : Int))
                    (some (([] : List UInt8), (0 : Int), (10 : Int)))
                    (some (enc (wr .i32 v2.2), w64 (iadd v2.1 (1 : Int)), (0 : Int))))))))
def k2 (s : List UInt8) (at' : Int) (most : Int) (v2 : Int × Int) : Option (List UInt8 × Int × Int) := k2N fuelH s at' most v2
theorem dgV_of {base : Int} (x : UInt8) : (0 ≤ dgV base x ↔ dOk base x = true) ∧ (dOk base x = true → dgV base x = hexV x) := by
  unfold dgV dOk
  by_cases h : base ≤ hexV x
  · rw [if_pos h]
    refine ⟨⟨fun k => by omega, fun k => ?_⟩, fun k => ?_⟩
    · simp at k; omega
    · simp at k; omega
  · rw [if_neg h]
    refine ⟨⟨fun k => by simp; omega, fun k => ?_⟩, fun _ => rfl⟩
    simp at k; omega
theorem dig_loop {s : List UInt8} (hs : s.length ≤ 4000000) {base : Int} (hb : base = 10 ∨ base = 16) {K : Int × Int → Option (List UInt8 × Int × Int)} : ∀ (fuel i : Nat) (n : Int), s.length - i < fuel → i ≤ s.length → 0 ≤ n → n ≤ 16777216 →
    fixN (fun v5 (v6 : Int × Int) =>
        cnd (ilt v6.1 (len s))
          (grd (inb v6.1 (len s))
            (bnd (xml_digit fuelH (lget s (toN v6.1) (0 : UInt8), base)) fun v7 =>
            cnd (ile (0 : Int) v7)
              (grd (inb v6.1 (len s))
                (bnd (xml_digit fuelH (lget s (toN v6.1) (0 : UInt8), base)) fun v8 =>
                v5 (w64 (iadd v6.1 (1 : Int)), imin (w64 (iadd (w64 (imul v6.2 base)) v8)) (16777216 : Int))))
              (K v6)))
          (K v6)) fuel ((i : Int), n) = K (((i + ((s.drop i).takeWhile (dOk base)).length : Nat) : Int), ((s.drop i).takeWhile (dOk base)).foldl (fun n x => min (n * base + hexV x) 16777216) n)
  | 0, i, n, h, _, _, _ => by omega
  | fuel + 1, i, n, h, hi, h0, h1 => by
    rw [fixN_s]
    by_cases hl : i < s.length
    · have g : lget s (toN (i : Int)) (0 : UInt8) = s[i] := lget_i hl
      have hw : w64 (iadd (i : Int) 1) = ((i + 1 : Nat) : Int) := w64_succ hl (by omega)
      have hx := (digits s[i]).2.2.2
      have hdv := dgV_of (base := base) s[i]
      show cnd (ilt (i : Int) (len s)) _ _ = _
      rw [cnd_t (ilt_t (by simp only [len]; omega)), grd_t (inb_t (by simp only [len]; omega)), g, digit_of hb, bnd_some', grd_t (inb_t (by simp only [len]; omega)), bnd_some', hw, List.drop_eq_getElem_cons hl, List.takeWhile_cons]
      by_cases hd : dOk base s[i] = true
      · have h2 := hdv.2 hd
        have h3 : 0 ≤ hexV s[i] ∧ hexV s[i] < base := by unfold dOk at hd; simpa using hd
        have hb16 : 1 ≤ base ∧ base ≤ 16 := by rcases hb with rfl | rfl <;> decide
        have m0 : 0 ≤ n * base := Int.mul_nonneg h0 (by omega)
        have m1 : n * base ≤ n * 16 := Int.mul_le_mul_of_nonneg_left hb16.2 h0
        rw [cnd_t (ile_t (hdv.1.2 hd)), if_pos hd, h2]
        have e1 : imin (w64 (iadd (w64 (imul n base)) (hexV s[i]))) 16777216 = min (n * base + hexV s[i]) 16777216 := by
          simp only [imul, iadd, imin]
          rw [w64_id (x := n * base) (by omega), w64_id (by omega)]
        rw [e1]
        have ih := dig_loop hs hb (K := K) fuel (i + 1) (min (n * base + hexV s[i]) 16777216) (by omega) (by omega) (by omega) (by omega)
        rw [ih, List.length_cons, List.foldl_cons]
        congr 3
        omega
      · rw [cnd_f (ile_f (fun k => hd (hdv.1.1 k))), if_neg hd]
        rfl
    · obtain rfl : i = s.length := by omega
      show cnd (ilt (s.length : Int) (len s)) _ _ = _
      rw [cnd_f (ilt_f (by simp only [len]; omega)), List.drop_length]
      rfl

theorem all_tw {P : UInt8 → Bool} : ∀ l : List UInt8, (l.takeWhile P).all P = true
  | [] => rfl
  | b :: l => by
    rw [List.takeWhile_cons]
    split
    · rename_i h
      rw [List.all_cons, h, all_tw l]
      rfl
    · rfl
theorem tw_drop {P : UInt8 → Bool} : ∀ l : List UInt8, l.drop (l.takeWhile P).length = [] ∨ ∃ b t, l.drop (l.takeWhile P).length = b :: t ∧ P b = false
  | [] => .inl rfl
  | b :: l => by
    rw [List.takeWhile_cons]
    by_cases h : P b = true
    · rw [if_pos h]
      simpa using tw_drop l
    · rw [if_neg h]
      exact .inr ⟨b, l, rfl, by simpa using h⟩
theorem tw_cat (P : UInt8 → Bool) : ∀ l : List UInt8, l.takeWhile P ++ l.drop (l.takeWhile P).length = l
  | [] => rfl
  | b :: l => by
    rw [List.takeWhile_cons]
    split
    · rw [List.length_cons, List.drop_succ_cons, List.cons_append, tw_cat P l]
    · rfl
theorem dOk_not59 {base : Int} {x : UInt8} (h : dOk base x = true) : not59 x = true := by
  unfold not59
  simp only [bne_iff_ne, ne_eq]
  intro e
  subst e
  unfold dOk at h
  simp [hexV] at h
theorem k2_err {s : List UInt8} {a m : Nat} {n : Int} {most : Nat} (hl : s.length ≤ 4000000) (ham : a + m ≤ s.length) (h : m = 0 ∨ most < m ∨ a + m = s.length ∨ ∃ b t, s.drop (a + m) = b :: t ∧ b ≠ 59) : k2 s (a : Int) (most : Int) (((a + m : Nat) : Int), n) = some ([], 0, 4) := by
  unfold k2 k2N
  simp only
  by_cases h0 : m = 0
  · rw [cnd_t (ieq_t (by omega))]
  rw [cnd_f (ieq_f (by omega))]
  have e1 : w64 (isub ((a + m : Nat) : Int) (a : Int)) = (m : Int) := by
    simp only [isub]
    rw [w64_id (by omega)]
    omega
  rw [e1]
  by_cases h1 : most < m
  · rw [cnd_t (ilt_t (by omega))]
  rw [cnd_f (ilt_f (by omega))]
  by_cases h2 : a + m = s.length
  · rw [cnd_t (ieq_t (by simp only [len]; omega))]
  rw [cnd_f (ieq_f (by simp only [len]; omega)), grd_t (inb_t (by simp only [len]; omega))]
  rcases h with h | h | h | ⟨b, t, h3, h4⟩
  · exact absurd h h0
  · exact absurd h h1
  · exact absurd h h2
  · have hlt : a + m < s.length := by omega
    have hb : s[a + m] = b := by
      rw [List.drop_eq_getElem_cons hlt] at h3
      injection h3
    rw [lget_i hlt, hb, cnd_t (ine_t (fun k => h4 (n8_inj k)))]
theorem k2_ok {s : List UInt8} {a m : Nat} {n : Int} {most : Nat} {t : List UInt8} (hl : s.length ≤ 4000000) (h0 : m ≠ 0) (h1 : ¬ most < m) (h3 : s.drop (a + m) = 59 :: t) (hn : 0 ≤ n ∧ n < 1048576) : k2 s (a : Int) (most : Int) (((a + m : Nat) : Int), n) = some (if inRep n = false then ([], 0, 10) else (enc n, ((a + m + 1 : Nat) : Int), 0)) := by
  have hlt : a + m < s.length := by
    rcases Nat.lt_or_ge (a + m) s.length with h | h
    · exact h
    · rw [List.drop_eq_nil_of_le h] at h3
      cases h3
  have hb : s[a + m] = 59 := by
    rw [List.drop_eq_getElem_cons hlt] at h3
    injection h3
  unfold k2 k2N
  simp only
  have e1 : w64 (isub ((a + m : Nat) : Int) (a : Int)) = (m : Int) := by
    simp only [isub]
    rw [w64_id (by omega)]
    omega
  obtain ⟨i, q1, _, q3⟩ := index_some n
  rw [cnd_f (ieq_f (by omega)), e1, cnd_f (ilt_f (by omega)), cnd_f (ieq_f (by simp only [len]; omega)), grd_t (inb_t (by simp only [len]; omega)), lget_i hlt, hb, cnd_f (by rfl), wr32_id (by omega), q1, bnd_some', w64_succ (n := s.length) hlt (by omega)]
  by_cases h2 : inRep n = false
  · rw [if_pos h2, cnd_t (ilt_t (q3.2 h2))]
  · rw [if_neg h2, cnd_f (ilt_f (fun k => h2 (q3.1 k)))]
/-- the digits of a reference, and what stands behind them -/
theorem num_part {s : List UInt8} (hs : s.length ≤ 4000000) {base : Int} {most a : Nat} (hb : (base = 10 ∧ most = 6) ∨ (base = 16 ∧ most = 5)) (ha : a ≤ s.length) :
    k2 s (a : Int) (most : Int) (((a + ((s.drop a).takeWhile (dOk base)).length : Nat) : Int), ((s.drop a).takeWhile (dOk base)).foldl (fun n x => min (n * base + hexV x) 16777216) 0) =
      some (if (s.drop a).all not59 = true then ([], 0, 4) else if (refN base most ((s.drop a).takeWhile not59)).2 = 0 then ((refN base most ((s.drop a).takeWhile not59)).1, ((a + ((s.drop a).takeWhile not59).length + 1 : Nat) : Int), 0) else ([], 0, (refN base most ((s.drop a).takeWhile not59)).2)) := by
  generalize hd : s.drop a = d
  have hw := all_tw (P := dOk base) d
  have hm := List.takeWhile_prefix (dOk base) (l := d)
  have hdl : d.length = s.length - a := by rw [← hd, List.length_drop]
  have hml : (d.takeWhile (dOk base)).length ≤ d.length := hm.length_le
  have hdr : s.drop (a + (d.takeWhile (dOk base)).length) = d.drop (d.takeWhile (dOk base)).length := by rw [← hd, List.drop_drop]
  have hcat : d = d.takeWhile (dOk base) ++ d.drop (d.takeWhile (dOk base)).length := (tw_cat _ d).symm
  have hbase : 1 ≤ base := by rcases hb with ⟨h, _⟩ | ⟨h, _⟩ <;> omega
  rcases tw_drop (P := dOk base) d with h | ⟨b, t, h, hbad⟩
  · rw [k2_err hs (by omega) (.inr (.inr (.inl (by have := congrArg List.length h; simp at this; omega))))]
    have : d.all not59 = true := by
      rw [hcat, h, List.append_nil]
      rw [List.all_eq_true] at hw ⊢
      exact fun x hx => dOk_not59 (hw x hx)
    rw [if_pos this]
  · by_cases hb59 : b = 59
    · subst hb59
      have hno : ¬ (d.all not59 = true) := fun k => by
        rw [hcat, h, List.all_append, List.all_cons] at k
        simp [not59] at k
      have htw : d.takeWhile not59 = d.takeWhile (dOk base) := by
        conv => lhs; rw [hcat, h]
        refine tw_of ?_
        rw [List.all_eq_true] at hw ⊢
        exact fun x hx => dOk_not59 (hw x hx)
      rw [if_neg hno, htw]
      generalize hq : d.takeWhile (dOk base) = q at *
      unfold refN
      by_cases he : q = [] ∨ most < q.length ∨ q.all (dOk base) = false
      · rw [if_pos he, if_neg (by decide)]
        refine k2_err hs (by omega) ?_
        rcases he with he | he | he
        · exact .inl (by rw [he]; rfl)
        · exact .inr (.inl he)
        · rw [he] at hw; cases hw
      · rw [if_neg he]
        simp only [not_or] at he
        have hsm := numF_small hb (by omega) hw
        have hcl := (clampF_eq hbase q 0 (Int.le_refl _) hw).2 (by omega)
        rw [hcl, k2_ok hs (fun k => he.1 (List.eq_nil_of_length_eq_zero k)) he.2.1 (hdr.trans h) hsm]
        by_cases hr : inRep (numF base 0 q) = false
        · rw [if_pos hr, if_pos hr]
          rfl
        · rw [if_neg hr, if_neg hr]
          rfl
    · have hcat2 : d = d.takeWhile (dOk base) ++ b :: t := by rw [← h]; exact hcat
      rw [k2_err hs (by omega) (.inr (.inr (.inr ⟨b, t, hdr.trans h, hb59⟩)))]
      by_cases hall : d.all not59 = true
      · rw [if_pos hall]
      · rw [if_neg hall]
        have hbq : ∃ u, d.takeWhile not59 = d.takeWhile (dOk base) ++ b :: u := by
          refine ⟨t.takeWhile not59, ?_⟩
          conv => lhs; rw [hcat2]
          rw [List.takeWhile_append_of_pos (by rw [List.all_eq_true] at hw; exact fun x hx => dOk_not59 (hw x hx)), List.takeWhile_cons, if_pos (by simpa [not59] using hb59)]
        obtain ⟨u, hu⟩ := hbq
        have : (d.takeWhile not59).all (dOk base) = false := by
          rw [hu, List.all_append, List.all_cons, hbad]
          simp
        have e : refN base most (d.takeWhile not59) = ([], 4) := by
          unfold refN
          rw [if_pos (.inr (.inr this))]
        rw [e, if_neg (by decide)]

theorem pre_iff {c t p : List UInt8} (hp : p.all not59 = true) : (c ++ 59 :: t).take p.length = p ↔ c.take p.length = p := by
  by_cases h : p.length ≤ c.length
  · rw [List.take_append_of_le_length h]
  · refine ⟨fun e => ?_, fun e => ?_⟩
    · have hl : c.length < p.length := by omega
      have h1 : p[c.length]? = some 59 := by
        rw [← e, List.getElem?_take, if_pos hl]
        simp
      have h2 := List.mem_of_getElem? h1
      rw [List.all_eq_true] at hp
      have := hp 59 h2
      simp [not59] at this
    · have := congrArg List.length e
      rw [List.length_take] at this
      omega
theorem named_iff {c t p : List UInt8} (hc : c.all not59 = true) (hp : p.all not59 = true) : (c ++ 59 :: t).take (p ++ [59]).length = p ++ [59] ↔ c = p := by
  refine ⟨fun e => ?_, fun e => ?_⟩
  · have h1 : c ++ 59 :: t = p ++ 59 :: (c ++ 59 :: t).drop (p ++ [59]).length := by
      conv => lhs; rw [← List.take_append_drop (p ++ [59]).length (c ++ 59 :: t), e]
      simp
    have h2 := tw_of (t := t) hc
    rw [h1, tw_of hp] at h2
    exact h2.symm
  · subst e
    rw [show c ++ 59 :: t = (c ++ [59]) ++ t by simp, List.take_left]
theorem named_no {r p : List UInt8} (hr : r.all not59 = true) : ¬ (r.take (p ++ [59]).length = p ++ [59]) := fun e => by
  have h1 : (59 : UInt8) ∈ r := by
    have : (59 : UInt8) ∈ r.take (p ++ [59]).length := by rw [e]; simp
    exact List.mem_of_mem_take this
  rw [List.all_eq_true] at hr
  have := hr 59 h1
  simp [not59] at this
def xAN (N : Nat) (s : List UInt8) (v1 : Int × Int × Int) : Option (List UInt8 × Int × Int) :=
      fixN (fun v5 (v6 : Int × Int) =>
        cnd (ilt v6.1 (len s))
          (grd (inb v6.1 (len s))
            (bnd (xml_digit N (lget s (toN v6.1) (0 : UInt8), v1.2.1)) fun v7 =>
            cnd (ile (0 : Int) v7)
              (grd (inb v6.1 (len s))
                (bnd (xml_digit N (lget s (toN v6.1) (0 : UInt8), v1.2.1)) fun v8 =>
                v5 (w64 (iadd v6.1 (1 : Int)), imin (w64 (iadd (w64 (imul v6.2 v1.2.1)) v8)) (16777216 : Int))))
              (k2N N s v1.1 v1.2.2 v6)))
          (k2N N s v1.1 v1.2.2 v6)) N (v1.1, (0 : Int))
def xA (s : List UInt8) (v1 : Int × Int × Int) : Option (List UInt8 × Int × Int) := xAN fuelH s v1
theorem xnum_ownN (N : Nat) (s : List UInt8) : xNum N s = bnd (strings_HasPrefix N (s, ([38, 35, 120] : List UInt8))) fun v10 => cnd v10 (xAN N s ((3 : Int), (16 : Int), (5 : Int))) (bnd (strings_HasPrefix N (s, ([38, 35] : List UInt8))) fun v11 => cnd (bnot v11) (some (([] : List UInt8), (0 : Int), (4 : Int))) (xAN N s ((2 : Int), (10 : Int), (6 : Int)))) := rfl
theorem xnum_own (s : List UInt8) : xNum fuelH s = bnd (strings_HasPrefix fuelH (s, ([38, 35, 120] : List UInt8))) fun v10 => cnd v10 (xA s ((3 : Int), (16 : Int), (5 : Int))) (bnd (strings_HasPrefix fuelH (s, ([38, 35] : List UInt8))) fun v11 => cnd (bnot v11) (some (([] : List UInt8), (0 : Int), (4 : Int))) (xA s ((2 : Int), (10 : Int), (6 : Int)))) := xnum_ownN fuelH s
theorem xA_eq {s : List UInt8} (hs : s.length ≤ 4000000) {base : Int} {most a : Nat} (hb : (base = 10 ∧ most = 6) ∨ (base = 16 ∧ most = 5)) (ha : a ≤ s.length) :
    xA s ((a : Int), base, (most : Int)) = some (if (s.drop a).all not59 = true then ([], 0, 4) else if (refN base most ((s.drop a).takeWhile not59)).2 = 0 then ((refN base most ((s.drop a).takeWhile not59)).1, ((a + ((s.drop a).takeWhile not59).length + 1 : Nat) : Int), 0) else ([], 0, (refN base most ((s.drop a).takeWhile not59)).2)) := by
  rw [← num_part hs hb ha]
  exact dig_loop hs (by rcases hb with ⟨h, _⟩ | ⟨h, _⟩ <;> simp [h]) fuelH a 0 (fuelH_len hs a) ha (by decide) (by decide)
theorem xnum_eq {r : List UInt8} (hr : r.length ≤ 3999999) : xNum fuelH (38 :: r) = some (if r.all not59 = true then ([], 0, 4) else if (numC (r.takeWhile not59)).2 = 0 then ((numC (r.takeWhile not59)).1, (((r.takeWhile not59).length + 2 : Nat) : Int), 0) else ([], 0, (numC (r.takeWhile not59)).2)) := by
  have hs : (38 :: r).length ≤ 4000000 := by simp; omega
  have e1 : ((38 :: r).take ([38, 35, 120] : List UInt8).length = [38, 35, 120]) ↔ r.take ([35, 120] : List UInt8).length = [35, 120] := by simp
  have e2 : ((38 :: r).take ([38, 35] : List UInt8).length = [38, 35]) ↔ r.take ([35] : List UInt8).length = [35] := by simp
  rw [xnum_own, hp_eq, bnd_some']
  by_cases h1 : r.take ([35, 120] : List UInt8).length = [35, 120]
  · have hl : 2 ≤ r.length := by have := congrArg List.length h1; simp at this; omega
    rw [cnd_t (decide_eq_true (e1.2 h1))]
    have hx := xA_eq (a := 3) hs (.inr ⟨rfl, rfl⟩) (by simp; omega)
    refine Eq.trans hx ?_
    have hd : (38 :: r).drop 3 = r.drop 2 := rfl
    rw [hd]
    rcases tw_split r with h | ⟨c, t, rfl, h⟩
    · rw [if_pos h, if_pos]
      rw [List.all_eq_true] at h ⊢
      exact fun x hx => h x (List.mem_of_mem_drop hx)
    · have h2 := (pre_iff (by rfl)).1 h1
      have hc2 : 2 ≤ c.length := by have := congrArg List.length h2; simp at this; omega
      have hd2 : (c ++ 59 :: t).drop 2 = c.drop 2 ++ 59 :: t := List.drop_append_of_le_length hc2
      have hca : (c.drop 2).all not59 = true := by
        rw [List.all_eq_true] at h ⊢
        exact fun x hx => h x (List.mem_of_mem_drop hx)
      have hn : numC c = refN 16 5 (c.drop 2) := if_pos h2
      have no : ∀ (p q : List UInt8), ¬ ((p ++ 59 :: q).all not59 = true) := fun p q k => by
        rw [List.all_append, List.all_cons] at k
        simp [not59] at k
      rw [hd2, tw_of hca, tw_of h, if_neg (no _ _), if_neg (no _ _), hn, List.length_drop]
      have : 3 + (c.length - 2) + 1 = c.length + 2 := by omega
      rw [this]
  · rw [cnd_f (decide_eq_false (fun k => h1 (e1.1 k))), hp_eq, bnd_some']
    by_cases h3 : r.take ([35] : List UInt8).length = [35]
    · have hl : 1 ≤ r.length := by have := congrArg List.length h3; simp at this; omega
      rw [decide_eq_true (e2.2 h3), cnd_f (by rfl)]
      have hx := xA_eq (a := 2) hs (.inl ⟨rfl, rfl⟩) (by simp; omega)
      refine Eq.trans hx ?_
      have hd : (38 :: r).drop 2 = r.drop 1 := rfl
      rw [hd]
      rcases tw_split r with h | ⟨c, t, rfl, h⟩
      · rw [if_pos h, if_pos]
        rw [List.all_eq_true] at h ⊢
        exact fun x hx => h x (List.mem_of_mem_drop hx)
      · have h2 := (pre_iff (by rfl)).1 h3
        have h4 : ¬ (c.take 2 = [35, 120]) := fun k => h1 ((pre_iff (p := [35, 120]) (by rfl)).2 k)
        have hc2 : 1 ≤ c.length := by have := congrArg List.length h2; simp at this; omega
        have hd2 : (c ++ 59 :: t).drop 1 = c.drop 1 ++ 59 :: t := List.drop_append_of_le_length hc2
        have hca : (c.drop 1).all not59 = true := by
          rw [List.all_eq_true] at h ⊢
          exact fun x hx => h x (List.mem_of_mem_drop hx)
        have hn : numC c = refN 10 6 (c.drop 1) := by unfold numC; rw [if_neg h4]; exact if_pos h2
        have no : ∀ (p q : List UInt8), ¬ ((p ++ 59 :: q).all not59 = true) := fun p q k => by
          rw [List.all_append, List.all_cons] at k
          simp [not59] at k
        rw [hd2, tw_of hca, tw_of h, if_neg (no _ _), if_neg (no _ _), hn, List.length_drop]
        have : 2 + (c.length - 1) + 1 = c.length + 2 := by omega
        rw [this]
    · rw [decide_eq_false (fun k => h3 (e2.1 k)), cnd_t (by rfl)]
      rcases tw_split r with h | ⟨c, t, rfl, h⟩
      · rw [if_pos h]
      · have h4 : ¬ (c.take 2 = [35, 120]) := fun k => h1 ((pre_iff (p := [35, 120]) (by rfl)).2 k)
        have h5 : ¬ (c.take 1 = [35]) := fun k => h3 ((pre_iff (p := [35]) (by rfl)).2 k)
        have hn : numC c = ([], 4) := by unfold numC; rw [if_neg h4, if_neg h5]
        rw [tw_of h, hn]
        split <;> rfl
theorem xref_eq {r : List UInt8} (hr : r.length ≤ 3999999) : xml_reference fuelH (38 :: r) = some (refX r) := by
  have h := xref_own (fuelM + 4990) (38 :: r)
  have hx := xnum_eq hr
  show xml_reference (fuelM + 4990 + 10) (38 :: r) = _
  rw [h, jn_e]
  simp only [hp_eq, bnd_some']
  have step : ∀ (p : List UInt8) (X Y : Option (List UInt8 × Int × Int)), cnd (decide ((38 :: r).take (38 :: (p ++ [59])).length = 38 :: (p ++ [59]))) X Y = if r.take (p ++ [59]).length = p ++ [59] then X else Y := fun p X Y => by
    rw [cnd_dec]
    by_cases e : r.take (p ++ [59]).length = p ++ [59]
    · rw [if_pos e, if_pos (by rw [List.length_cons, List.take_succ_cons, e])]
    · rw [if_neg e, if_neg (fun k => e (by rw [List.length_cons, List.take_succ_cons] at k; injection k))]
  have s1 := step [97, 109, 112]
  have s2 := step [108, 116]
  have s3 := step [103, 116]
  have s4 := step [113, 117, 111, 116]
  have s5 := step [97, 112, 111, 115]
  refine Eq.trans (s1 _ _) ?_
  rcases tw_split r with h | ⟨c, t, rfl, hc⟩
  · rw [if_neg (named_no h)]
    refine Eq.trans (s2 _ _) ?_
    rw [if_neg (named_no h)]
    refine Eq.trans (s3 _ _) ?_
    rw [if_neg (named_no h)]
    refine Eq.trans (s4 _ _) ?_
    rw [if_neg (named_no h)]
    refine Eq.trans (s5 _ _) ?_
    rw [if_neg (named_no h), refX_no h]
    refine Eq.trans hx ?_
    rw [if_pos h]
  · rw [refX_yes hc, refC_eq]
    simp only [named_iff hc (show ([97, 109, 112] : List UInt8).all not59 = true from rfl)]
    by_cases c1 : c = [97, 109, 112]
    · subst c1; rfl
    rw [if_neg c1, if_neg c1]
    refine Eq.trans (s2 _ _) ?_
    simp only [named_iff hc (show ([108, 116] : List UInt8).all not59 = true from rfl)]
    by_cases c2 : c = [108, 116]
    · subst c2; rfl
    rw [if_neg c2, if_neg c2]
    refine Eq.trans (s3 _ _) ?_
    simp only [named_iff hc (show ([103, 116] : List UInt8).all not59 = true from rfl)]
    by_cases c3 : c = [103, 116]
    · subst c3; rfl
    rw [if_neg c3, if_neg c3]
    refine Eq.trans (s4 _ _) ?_
    simp only [named_iff hc (show ([113, 117, 111, 116] : List UInt8).all not59 = true from rfl)]
    by_cases c4 : c = [113, 117, 111, 116]
    · subst c4; rfl
    rw [if_neg c4, if_neg c4]
    refine Eq.trans (s5 _ _) ?_
    simp only [named_iff hc (show ([97, 112, 111, 115] : List UInt8).all not59 = true from rfl)]
    by_cases c5 : c = [97, 112, 111, 115]
    · subst c5; rfl
    rw [if_neg c5, if_neg c5]
    refine Eq.trans hx ?_
    have no : ¬ ((c ++ 59 :: t).all not59 = true) := fun k => by
      rw [List.all_append, List.all_cons] at k
      simp [not59] at k
    rw [if_neg no, tw_of hc]
end
end Go.Mo
end

section
/-
  Plain facts: the text that is meant, names, both sides; XmlEscapes and XmlUnescapes return true.
-/
set_option linter.all false
namespace Go.Mo
open Go Go.W Go.Lib
set_option maxRecDepth 100000
noncomputable section

theorem refN_len (base : Int) (most : Nat) (d : List UInt8) : (refN base most d).1.length ≤ 4 := by
  unfold refN
  split
  · simp
  · split
    · simp
    · rename_i h
      exact enc_len (by simpa using h)
theorem refC_len (c : List UInt8) : (refC c).1.length ≤ 4 := by
  rw [refC_eq]
  repeat' split
  any_goals simp
  unfold numC
  repeat' split
  · exact refN_len _ _ _
  · exact refN_len _ _ _
  · simp
theorem tw_len {P : UInt8 → Bool} (l : List UInt8) : (l.takeWhile P).length ≤ l.length := (List.takeWhile_prefix P).length_le
theorem refX_ok {l : List UInt8} (h : (refX l).2.2 = 0) : (l.takeWhile not59).length < l.length ∧ (refX l).2.1 = (((l.takeWhile not59).length + 2 : Nat) : Int) ∧ (refX l).1 = (refC (l.takeWhile not59)).1 ∧ (refC (l.takeWhile not59)).2 = 0 := by
  have := tw_len (P := not59) l
  unfold refX at *
  simp only at *
  by_cases h1 : (l.takeWhile not59).length = l.length
  · rw [if_pos h1] at h
    cases h
  · rw [if_neg h1] at h ⊢
    by_cases h2 : (refC (l.takeWhile not59)).2 = 0
    · rw [if_pos h2] at h ⊢
      exact ⟨by omega, rfl, rfl, h2⟩
    · rw [if_neg h2] at h
      exact absurd h h2
def unE : Nat → List UInt8 → List UInt8 → List UInt8 × Int
  | 0, a, _ => (a, 0)
  | _ + 1, a, [] => (a, 0)
  | n + 1, a, b :: l => if b = 60 then ([], 4) else if b = 38 then (if (refX l).2.2 ≠ 0 then ([], (refX l).2.2) else unE n (a ++ (refX l).1) (l.drop ((l.takeWhile not59).length + 1))) else unE n (a ++ [b]) l
theorem unE_fuel : ∀ (n m : Nat) (a l : List UInt8), l.length ≤ n → l.length ≤ m → unE n a l = unE m a l
  | 0, m, a, l, h, _ => by
    have : l = [] := List.eq_nil_of_length_eq_zero (by omega)
    subst this
    cases m <;> rfl
  | n + 1, 0, a, l, _, h => by
    have : l = [] := List.eq_nil_of_length_eq_zero (by omega)
    subst this
    rfl
  | n + 1, m + 1, a, [], _, _ => rfl
  | n + 1, m + 1, a, b :: l, h1, h2 => by
    have e1 := fun a => unE_fuel n m a l (by simp at h1; omega) (by simp at h2; omega)
    have e2 := fun a => unE_fuel n m a (l.drop ((l.takeWhile not59).length + 1)) (by simp at h1 ⊢; omega) (by simp at h2 ⊢; omega)
    simp only [unE, e1, e2]
/-- the text that is meant, behind what is there already -/
def un (a l : List UInt8) : List UInt8 × Int := unE l.length a l
theorem un_nil (a : List UInt8) : un a [] = (a, 0) := rfl
theorem un_cons (a : List UInt8) (b : UInt8) (l : List UInt8) : un a (b :: l) = if b = 60 then ([], 4) else if b = 38 then (if (refX l).2.2 ≠ 0 then ([], (refX l).2.2) else un (a ++ (refX l).1) (l.drop ((l.takeWhile not59).length + 1))) else un (a ++ [b]) l := by
  have e2 := fun a => unE_fuel l.length (l.drop ((l.takeWhile not59).length + 1)).length a (l.drop ((l.takeWhile not59).length + 1)) (by simp) (Nat.le_refl _)
  show unE (l.length + 1) a (b :: l) = _
  simp only [unE, e2]
  rfl
theorem wstr_eq (a t : List UInt8) (h : a.length + t.length ≤ 100000000) : strings_Builder_WriteString fuelH (((), a), t) = some (len t, (), (), a ++ t) := by
  unfold strings_Builder_WriteString strings_Builder_copyCheck hand_strings_Builder_copyCheck
  rw [bnd_some', grd_t (room_t (by simp only [len, iadd]; omega))]
  rfl
theorem wbyte_eq (a : List UInt8) (b : UInt8) (h : a.length ≤ 100000000) : strings_Builder_WriteByte fuelH (((), a), b) = some ((), (), a ++ [b]) := by
  unfold strings_Builder_WriteByte strings_Builder_copyCheck hand_strings_Builder_copyCheck
  rw [bnd_some', grd_t (room_t (by simp only [len, iadd, List.length_cons, List.length_nil]; omega))]
  rfl
theorem un_eq {s : List UInt8} (hs : s.length ≤ 3900000) : xml_Unescape fuelH s = some (un [] s) := by
  unfold xml_Unescape
  rw [jn_e]
  have h := drop_loop (s := s) (fun (a : List UInt8) (i : Nat) => ((i : Int), ((), a))) (fun a l => some (un a l)) (fun i a => a.length ≤ 4 * i)
    (F := fun v2 (v3 : Int × Unit × List UInt8) =>
    cnd (ilt v3.1 (len s))
      (grd (inb v3.1 (len s))
        (cnd (ieq (n8 (lget s (toN v3.1) (0 : UInt8))) (n8 (60 : UInt8)))
          (some (([] : List UInt8), (4 : Int)))
          (cnd (ieq (n8 (lget s (toN v3.1) (0 : UInt8))) (n8 (38 : UInt8)))
            (grd (in2 v3.1 (len s))
              (bnd (xml_reference fuelH (ldrop (toN v3.1) s)) fun v4 =>
              cnd (ine v4.2.2 (0 : Int))
                (some (([] : List UInt8), v4.2.2))
                (bnd (strings_Builder_WriteString fuelH (((), v3.2.2), v4.1)) fun v5 =>
                v2 (w64 (iadd v3.1 v4.2.1), (), v5.2.2.2))))
            (grd (inb v3.1 (len s))
              (bnd (strings_Builder_WriteByte fuelH (((), v3.2.2), lget s (toN v3.1) (0 : UInt8))) fun v6 =>
              v2 (w64 (iadd v3.1 (1 : Int)), (), v6.2.2))))))
      (some (v3.2.2, (0 : Int)))) ?_ fuelH 0 [] (fuelH_len (by omega) 0) (Nat.zero_le _) (by simp)
  · exact h
  · intro self a i hi hI hself
    by_cases hl : i < s.length
    · have g : lget s (toN (i : Int)) (0 : UInt8) = s[i] := lget_i hl
      have hw : w64 (iadd (i : Int) 1) = ((i + 1 : Nat) : Int) := w64_succ hl (by omega)
      have hld : ldrop (toN (i : Int)) s = s.drop i := by simp [ldrop, toN]
      rw [List.drop_eq_getElem_cons hl, un_cons]
      show cnd (ilt (i : Int) (len s)) _ _ = _
      rw [cnd_t (ilt_t (by simp only [len]; omega)), grd_t (inb_t (by simp only [len]; omega)), g, hld]
      by_cases h60 : s[i] = 60
      · rw [if_pos h60, cnd_t (ieq_t (by rw [h60]))]
      rw [if_neg h60, cnd_f (ieq_f (fun k => h60 (n8_inj k)))]
      by_cases h38 : s[i] = 38
      · rw [if_pos h38, cnd_t (ieq_t (by rw [h38])), grd_t (in2_t (by simp only [len]; omega)), List.drop_eq_getElem_cons hl, h38, xref_eq (by simp; omega), bnd_some']
        by_cases he : (refX (s.drop (i + 1))).2.2 = 0
        · have ho := refX_ok he
          have hle : (refX (s.drop (i + 1))).1.length ≤ 4 := by rw [ho.2.2.1]; exact refC_len _
          have hdl : (s.drop (i + 1)).length = s.length - (i + 1) := List.length_drop
          rw [cnd_f (ine_f he), if_neg (by simpa using he), wstr_eq _ _ (by show a.length + _ ≤ _; omega), bnd_some', ho.2.1]
          have e1 : w64 (iadd (i : Int) ((((s.drop (i + 1)).takeWhile not59).length + 2 : Nat) : Int)) = ((i + (((s.drop (i + 1)).takeWhile not59).length + 2) : Nat) : Int) := by
            simp only [iadd]
            rw [w64_id (by omega)]
            omega
          rw [e1, List.drop_drop]
          have hz := hself (a ++ (refX (s.drop (i + 1))).1) (i + (((s.drop (i + 1)).takeWhile not59).length + 2)) (by omega) (by omega) (by rw [List.length_append]; omega)
          refine Eq.trans hz ?_
          congr 3
          omega
        · rw [cnd_t (ine_t he), if_pos (by simpa using he)]
      · rw [if_neg h38, cnd_f (ieq_f (fun k => h38 (n8_inj k))), grd_t (inb_t (by simp only [len]; omega)), wbyte_eq _ _ (by show a.length ≤ _; omega), bnd_some', hw]
        exact hself (a ++ [s[i]]) (i + 1) (by omega) (by omega) (by simp; omega)
    · obtain rfl : i = s.length := by omega
      show cnd (ilt (s.length : Int) (len s)) _ _ = _
      rw [cnd_f (ilt_f (by simp only [len]; omega)), List.drop_length]
      rfl

theorem awake20 : l20_awake fuelH () = some true := by kernel_rfl
theorem short20 (x : List UInt8) : l20_short fuelH x = some (x.take 400) := by
  unfold l20_short
  rw [grd_t (in2_t (by simp only [len, imin]; omega))]
  simp only [ltake, toN, len, imin]
  congr 1
  by_cases h : x.length ≤ 400
  · rw [show (min (x.length : Int) 400).toNat = x.length by omega, List.take_length, List.take_of_length_le h]
  · rw [show (min (x.length : Int) 400).toNat = 400 by omega]
theorem un_esc : ∀ (s a : List UInt8), un a (esc s) = (a ++ s, 0)
  | [], a => by rw [show esc [] = [] from rfl, un_nil, List.append_nil]
  | b :: s, a => by
    rw [esc_cons]
    have named : ∀ (c : List UInt8) (y : UInt8), c.all not59 = true → refC c = ([y], 0) → un a ((38 :: (c ++ [59])) ++ esc s) = (a ++ [y] ++ s, 0) := fun c y h1 h2 => by
      have hx : refX (c ++ 59 :: esc s) = ([y], ((c.length + 2 : Nat) : Int), 0) := by rw [refX_yes h1, h2]; rfl
      have e : (38 :: (c ++ [59])) ++ esc s = 38 :: (c ++ 59 :: esc s) := by simp
      rw [e, un_cons, if_neg (by decide), if_pos rfl, hx, if_neg (by simp), tw_of h1]
      have : (c ++ 59 :: esc s).drop (c.length + 1) = esc s := by
        rw [show c ++ 59 :: esc s = (c ++ [59]) ++ esc s by simp]
        exact List.drop_left' (by simp)
      rw [this]
      exact un_esc s _
    have done : ∀ y, (a ++ [y] ++ s, (0 : Int)) = (a ++ y :: s, 0) := fun y => by simp
    rw [← done b]
    unfold escB
    by_cases h1 : b = 38
    · subst h1; exact named [97, 109, 112] 38 (by rfl) (by rfl)
    by_cases h2 : b = 60
    · subst h2; exact named [108, 116] 60 (by rfl) (by rfl)
    by_cases h3 : b = 62
    · subst h3; exact named [103, 116] 62 (by rfl) (by rfl)
    by_cases h4 : b = 34
    · subst h4; exact named [113, 117, 111, 116] 34 (by rfl) (by rfl)
    by_cases h5 : b = 39
    · subst h5; exact named [97, 112, 111, 115] 39 (by rfl) (by rfl)
    rw [if_neg h1, if_neg h2, if_neg h3, if_neg h4, if_neg h5]
    show un a (b :: esc s) = _
    rw [un_cons, if_neg h2, if_neg h1]
    exact un_esc s _
theorem esc_len (s : List UInt8) : (esc s).length ≤ 6 * s.length := flat_len (fun b => (escB_len b).2) s
theorem unescapes_true (x : List UInt8) : l20_XmlUnescapes fuelH x = some true := by
  unfold l20_XmlUnescapes
  have h : (x.take 400).length ≤ 400 := by rw [List.length_take]; omega
  have h6 := esc_len (x.take 400)
  rw [awake20, bnd_some', cnd_f (by rfl), short20, bnd_some', esc_eq (by omega), bnd_some', un_eq (by omega), bnd_some', un_esc, cnd_t (ieq_t rfl)]
  have : seq ([] ++ x.take 400) (x.take 400) = true := by rw [seq_t]; rfl
  exact congrArg some this
end
end Go.Mo
end
