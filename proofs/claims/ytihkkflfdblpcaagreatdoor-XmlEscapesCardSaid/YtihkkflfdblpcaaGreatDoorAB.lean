/-
  Texts put together, in build order: XD XE.
-/
import Derived.Test.YtihkkflfdblpcaaGreatDoorAA
set_option linter.all false

section
/-
  Plain facts: what references mean and the text that is meant, both sides.
-/
set_option linter.all false
namespace Go.Mo
open Go Go.W Go.Lib
set_option maxRecDepth 100000
noncomputable section

/-- a loop that goes on while the letters fit -/
theorem scan {R : Type} {F : (Int → Option R) → Int → Option R} {s : List UInt8} (P : UInt8 → Bool) (K : Int → Option R)
    (hin : ∀ self i (h : i < s.length), F self (i : Int) = if P s[i] = true then self ((i + 1 : Nat) : Int) else K i) (hend : ∀ self, F self (s.length : Int) = K s.length) :
    ∀ (fuel i : Nat), s.length - i < fuel → i ≤ s.length → fixN F fuel (i : Int) = K ((i + ((s.drop i).takeWhile P).length : Nat) : Int)
  | 0, i, h, _ => by omega
  | fuel + 1, i, h, hi => by
    rw [fixN_s]
    by_cases hl : i < s.length
    · rw [hin _ i hl, List.drop_eq_getElem_cons hl, List.takeWhile_cons]
      by_cases hp : P s[i] = true
      · rw [if_pos hp, if_pos hp, scan P K hin hend fuel (i + 1) (by omega) (by omega), List.length_cons]
        congr 2
        omega
      · rw [if_neg hp, if_neg hp]
        rfl
    · obtain rfl : i = s.length := by omega
      rw [hend, List.drop_length]
      rfl

def hexV (x : UInt8) : Int := if 48 ≤ x.toNat ∧ x.toNat ≤ 57 then (x.toNat : Int) - 48 else if 97 ≤ x.toNat ∧ x.toNat ≤ 102 then (x.toNat : Int) - 87 else if 65 ≤ x.toNat ∧ x.toNat ≤ 70 then (x.toNat : Int) - 55 else -1
def dgV (base : Int) (x : UInt8) : Int := if base ≤ hexV x then -1 else hexV x
theorem digits_tab : ((List.range 256).all fun n => decide (xml_digit 0 (UInt8.ofNat n, 10) = some (dgV 10 (UInt8.ofNat n)) ∧ xml_digit 0 (UInt8.ofNat n, 16) = some (dgV 16 (UInt8.ofNat n)) ∧ r20_hex 0 (UInt8.ofNat n) = some (hexV (UInt8.ofNat n)) ∧ (-1 ≤ hexV (UInt8.ofNat n) ∧ hexV (UInt8.ofNat n) < 16))) = true := by kernel_rfl
theorem digits (x : UInt8) : xml_digit 0 (x, 10) = some (dgV 10 x) ∧ xml_digit 0 (x, 16) = some (dgV 16 x) ∧ r20_hex 0 x = some (hexV x) ∧ (-1 ≤ hexV x ∧ hexV x < 16) :=
  of_decide_eq_true (all_u8 (P := fun x => decide (xml_digit 0 (x, 10) = some (dgV 10 x) ∧ xml_digit 0 (x, 16) = some (dgV 16 x) ∧ r20_hex 0 x = some (hexV x) ∧ (-1 ≤ hexV x ∧ hexV x < 16))) digits_tab x)
theorem digit_of {base : Int} (hb : base = 10 ∨ base = 16) (N : Nat) (x : UInt8) : xml_digit N (x, base) = some (dgV base x) := by
  rcases hb with rfl | rfl
  · exact (digits x).1
  · exact (digits x).2.1
theorem hex_eq (N : Nat) (x : UInt8) : r20_hex N x = some (hexV x) := (digits x).2.2.1
def dOk (base : Int) (x : UInt8) : Bool := decide (0 ≤ hexV x) && decide (hexV x < base)
def numF (base : Int) (n : Int) (d : List UInt8) : Int := d.foldl (fun n x => n * base + hexV x) n
theorem numF_lt {base : Int} (hb : 0 ≤ base) : ∀ (d : List UInt8) (n : Int), 0 ≤ n → d.all (dOk base) = true → 0 ≤ numF base n d ∧ numF base n d < (n + 1) * base ^ d.length
  | [], n, hn, _ => by simp [numF]; omega
  | x :: d, n, hn, h => by
    rw [List.all_cons, Bool.and_eq_true] at h
    have h1 : 0 ≤ hexV x ∧ hexV x < base := by have := h.1; unfold dOk at this; simpa using this
    have h0 : 0 ≤ n * base := Int.mul_nonneg hn hb
    have ih := numF_lt hb d (n * base + hexV x) (by omega) h.2
    refine ⟨ih.1, Int.lt_of_lt_of_le ih.2 ?_⟩
    rw [List.length_cons, Int.pow_succ, Int.mul_comm (base ^ d.length) base, ← Int.mul_assoc]
    refine Int.mul_le_mul_of_nonneg_right ?_ (Int.pow_nonneg hb)
    rw [Int.add_mul]
    omega
/-- the number of the digits of a reference -/
def refN (base : Int) (most : Nat) (d : List UInt8) : List UInt8 × Int :=
  if d = [] ∨ most < d.length ∨ d.all (dOk base) = false then ([], 4) else if inRep (numF base 0 d) = false then ([], 10) else (enc (numF base 0 d), 0)
/-- what a reference means, without its first and its last letter -/
def refC (c : List UInt8) : List UInt8 × Int :=
  if c = [97, 109, 112] then ([38], 0) else if c = [108, 116] then ([60], 0) else if c = [103, 116] then ([62], 0) else if c = [113, 117, 111, 116] then ([34], 0) else if c = [97, 112, 111, 115] then ([39], 0)
  else if c.take 2 = [35, 120] then refN 16 5 (c.drop 2) else if c.take 1 = [35] then refN 10 6 (c.drop 1) else ([], 4)
def not59 (b : UInt8) : Bool := b != 59
theorem numF_small {base : Int} {most : Nat} {d : List UInt8} (hb : (base = 10 ∧ most = 6) ∨ (base = 16 ∧ most = 5)) (hl : d.length ≤ most) (ha : d.all (dOk base) = true) : 0 ≤ numF base 0 d ∧ numF base 0 d < 1048576 := by
  have h0 : 0 ≤ base := by rcases hb with ⟨rfl, _⟩ | ⟨rfl, _⟩ <;> decide
  have h := numF_lt h0 d 0 (Int.le_refl _) ha
  refine ⟨h.1, Int.lt_of_lt_of_le h.2 ?_⟩
  rw [Int.zero_add, Int.one_mul]
  rcases hb with ⟨rfl, rfl⟩ | ⟨rfl, rfl⟩
  · have : (10 : Int) ^ d.length ≤ 10 ^ 6 := by
      have := Nat.pow_le_pow_right (n := 10) (by decide) hl
      exact_mod_cast this
    omega
  · have : (16 : Int) ^ d.length ≤ 16 ^ 5 := by
      have := Nat.pow_le_pow_right (n := 16) (by decide) hl
      exact_mod_cast this
    omega
theorem wr32_id {x : Int} (h : 0 ≤ x ∧ x < 2147483648) : wr .i32 x = x := by
  show IntKind.wrap .i32 x = x
  unfold IntKind.wrap
  simp only [IntKind.bits, IntKind.signed, Bool.true_and, decide_eq_true_eq, show (2 : Int) ^ 32 = 4294967296 from rfl, show (2 : Int) ^ (32 - 1) = 2147483648 from rfl]
  split <;> omega

theorem rcode_eq {s : List UInt8} {base : Int} {most : Nat} (hb : (base = 10 ∧ most = 6) ∨ (base = 16 ∧ most = 5)) : r20_code fuelH (s, base, (most : Int)) = some (if s = [] ∨ most < s.length ∨ s.all (dOk base) = false then -1 else numF base 0 s) := by
  unfold r20_code
  simp only
  by_cases h1 : s = []
  · rw [if_pos (Or.inl h1), cnd_t (by rw [seq_t]; exact h1)]
  rw [cnd_f (by rw [seq_dec]; simpa using h1)]
  by_cases h2 : most < s.length
  · rw [if_pos (Or.inr (Or.inl h2)), cnd_t (ilt_t (by simp only [len]; omega))]
  rw [cnd_f (ilt_f (by simp only [len]; omega)), jn_e]
  have hm : most ≤ 6 := by rcases hb with ⟨_, h⟩ | ⟨_, h⟩ <;> omega
  have hb0 : 10 ≤ base ∧ base ≤ 16 := by rcases hb with ⟨h, _⟩ | ⟨h, _⟩ <;> omega
  have h := drop_loop (s := s) (fun (n : Int) (i : Nat) => (n, (i : Int))) (fun n l => some (if l.all (dOk base) = false then (-1 : Int) else numF base n l)) (fun i n => 0 ≤ n ∧ n < 16777216 ∧ n < 16 ^ i)
    (F := fun v2 (v3 : Int × Int) =>
        cnd (ilt v3.2 (len s))
          (grd (inb v3.2 (len s))
            (bnd (r20_hex fuelH (lget s (toN v3.2) (0 : UInt8))) fun v4 =>
            cnd (ilt v4 (0 : Int))
              (some (-1 : Int))
              (cnd (ile base v4)
                (some (-1 : Int))
                (v2 (w64 (iadd (w64 (imul v3.1 base)) v4), w64 (iadd v3.2 (1 : Int)))))))
          (some v3.1)) ?_ fuelH 0 0 (fuelH_len (by omega) 0) (Nat.zero_le _) ⟨by decide, by decide, by decide⟩
  · refine Eq.trans h ?_
    rw [List.drop_zero]
    simp only [h1, h2, false_or]
  · intro self n i hi hI hself
    by_cases hl : i < s.length
    · have g : lget s (toN (i : Int)) (0 : UInt8) = s[i] := lget_i hl
      have hw : w64 (iadd (i : Int) 1) = ((i + 1 : Nat) : Int) := w64_succ hl (by omega)
      have hx := (digits s[i]).2.2.2
      rw [List.drop_eq_getElem_cons hl, List.all_cons]
      show cnd (ilt (i : Int) (len s)) _ _ = _
      rw [cnd_t (ilt_t (by simp only [len]; omega)), grd_t (inb_t (by simp only [len]; omega)), g, hex_eq, bnd_some', hw]
      by_cases h3 : hexV s[i] < 0
      · rw [cnd_t (ilt_t h3)]
        have : dOk base s[i] = false := by unfold dOk; simp; omega
        rw [this]
        rfl
      rw [cnd_f (ilt_f h3)]
      by_cases h4 : base ≤ hexV s[i]
      · rw [cnd_t (ile_t h4)]
        have : dOk base s[i] = false := by unfold dOk; simp; omega
        rw [this]
        rfl
      rw [cnd_f (ile_f h4)]
      have hd : dOk base s[i] = true := by unfold dOk; simp; omega
      have hn : 0 ≤ n * base := Int.mul_nonneg hI.1 (by omega)
      have hn2 : n * base ≤ n * 16 := Int.mul_le_mul_of_nonneg_left hb0.2 hI.1
      have hp : (16 : Int) ^ (i + 1) = 16 ^ i * 16 := Int.pow_succ _ _
      have hp6 : (16 : Int) ^ (i + 1) ≤ 16 ^ 6 := by
        have := Nat.pow_le_pow_right (n := 16) (by decide) (show i + 1 ≤ 6 by omega)
        exact_mod_cast this
      have h6 : (16 : Int) ^ 6 = 16777216 := by decide
      have hlast : n * base + hexV s[i] < 16 ^ (i + 1) := by omega
      have e1 : w64 (iadd (w64 (imul n base)) (hexV s[i])) = n * base + hexV s[i] := by
        simp only [imul, iadd]
        rw [w64_id (x := n * base) (by omega), w64_id (by omega)]
      rw [e1, hself _ (i + 1) (by omega) (by omega) ⟨by omega, by omega, hlast⟩, hd, Bool.true_and]
      rfl
    · obtain rfl : i = s.length := by omega
      show cnd (ilt (s.length : Int) (len s)) _ _ = _
      rw [cnd_f (ilt_f (by simp only [len]; omega)), List.drop_length]
      rfl

theorem rof_own (N : Nat) (r : Int) : r08_Of (N + 2) [r] = bnd (r08_Index (N + 2) r) fun v4 => cnd (ilt v4 0) (some []) (grd (catOk (iadd (len ([] : List UInt8)) (len (enc r)))) (some (lapp [] (enc r)))) := by kernel_rfl
theorem rof_eq {r : Int} (h : inRep r = true) : r08_Of fuelH [r] = some (enc r) := by
  obtain ⟨i, _, h2, h3⟩ := index_some r
  have h4 : ¬ i < 0 := fun k => by rw [h3.1 k] at h; cases h
  have h0 := rof_own (fuelM + 4998) r
  have h1 := enc_len h
  show r08_Of (fuelM + 4998 + 2) [r] = _
  rw [h0]
  show (bnd (r08_Index fuelH r) _) = _
  rw [h2, bnd_some', cnd_f (ilt_f h4), grd_t (catOk_t (by simp only [len, iadd, List.length_nil]; omega))]
  rfl
def rNum (N : Nat) (x : List UInt8) : Option (List UInt8 × Int) :=
    jn (fun (v1 : Int) =>
      cnd (ilt v1 (0 : Int))
        (some (([] : List UInt8), (4 : Int)))
        (bnd (r08_Index N (wr .i32 v1)) fun v2 =>
        cnd (ilt v2 (0 : Int))
          (some (([] : List UInt8), (10 : Int)))
          (bnd (r08_Of N ([wr .i32 v1] : List Int)) fun v3 =>
          some (v3, (0 : Int)))))
    fun v4 =>
    jn (fun (v5 : Bool) =>
      cnd v5
        (grd (in2 (2 : Int) (len x))
          (bnd (r20_code N (ldrop (toN (2 : Int)) x, (16 : Int), (5 : Int))) fun v6 =>
          v4 v6))
        (cnd (ilt (0 : Int) (len x))
          (grd (inb (0 : Int) (len x))
            (cnd (ieq (n8 (lget x (toN (0 : Int)) (0 : UInt8))) (n8 (35 : UInt8)))
              (grd (in2 (1 : Int) (len x))
                (bnd (r20_code N (ldrop (toN (1 : Int)) x, (10 : Int), (6 : Int))) fun v7 =>
                v4 v7))
              (v4 (-1 : Int))))
          (v4 (-1 : Int))))
    fun v8 =>
    cnd (ilt (1 : Int) (len x))
      (grd (inb (0 : Int) (len x))
        (cnd (ieq (n8 (lget x (toN (0 : Int)) (0 : UInt8))) (n8 (35 : UInt8)))
          (grd (inb (1 : Int) (len x))
            (v8 (ieq (n8 (lget x (toN (1 : Int)) (0 : UInt8))) (n8 (120 : UInt8)))))
          (v8 false)))
      (v8 false)
theorem rref_own (N : Nat) (x : List UInt8) : r20_reference (N + 10) x = jn (fun (_ : Unit) => rNum (N + 10) x) fun v9 => cnd (seq ([97, 109, 112] : List UInt8) x) (some (([38] : List UInt8), (0 : Int))) (cnd (seq ([108, 116] : List UInt8) x) (some (([60] : List UInt8), (0 : Int))) (cnd (seq ([103, 116] : List UInt8) x) (some (([62] : List UInt8), (0 : Int))) (cnd (seq ([113, 117, 111, 116] : List UInt8) x) (some (([34] : List UInt8), (0 : Int))) (cnd (seq ([97, 112, 111, 115] : List UInt8) x) (some (([39] : List UInt8), (0 : Int))) (v9 ()))))) := by kernel_rfl
def xNum (N : Nat) (x : List UInt8) : Option (List UInt8 × Int × Int) :=
    jn (fun (v1 : Int × Int × Int) =>
      jn (fun (v2 : Int × Int) =>
        cnd (ieq v2.1 v1.1)
          (some (([] : List UInt8), (0 : Int), (4 : Int)))
          (cnd (ilt v1.2.2 (w64 (isub v2.1 v1.1)))
            (some (([] : List UInt8), (0 : Int), (4 : Int)))
            (cnd (ieq v2.1 (len x))
              (some (([] : List UInt8), (0 : Int), (4 : Int)))
              (grd (inb v2.1 (len x))
                (cnd (ine (n8 (lget x (toN v2.1) (0 : UInt8))) (n8 (59 : UInt8)))
                  (some (([] : List UInt8), (0 : Int), (4 : Int)))
                  (bnd (charset_Index N (wr .i32 v2.2)) fun v3 =>
                  cnd (ilt v3 (0 : Int))
                    (some (([] : List UInt8), (0 : Int), (10 : Int)))
                    (some (enc (wr .i32 v2.2), w64 (iadd v2.1 (1 : Int)), (0 : Int)))))))))
      fun v4 =>
      fixN (fun v5 (v6 : Int × Int) =>
        cnd (ilt v6.1 (len x))
          (grd (inb v6.1 (len x))
            (bnd (xml_digit N (lget x (toN v6.1) (0 : UInt8), v1.2.1)) fun v7 =>
            cnd (ile (0 : Int) v7)
              (grd (inb v6.1 (len x))
                (bnd (xml_digit N (lget x (toN v6.1) (0 : UInt8), v1.2.1)) fun v8 =>
                v5 (w64 (iadd v6.1 (1 : Int)), imin (w64 (iadd (w64 (imul v6.2 v1.2.1)) v8)) (16777216 : Int))))
              (v4 v6)))
          (v4 v6)) N (v1.1, (0 : Int)))
    fun v9 =>
    bnd (strings_HasPrefix N (x, ([38, 35, 120] : List UInt8))) fun v10 =>
    cnd v10
      (v9 ((3 : Int), (16 : Int), (5 : Int)))
      (bnd (strings_HasPrefix N (x, ([38, 35] : List UInt8))) fun v11 =>
      cnd (bnot v11)
        (some (([] : List UInt8), (0 : Int), (4 : Int)))
        (v9 ((2 : Int), (10 : Int), (6 : Int))))
theorem xref_own (N : Nat) (x : List UInt8) : xml_reference (N + 10) x = jn (fun (_ : Unit) => xNum (N + 10) x) fun v12 => bnd (strings_HasPrefix (N + 10) (x, ([38, 97, 109, 112, 59] : List UInt8))) fun v => cnd v (some (([38] : List UInt8), (5 : Int), (0 : Int))) (bnd (strings_HasPrefix (N + 10) (x, ([38, 108, 116, 59] : List UInt8))) fun v => cnd v (some (([60] : List UInt8), (4 : Int), (0 : Int))) (bnd (strings_HasPrefix (N + 10) (x, ([38, 103, 116, 59] : List UInt8))) fun v => cnd v (some (([62] : List UInt8), (4 : Int), (0 : Int))) (bnd (strings_HasPrefix (N + 10) (x, ([38, 113, 117, 111, 116, 59] : List UInt8))) fun v => cnd v (some (([34] : List UInt8), (6 : Int), (0 : Int))) (bnd (strings_HasPrefix (N + 10) (x, ([38, 97, 112, 111, 115, 59] : List UInt8))) fun v => cnd v (some (([39] : List UInt8), (6 : Int), (0 : Int))) (v12 ()))))) := by kernel_rfl

def kv (v : Int) : Option (List UInt8 × Int) := cnd (ilt v (0 : Int)) (some (([] : List UInt8), (4 : Int))) (bnd (r08_Index fuelH (wr .i32 v)) fun v2 => cnd (ilt v2 (0 : Int)) (some (([] : List UInt8), (10 : Int))) (bnd (r08_Of fuelH ([wr .i32 v] : List Int)) fun v3 => some (v3, (0 : Int))))
theorem rk {v : Int} (h : v = -1 ∨ (0 ≤ v ∧ v < 1048576)) : kv v = some (if v < 0 then ([], 4) else if inRep v = false then ([], 10) else (enc v, 0)) := by
  rcases h with rfl | h
  · rfl
  have h1 : ¬ v < 0 := by omega
  obtain ⟨i, _, q2, q3⟩ := index_some v
  unfold kv
  rw [cnd_f (ilt_f h1), if_neg h1, wr32_id (by omega), q2, bnd_some']
  by_cases h2 : inRep v = false
  · rw [if_pos h2, cnd_t (ilt_t (q3.2 h2))]
  · rw [if_neg h2, cnd_f (ilt_f (fun k => h2 (q3.1 k))), rof_eq (by simpa using h2), bnd_some']
theorem code_k {base : Int} {most : Nat} (d : List UInt8) (hb : (base = 10 ∧ most = 6) ∨ (base = 16 ∧ most = 5)) : bnd (r20_code fuelH (d, base, (most : Int))) kv = some (refN base most d) := by
  rw [rcode_eq hb, bnd_some']
  unfold refN
  by_cases h : d = [] ∨ most < d.length ∨ d.all (dOk base) = false
  · rw [if_pos h, if_pos h]
    rfl
  · have h2 : d.length ≤ most ∧ d.all (dOk base) = true := by
      simp only [not_or] at h
      exact ⟨by omega, by simpa using h.2.2⟩
    have hs := numF_small hb h2.1 h2.2
    rw [if_neg h, if_neg h, rk (.inr hs), if_neg (by omega)]
def v8 (x : List UInt8) (b : Bool) : Option (List UInt8 × Int) := cnd b (grd (in2 (2 : Int) (len x)) (bnd (r20_code fuelH (ldrop (toN (2 : Int)) x, (16 : Int), (5 : Int))) kv))
  (cnd (ilt (0 : Int) (len x)) (grd (inb (0 : Int) (len x)) (cnd (ieq (n8 (lget x (toN (0 : Int)) (0 : UInt8))) (n8 (35 : UInt8))) (grd (in2 (1 : Int) (len x)) (bnd (r20_code fuelH (ldrop (toN (1 : Int)) x, (10 : Int), (6 : Int))) kv)) (kv (-1 : Int)))) (kv (-1 : Int)))
theorem rnum_own (x : List UInt8) : rNum fuelH x = cnd (ilt (1 : Int) (len x)) (grd (inb (0 : Int) (len x)) (cnd (ieq (n8 (lget x (toN (0 : Int)) (0 : UInt8))) (n8 (35 : UInt8))) (grd (inb (1 : Int) (len x)) (v8 x (ieq (n8 (lget x (toN (1 : Int)) (0 : UInt8))) (n8 (120 : UInt8))))) (v8 x false))) (v8 x false) := rfl
theorem v8_f (x : List UInt8) : v8 x false = some (if x.take 1 = [35] then refN 10 6 (x.drop 1) else ([], 4)) := by
  unfold v8
  rw [cnd_f (by rfl)]
  match x with
  | [] => rfl
  | a :: r =>
    rw [cnd_t (ilt_t (by simp only [len, List.length_cons]; omega)), grd_t (inb_t (by simp only [len, List.length_cons]; omega))]
    show cnd (ieq (n8 a) (n8 35)) _ _ = _
    rw [cnd_ieq]
    by_cases ha : a = 35
    · subst ha
      rw [if_pos rfl, grd_t (in2_t (by simp only [len, List.length_cons]; omega))]
      exact code_k r (.inl ⟨rfl, rfl⟩)
    · rw [if_neg (fun k => ha (n8_inj k)), if_neg (by simp [ha])]
      rfl
theorem v8_t {x : List UInt8} (h : 2 ≤ x.length) : v8 x true = some (refN 16 5 (x.drop 2)) := by
  unfold v8
  rw [cnd_t (by rfl), grd_t (in2_t (by simp only [len]; omega))]
  exact code_k _ (.inr ⟨rfl, rfl⟩)
/-- the numeric part -/
def numC (c : List UInt8) : List UInt8 × Int := if c.take 2 = [35, 120] then refN 16 5 (c.drop 2) else if c.take 1 = [35] then refN 10 6 (c.drop 1) else ([], 4)
theorem refC_eq (c : List UInt8) : refC c = if c = [97, 109, 112] then ([38], 0) else if c = [108, 116] then ([60], 0) else if c = [103, 116] then ([62], 0) else if c = [113, 117, 111, 116] then ([34], 0) else if c = [97, 112, 111, 115] then ([39], 0) else numC c := rfl
theorem rnum_eq (x : List UInt8) : rNum fuelH x = some (numC x) := by
  rw [rnum_own]
  unfold numC
  match x with
  | [] =>
    rw [cnd_f (by rfl), v8_f]
    rfl
  | [a] =>
    rw [cnd_f (by rfl), v8_f, if_neg (show ¬ ([a].take 2 = [35, 120]) by simp)]
  | a :: b :: r =>
    rw [cnd_t (ilt_t (by simp only [len, List.length_cons]; omega)), grd_t (inb_t (by simp only [len, List.length_cons]; omega)), grd_t (inb_t (by simp only [len, List.length_cons]; omega))]
    show cnd (ieq (n8 a) (n8 35)) (v8 _ (ieq (n8 b) (n8 120))) _ = _
    rw [cnd_ieq]
    by_cases ha : a = 35
    · subst ha
      rw [if_pos rfl]
      by_cases hb : b = 120
      · subst hb
        rw [ieq_t rfl, v8_t (by simp), if_pos (by rfl)]
      · rw [ieq_f (fun k => hb (n8_inj k)), v8_f, if_neg (show ¬ ((35 :: b :: r).take 2 = [35, 120]) by simp [hb])]
    · rw [if_neg (fun k => ha (n8_inj k)), v8_f, if_neg (show ¬ ((a :: b :: r).take 2 = [35, 120]) by simp [ha])]
theorem rref_eq (x : List UInt8) : r20_reference fuelH x = some (refC x) := by
  have h := rref_own (fuelM + 4990) x
  show r20_reference (fuelM + 4990 + 10) x = _
  rw [h, jn_e, refC_eq]
  have hs : ∀ (c : List UInt8) (X Y : Option (List UInt8 × Int)), cnd (seq c x) X Y = if x = c then X else Y := fun c X Y => by
    by_cases h : x = c
    · rw [if_pos h, cnd_t (by rw [seq_t]; exact h.symm)]
    · rw [if_neg h, cnd_f (by rw [seq_dec]; simpa using fun e => h e.symm)]
  simp only [hs]
  repeat' split
  any_goals rfl
  exact rnum_eq x

theorem hp_eq (N : Nat) (s p : List UInt8) : strings_HasPrefix N (s, p) = some (decide (s.take p.length = p)) := by
  unfold strings_HasPrefix stringslite_HasPrefix
  by_cases h : p.length ≤ s.length
  · rw [cnd_t (ile_t (by simp only [len]; omega)), grd_t (in2_t (by simp only [len]; omega)), bnd_some', seq_dec]
    simp only [ltake, toN, len, Int.toNat_natCast]
    exact congrArg some (decide_eq_decide.2 Iff.rfl)
  · rw [cnd_f (ile_f (by simp only [len]; omega)), bnd_some']
    have : ¬ (s.take p.length = p) := fun e => by
      have := congrArg List.length e
      rw [List.length_take] at this
      omega
    rw [decide_eq_false this]
theorem tw_of {c t : List UInt8} (h : c.all not59 = true) : (c ++ 59 :: t).takeWhile not59 = c := by
  rw [List.takeWhile_append_of_pos (by simpa using h), List.takeWhile_cons]
  simp [not59]
theorem tw_all {c : List UInt8} (h : c.all not59 = true) : c.takeWhile not59 = c := by
  have := List.takeWhile_append_of_pos (p := not59) (l₁ := c) (l₂ := []) (by simpa using h)
  simpa using this
theorem tw_split : ∀ r : List UInt8, (r.all not59 = true) ∨ ∃ c t, r = c ++ 59 :: t ∧ c.all not59 = true
  | [] => .inl rfl
  | b :: r => by
    by_cases hb : b = 59
    · exact .inr ⟨[], r, by rw [hb]; rfl, rfl⟩
    have h1 : not59 b = true := by simpa [not59] using hb
    rcases tw_split r with h | ⟨c, t, e, h⟩
    · exact .inl (by rw [List.all_cons, h1, h]; rfl)
    · exact .inr ⟨b :: c, t, by rw [e]; rfl, by rw [List.all_cons, h1, h]; rfl⟩
theorem clampF_eq {base : Int} (hb : 1 ≤ base) : ∀ (d : List UInt8) (n : Int), 0 ≤ n → d.all (dOk base) = true → n ≤ numF base n d ∧ (numF base n d ≤ 16777216 → d.foldl (fun n x => min (n * base + hexV x) 16777216) n = numF base n d)
  | [], n, _, _ => ⟨Int.le_refl _, fun _ => rfl⟩
  | x :: d, n, hn, h => by
    rw [List.all_cons, Bool.and_eq_true] at h
    have h1 : 0 ≤ hexV x ∧ hexV x < base := by have := h.1; unfold dOk at this; simpa using this
    have h0 : n * 1 ≤ n * base := Int.mul_le_mul_of_nonneg_left hb hn
    have ih := clampF_eq hb d (n * base + hexV x) (by omega) h.2
    refine ⟨Int.le_trans (by omega) ih.1, fun hle => ?_⟩
    have hle : numF base (n * base + hexV x) d ≤ 16777216 := hle
    rw [List.foldl_cons]
    have hm : min (n * base + hexV x) 16777216 = n * base + hexV x := by have := ih.1; omega
    rw [hm]
    exact ih.2 hle
def refX (r : List UInt8) : List UInt8 × Int × Int :=
  let c := r.takeWhile not59
  if c.length = r.length then ([], 0, 4) else if (refC c).2 = 0 then ((refC c).1, ((c.length + 2 : Nat) : Int), 0) else ([], 0, (refC c).2)
theorem refX_no {r : List UInt8} (h : r.all not59 = true) : refX r = ([], 0, 4) := by
  unfold refX
  simp only [tw_all h, if_true]
theorem refX_yes {c t : List UInt8} (h : c.all not59 = true) : refX (c ++ 59 :: t) = if (refC c).2 = 0 then ((refC c).1, ((c.length + 2 : Nat) : Int), 0) else ([], 0, (refC c).2) := by
  unfold refX
  simp only [tw_of h]
  rw [if_neg (by simp)]
/-- behind the digits -/
def k2N (N : Nat) (s : List UInt8) (at' : Int) (most : Int) (v2 : Int × Int) : Option (List UInt8 × Int × Int) :=
        cnd (ieq v2.1 at')
          (some (([] : List UInt8), (0 : Int), (4 : Int)))
          (cnd (ilt most (w64 (isub v2.1 at')))
            (some (([] : List UInt8), (0 : Int), (4 : Int)))
            (cnd (ieq v2.1 (len s))
              (some (([] : List UInt8), (0 : Int), (4 : Int)))
              (grd (inb v2.1 (len s))
                (cnd (ine (n8 (lget s (toN v2.1) (0 : UInt8))) (n8 (59 : UInt8)))
                  (some (([] : List UInt8), (0 : Int), (4 : Int)))
                  (bnd (charset_Index N (wr .i32 v2.2)) fun v3 =>
                  cnd (ilt v3 (0 : Int))
                    (some (([] : List UInt8), (0 : Int), (10 : Int)))
                    (some (enc (wr .i32 v2.2), w64 (iadd v2.1 (1 : Int)), (0 : Int))))))))
def k2 (s : List UInt8) (at' : Int) (most : Int) (v2 : Int × Int) : Option (List UInt8 × Int × Int) := k2N fuelH s at' most v2
theorem dgV_of {base : Int} (x : UInt8) : (0 ≤ dgV base x ↔ dOk base x = true) ∧ (dOk base x = true → dgV base x = hexV x) := by
  unfold dgV dOk
  by_cases h : base ≤ hexV x
  · rw [if_pos h]
    refine ⟨⟨fun k => by omega, fun k => ?_⟩, fun k => ?_⟩
    · simp at k; omega
    · simp at k; omega
  · rw [if_neg h]
    refine ⟨⟨fun k => by simp; omega, fun k => ?_⟩, fun _ => rfl⟩
    simp at k; omega
theorem dig_loop {s : List UInt8} (hs : s.length ≤ 4000000) {base : Int} (hb : base = 10 ∨ base = 16) {K : Int × Int → Option (List UInt8 × Int × Int)} : ∀ (fuel i : Nat) (n : Int), s.length - i < fuel → i ≤ s.length → 0 ≤ n → n ≤ 16777216 →
    fixN (fun v5 (v6 : Int × Int) =>
        cnd (ilt v6.1 (len s))
          (grd (inb v6.1 (len s))
            (bnd (xml_digit fuelH (lget s (toN v6.1) (0 : UInt8), base)) fun v7 =>
            cnd (ile (0 : Int) v7)
              (grd (inb v6.1 (len s))
                (bnd (xml_digit fuelH (lget s (toN v6.1) (0 : UInt8), base)) fun v8 =>
                v5 (w64 (iadd v6.1 (1 : Int)), imin (w64 (iadd (w64 (imul v6.2 base)) v8)) (16777216 : Int))))
              (K v6)))
          (K v6)) fuel ((i : Int), n) = K (((i + ((s.drop i).takeWhile (dOk base)).length : Nat) : Int), ((s.drop i).takeWhile (dOk base)).foldl (fun n x => min (n * base + hexV x) 16777216) n)
  | 0, i, n, h, _, _, _ => by omega
  | fuel + 1, i, n, h, hi, h0, h1 => by
    rw [fixN_s]
    by_cases hl : i < s.length
    · have g : lget s (toN (i : Int)) (0 : UInt8) = s[i] := lget_i hl
      have hw : w64 (iadd (i : Int) 1) = ((i + 1 : Nat) : Int) := w64_succ hl (by omega)
      have hx := (digits s[i]).2.2.2
      have hdv := dgV_of (base := base) s[i]
      show cnd (ilt (i : Int) (len s)) _ _ = _
      rw [cnd_t (ilt_t (by simp only [len]; omega)), grd_t (inb_t (by simp only [len]; omega)), g, digit_of hb, bnd_some', grd_t (inb_t (by simp only [len]; omega)), bnd_some', hw, List.drop_eq_getElem_cons hl, List.takeWhile_cons]
      by_cases hd : dOk base s[i] = true
      · have h2 := hdv.2 hd
        have h3 : 0 ≤ hexV s[i] ∧ hexV s[i] < base := by unfold dOk at hd; simpa using hd
        have hb16 : 1 ≤ base ∧ base ≤ 16 := by rcases hb with rfl | rfl <;> decide
        have m0 : 0 ≤ n * base := Int.mul_nonneg h0 (by omega)
        have m1 : n * base ≤ n * 16 := Int.mul_le_mul_of_nonneg_left hb16.2 h0
        rw [cnd_t (ile_t (hdv.1.2 hd)), if_pos hd, h2]
        have e1 : imin (w64 (iadd (w64 (imul n base)) (hexV s[i]))) 16777216 = min (n * base + hexV s[i]) 16777216 := by
          simp only [imul, iadd, imin]
          rw [w64_id (x := n * base) (by omega), w64_id (by omega)]
        rw [e1]
        have ih := dig_loop hs hb (K := K) fuel (i + 1) (min (n * base + hexV s[i]) 16777216) (by omega) (by omega) (by omega) (by omega)
        rw [ih, List.length_cons, List.foldl_cons]
        congr 3
        omega
      · rw [cnd_f (ile_f (fun k => hd (hdv.1.1 k))), if_neg hd]
        rfl
    · obtain rfl : i = s.length := by omega
      show cnd (ilt (s.length : Int) (len s)) _ _ = _
      rw [cnd_f (ilt_f (by simp only [len]; omega)), List.drop_length]
      rfl

theorem all_tw {P : UInt8 → Bool} : ∀ l : List UInt8, (l.takeWhile P).all P = true
  | [] => rfl
  | b :: l => by
    rw [List.takeWhile_cons]
    split
    · rename_i h
      rw [List.all_cons, h, all_tw l]
      rfl
    · rfl
theorem tw_drop {P : UInt8 → Bool} : ∀ l : List UInt8, l.drop (l.takeWhile P).length = [] ∨ ∃ b t, l.drop (l.takeWhile P).length = b :: t ∧ P b = false
  | [] => .inl rfl
  | b :: l => by
    rw [List.takeWhile_cons]
    by_cases h : P b = true
    · rw [if_pos h]
      simpa using tw_drop l
    · rw [if_neg h]
      exact .inr ⟨b, l, rfl, by simpa using h⟩
theorem tw_cat (P : UInt8 → Bool) : ∀ l : List UInt8, l.takeWhile P ++ l.drop (l.takeWhile P).length = l
  | [] => rfl
  | b :: l => by
    rw [List.takeWhile_cons]
    split
    · rw [List.length_cons, List.drop_succ_cons, List.cons_append, tw_cat P l]
    · rfl
theorem dOk_not59 {base : Int} {x : UInt8} (h : dOk base x = true) : not59 x = true := by
  unfold not59
  simp only [bne_iff_ne, ne_eq]
  intro e
  subst e
  unfold dOk at h
  simp [hexV] at h
theorem k2_err {s : List UInt8} {a m : Nat} {n : Int} {most : Nat} (hl : s.length ≤ 4000000) (ham : a + m ≤ s.length) (h : m = 0 ∨ most < m ∨ a + m = s.length ∨ ∃ b t, s.drop (a + m) = b :: t ∧ b ≠ 59) : k2 s (a : Int) (most : Int) (((a + m : Nat) : Int), n) = some ([], 0, 4) := by
  unfold k2 k2N
  simp only
  by_cases h0 : m = 0
  · rw [cnd_t (ieq_t (by omega))]
  rw [cnd_f (ieq_f (by omega))]
  have e1 : w64 (isub ((a + m : Nat) : Int) (a : Int)) = (m : Int) := by
    simp only [isub]
    rw [w64_id (by omega)]
    omega
  rw [e1]
  by_cases h1 : most < m
  · rw [cnd_t (ilt_t (by omega))]
  rw [cnd_f (ilt_f (by omega))]
  by_cases h2 : a + m = s.length
  · rw [cnd_t (ieq_t (by simp only [len]; omega))]
  rw [cnd_f (ieq_f (by simp only [len]; omega)), grd_t (inb_t (by simp only [len]; omega))]
  rcases h with h | h | h | ⟨b, t, h3, h4⟩
  · exact absurd h h0
  · exact absurd h h1
  · exact absurd h h2
  · have hlt : a + m < s.length := by omega
    have hb : s[a + m] = b := by
      rw [List.drop_eq_getElem_cons hlt] at h3
      injection h3
    rw [lget_i hlt, hb, cnd_t (ine_t (fun k => h4 (n8_inj k)))]
theorem k2_ok {s : List UInt8} {a m : Nat} {n : Int} {most : Nat} {t : List UInt8} (hl : s.length ≤ 4000000) (h0 : m ≠ 0) (h1 : ¬ most < m) (h3 : s.drop (a + m) = 59 :: t) (hn : 0 ≤ n ∧ n < 1048576) : k2 s (a : Int) (most : Int) (((a + m : Nat) : Int), n) = some (if inRep n = false then ([], 0, 10) else (enc n, ((a + m + 1 : Nat) : Int), 0)) := by
  have hlt : a + m < s.length := by
    rcases Nat.lt_or_ge (a + m) s.length with h | h
    · exact h
    · rw [List.drop_eq_nil_of_le h] at h3
      cases h3
  have hb : s[a + m] = 59 := by
    rw [List.drop_eq_getElem_cons hlt] at h3
    injection h3
  unfold k2 k2N
  simp only
  have e1 : w64 (isub ((a + m : Nat) : Int) (a : Int)) = (m : Int) := by
    simp only [isub]
    rw [w64_id (by omega)]
    omega
  obtain ⟨i, q1, _, q3⟩ := index_some n
  rw [cnd_f (ieq_f (by omega)), e1, cnd_f (ilt_f (by omega)), cnd_f (ieq_f (by simp only [len]; omega)), grd_t (inb_t (by simp only [len]; omega)), lget_i hlt, hb, cnd_f (by rfl), wr32_id (by omega), q1, bnd_some', w64_succ (n := s.length) hlt (by omega)]
  by_cases h2 : inRep n = false
  · rw [if_pos h2, cnd_t (ilt_t (q3.2 h2))]
  · rw [if_neg h2, cnd_f (ilt_f (fun k => h2 (q3.1 k)))]
/-- the digits of a reference, and what stands behind them -/
theorem num_part {s : List UInt8} (hs : s.length ≤ 4000000) {base : Int} {most a : Nat} (hb : (base = 10 ∧ most = 6) ∨ (base = 16 ∧ most = 5)) (ha : a ≤ s.length) :
    k2 s (a : Int) (most : Int) (((a + ((s.drop a).takeWhile (dOk base)).length : Nat) : Int), ((s.drop a).takeWhile (dOk base)).foldl (fun n x => min (n * base + hexV x) 16777216) 0) =
      some (if (s.drop a).all not59 = true then ([], 0, 4) else if (refN base most ((s.drop a).takeWhile not59)).2 = 0 then ((refN base most ((s.drop a).takeWhile not59)).1, ((a + ((s.drop a).takeWhile not59).length + 1 : Nat) : Int), 0) else ([], 0, (refN base most ((s.drop a).takeWhile not59)).2)) := by
  generalize hd : s.drop a = d
  have hw := all_tw (P := dOk base) d
  have hm := List.takeWhile_prefix (dOk base) (l := d)
  have hdl : d.length = s.length - a := by rw [← hd, List.length_drop]
  have hml : (d.takeWhile (dOk base)).length ≤ d.length := hm.length_le
  have hdr : s.drop (a + (d.takeWhile (dOk base)).length) = d.drop (d.takeWhile (dOk base)).length := by rw [← hd, List.drop_drop]
  have hcat : d = d.takeWhile (dOk base) ++ d.drop (d.takeWhile (dOk base)).length := (tw_cat _ d).symm
  have hbase : 1 ≤ base := by rcases hb with ⟨h, _⟩ | ⟨h, _⟩ <;> omega
  rcases tw_drop (P := dOk base) d with h | ⟨b, t, h, hbad⟩
  · rw [k2_err hs (by omega) (.inr (.inr (.inl (by have := congrArg List.length h; simp at this; omega))))]
    have : d.all not59 = true := by
      rw [hcat, h, List.append_nil]
      rw [List.all_eq_true] at hw ⊢
      exact fun x hx => dOk_not59 (hw x hx)
    rw [if_pos this]
  · by_cases hb59 : b = 59
    · subst hb59
      have hno : ¬ (d.all not59 = true) := fun k => by
        rw [hcat, h, List.all_append, List.all_cons] at k
        simp [not59] at k
      have htw : d.takeWhile not59 = d.takeWhile (dOk base) := by
        conv => lhs; rw [hcat, h]
        refine tw_of ?_
        rw [List.all_eq_true] at hw ⊢
        exact fun x hx => dOk_not59 (hw x hx)
      rw [if_neg hno, htw]
      generalize hq : d.takeWhile (dOk base) = q at *
      unfold refN
      by_cases he : q = [] ∨ most < q.length ∨ q.all (dOk base) = false
      · rw [if_pos he, if_neg (by decide)]
        refine k2_err hs (by omega) ?_
        rcases he with he | he | he
        · exact .inl (by rw [he]; rfl)
        · exact .inr (.inl he)
        · rw [he] at hw; cases hw
      · rw [if_neg he]
        simp only [not_or] at he
        have hsm := numF_small hb (by omega) hw
        have hcl := (clampF_eq hbase q 0 (Int.le_refl _) hw).2 (by omega)
        rw [hcl, k2_ok hs (fun k => he.1 (List.eq_nil_of_length_eq_zero k)) he.2.1 (hdr.trans h) hsm]
        by_cases hr : inRep (numF base 0 q) = false
        · rw [if_pos hr, if_pos hr]
          rfl
        · rw [if_neg hr, if_neg hr]
          rfl
    · have hcat2 : d = d.takeWhile (dOk base) ++ b :: t := by rw [← h]; exact hcat
      rw [k2_err hs (by omega) (.inr (.inr (.inr ⟨b, t, hdr.trans h, hb59⟩)))]
      by_cases hall : d.all not59 = true
      · rw [if_pos hall]
      · rw [if_neg hall]
        have hbq : ∃ u, d.takeWhile not59 = d.takeWhile (dOk base) ++ b :: u := by
          refine ⟨t.takeWhile not59, ?_⟩
          conv => lhs; rw [hcat2]
          rw [List.takeWhile_append_of_pos (by rw [List.all_eq_true] at hw; exact fun x hx => dOk_not59 (hw x hx)), List.takeWhile_cons, if_pos (by simpa [not59] using hb59)]
        obtain ⟨u, hu⟩ := hbq
        have : (d.takeWhile not59).all (dOk base) = false := by
          rw [hu, List.all_append, List.all_cons, hbad]
          simp
        have e : refN base most (d.takeWhile not59) = ([], 4) := by
          unfold refN
          rw [if_pos (.inr (.inr this))]
        rw [e, if_neg (by decide)]

theorem pre_iff {c t p : List UInt8} (hp : p.all not59 = true) : (c ++ 59 :: t).take p.length = p ↔ c.take p.length = p := by
  by_cases h : p.length ≤ c.length
  · rw [List.take_append_of_le_length h]
  · refine ⟨fun e => ?_, fun e => ?_⟩
    · have hl : c.length < p.length := by omega
      have h1 : p[c.length]? = some 59 := by
        rw [← e, List.getElem?_take, if_pos hl]
        simp
      have h2 := List.mem_of_getElem? h1
      rw [List.all_eq_true] at hp
      have := hp 59 h2
      simp [not59] at this
    · have := congrArg List.length e
      rw [List.length_take] at this
      omega
theorem named_iff {c t p : List UInt8} (hc : c.all not59 = true) (hp : p.all not59 = true) : (c ++ 59 :: t).take (p ++ [59]).length = p ++ [59] ↔ c = p := by
  refine ⟨fun e => ?_, fun e => ?_⟩
  · have h1 : c ++ 59 :: t = p ++ 59 :: (c ++ 59 :: t).drop (p ++ [59]).length := by
      conv => lhs; rw [← List.take_append_drop (p ++ [59]).length (c ++ 59 :: t), e]
      simp
    have h2 := tw_of (t := t) hc
    rw [h1, tw_of hp] at h2
    exact h2.symm
  · subst e
    rw [show c ++ 59 :: t = (c ++ [59]) ++ t by simp, List.take_left]
theorem named_no {r p : List UInt8} (hr : r.all not59 = true) : ¬ (r.take (p ++ [59]).length = p ++ [59]) := fun e => by
  have h1 : (59 : UInt8) ∈ r := by
    have : (59 : UInt8) ∈ r.take (p ++ [59]).length := by rw [e]; simp
    exact List.mem_of_mem_take this
  rw [List.all_eq_true] at hr
  have := hr 59 h1
  simp [not59] at this
def xAN (N : Nat) (s : List UInt8) (v1 : Int × Int × Int) : Option (List UInt8 × Int × Int) :=
      fixN (fun v5 (v6 : Int × Int) =>
        cnd (ilt v6.1 (len s))
          (grd (inb v6.1 (len s))
            (bnd (xml_digit N (lget s (toN v6.1) (0 : UInt8), v1.2.1)) fun v7 =>
            cnd (ile (0 : Int) v7)
              (grd (inb v6.1 (len s))
                (bnd (xml_digit N (lget s (toN v6.1) (0 : UInt8), v1.2.1)) fun v8 =>
                v5 (w64 (iadd v6.1 (1 : Int)), imin (w64 (iadd (w64 (imul v6.2 v1.2.1)) v8)) (16777216 : Int))))
              (k2N N s v1.1 v1.2.2 v6)))
          (k2N N s v1.1 v1.2.2 v6)) N (v1.1, (0 : Int))
def xA (s : List UInt8) (v1 : Int × Int × Int) : Option (List UInt8 × Int × Int) := xAN fuelH s v1
theorem xnum_ownN (N : Nat) (s : List UInt8) : xNum N s = bnd (strings_HasPrefix N (s, ([38, 35, 120] : List UInt8))) fun v10 => cnd v10 (xAN N s ((3 : Int), (16 : Int), (5 : Int))) (bnd (strings_HasPrefix N (s, ([38, 35] : List UInt8))) fun v11 => cnd (bnot v11) (some (([] : List UInt8), (0 : Int), (4 : Int))) (xAN N s ((2 : Int), (10 : Int), (6 : Int)))) := rfl
theorem xnum_own (s : List UInt8) : xNum fuelH s = bnd (strings_HasPrefix fuelH (s, ([38, 35, 120] : List UInt8))) fun v10 => cnd v10 (xA s ((3 : Int), (16 : Int), (5 : Int))) (bnd (strings_HasPrefix fuelH (s, ([38, 35] : List UInt8))) fun v11 => cnd (bnot v11) (some (([] : List UInt8), (0 : Int), (4 : Int))) (xA s ((2 : Int), (10 : Int), (6 : Int)))) := xnum_ownN fuelH s
theorem xA_eq {s : List UInt8} (hs : s.length ≤ 4000000) {base : Int} {most a : Nat} (hb : (base = 10 ∧ most = 6) ∨ (base = 16 ∧ most = 5)) (ha : a ≤ s.length) :
    xA s ((a : Int), base, (most : Int)) = some (if (s.drop a).all not59 = true then ([], 0, 4) else if (refN base most ((s.drop a).takeWhile not59)).2 = 0 then ((refN base most ((s.drop a).takeWhile not59)).1, ((a + ((s.drop a).takeWhile not59).length + 1 : Nat) : Int), 0) else ([], 0, (refN base most ((s.drop a).takeWhile not59)).2)) := by
  rw [← num_part hs hb ha]
  exact dig_loop hs (by rcases hb with ⟨h, _⟩ | ⟨h, _⟩ <;> simp [h]) fuelH a 0 (fuelH_len hs a) ha (by decide) (by decide)
theorem xnum_eq {r : List UInt8} (hr : r.length ≤ 3999999) : xNum fuelH (38 :: r) = some (if r.all not59 = true then ([], 0, 4) else if (numC (r.takeWhile not59)).2 = 0 then ((numC (r.takeWhile not59)).1, (((r.takeWhile not59).length + 2 : Nat) : Int), 0) else ([], 0, (numC (r.takeWhile not59)).2)) := by
  have hs : (38 :: r).length ≤ 4000000 := by simp; omega
  have e1 : ((38 :: r).take ([38, 35, 120] : List UInt8).length = [38, 35, 120]) ↔ r.take ([35, 120] : List UInt8).length = [35, 120] := by simp
  have e2 : ((38 :: r).take ([38, 35] : List UInt8).length = [38, 35]) ↔ r.take ([35] : List UInt8).length = [35] := by simp
  rw [xnum_own, hp_eq, bnd_some']
  by_cases h1 : r.take ([35, 120] : List UInt8).length = [35, 120]
  · have hl : 2 ≤ r.length := by have := congrArg List.length h1; simp at this; omega
    rw [cnd_t (decide_eq_true (e1.2 h1))]
    have hx := xA_eq (a := 3) hs (.inr ⟨rfl, rfl⟩) (by simp; omega)
    refine Eq.trans hx ?_
    have hd : (38 :: r).drop 3 = r.drop 2 := rfl
    rw [hd]
    rcases tw_split r with h | ⟨c, t, rfl, h⟩
    · rw [if_pos h, if_pos]
      rw [List.all_eq_true] at h ⊢
      exact fun x hx => h x (List.mem_of_mem_drop hx)
    · have h2 := (pre_iff (by rfl)).1 h1
      have hc2 : 2 ≤ c.length := by have := congrArg List.length h2; simp at this; omega
      have hd2 : (c ++ 59 :: t).drop 2 = c.drop 2 ++ 59 :: t := List.drop_append_of_le_length hc2
      have hca : (c.drop 2).all not59 = true := by
        rw [List.all_eq_true] at h ⊢
        exact fun x hx => h x (List.mem_of_mem_drop hx)
      have hn : numC c = refN 16 5 (c.drop 2) := if_pos h2
      have no : ∀ (p q : List UInt8), ¬ ((p ++ 59 :: q).all not59 = true) := fun p q k => by
        rw [List.all_append, List.all_cons] at k
        simp [not59] at k
      rw [hd2, tw_of hca, tw_of h, if_neg (no _ _), if_neg (no _ _), hn, List.length_drop]
      have : 3 + (c.length - 2) + 1 = c.length + 2 := by omega
      rw [this]
  · rw [cnd_f (decide_eq_false (fun k => h1 (e1.1 k))), hp_eq, bnd_some']
    by_cases h3 : r.take ([35] : List UInt8).length = [35]
    · have hl : 1 ≤ r.length := by have := congrArg List.length h3; simp at this; omega
      rw [decide_eq_true (e2.2 h3), cnd_f (by rfl)]
      have hx := xA_eq (a := 2) hs (.inl ⟨rfl, rfl⟩) (by simp; omega)
      refine Eq.trans hx ?_
      have hd : (38 :: r).drop 2 = r.drop 1 := rfl
      rw [hd]
      rcases tw_split r with h | ⟨c, t, rfl, h⟩
      · rw [if_pos h, if_pos]
        rw [List.all_eq_true] at h ⊢
        exact fun x hx => h x (List.mem_of_mem_drop hx)
      · have h2 := (pre_iff (by rfl)).1 h3
        have h4 : ¬ (c.take 2 = [35, 120]) := fun k => h1 ((pre_iff (p := [35, 120]) (by rfl)).2 k)
        have hc2 : 1 ≤ c.length := by have := congrArg List.length h2; simp at this; omega
        have hd2 : (c ++ 59 :: t).drop 1 = c.drop 1 ++ 59 :: t := List.drop_append_of_le_length hc2
        have hca : (c.drop 1).all not59 = true := by
          rw [List.all_eq_true] at h ⊢
          exact fun x hx => h x (List.mem_of_mem_drop hx)
        have hn : numC c = refN 10 6 (c.drop 1) := by unfold numC; rw [if_neg h4]; exact if_pos h2
        have no : ∀ (p q : List UInt8), ¬ ((p ++ 59 :: q).all not59 = true) := fun p q k => by
          rw [List.all_append, List.all_cons] at k
          simp [not59] at k
        rw [hd2, tw_of hca, tw_of h, if_neg (no _ _), if_neg (no _ _), hn, List.length_drop]
        have : 2 + (c.length - 1) + 1 = c.length + 2 := by omega
        rw [this]
    · rw [decide_eq_false (fun k => h3 (e2.1 k)), cnd_t (by rfl)]
      rcases tw_split r with h | ⟨c, t, rfl, h⟩
      · rw [if_pos h]
      · have h4 : ¬ (c.take 2 = [35, 120]) := fun k => h1 ((pre_iff (p := [35, 120]) (by rfl)).2 k)
        have h5 : ¬ (c.take 1 = [35]) := fun k => h3 ((pre_iff (p := [35]) (by rfl)).2 k)
        have hn : numC c = ([], 4) := by unfold numC; rw [if_neg h4, if_neg h5]
        rw [tw_of h, hn]
        split <;> rfl
theorem xref_eq {r : List UInt8} (hr : r.length ≤ 3999999) : xml_reference fuelH (38 :: r) = some (refX r) := by
  have h := xref_own (fuelM + 4990) (38 :: r)
  have hx := xnum_eq hr
  show xml_reference (fuelM + 4990 + 10) (38 :: r) = _
  rw [h, jn_e]
  simp only [hp_eq, bnd_some']
  have step : ∀ (p : List UInt8) (X Y : Option (List UInt8 × Int × Int)), cnd (decide ((38 :: r).take (38 :: (p ++ [59])).length = 38 :: (p ++ [59]))) X Y = if r.take (p ++ [59]).length = p ++ [59] then X else Y := fun p X Y => by
    rw [cnd_dec]
    by_cases e : r.take (p ++ [59]).length = p ++ [59]
    · rw [if_pos e, if_pos (by rw [List.length_cons, List.take_succ_cons, e])]
    · rw [if_neg e, if_neg (fun k => e (by rw [List.length_cons, List.take_succ_cons] at k; injection k))]
  have s1 := step [97, 109, 112]
  have s2 := step [108, 116]
  have s3 := step [103, 116]
  have s4 := step [113, 117, 111, 116]
  have s5 := step [97, 112, 111, 115]
  refine Eq.trans (s1 _ _) ?_
  rcases tw_split r with h | ⟨c, t, rfl, hc⟩
  · rw [if_neg (named_no h)]
    refine Eq.trans (s2 _ _) ?_
    rw [if_neg (named_no h)]
    refine Eq.trans (s3 _ _) ?_
    rw [if_neg (named_no h)]
    refine Eq.trans (s4 _ _) ?_
    rw [if_neg (named_no h)]
    refine Eq.trans (s5 _ _) ?_
    rw [if_neg (named_no h), refX_no h]
    refine Eq.trans hx ?_
    rw [if_pos h]
  · rw [refX_yes hc, refC_eq]
    simp only [named_iff hc (show ([97, 109, 112] : List UInt8).all not59 = true from rfl)]
    by_cases c1 : c = [97, 109, 112]
    · subst c1; rfl
    rw [if_neg c1, if_neg c1]
    refine Eq.trans (s2 _ _) ?_
    simp only [named_iff hc (show ([108, 116] : List UInt8).all not59 = true from rfl)]
    by_cases c2 : c = [108, 116]
    · subst c2; rfl
    rw [if_neg c2, if_neg c2]
    refine Eq.trans (s3 _ _) ?_
    simp only [named_iff hc (show ([103, 116] : List UInt8).all not59 = true from rfl)]
    by_cases c3 : c = [103, 116]
    · subst c3; rfl
    rw [if_neg c3, if_neg c3]
    refine Eq.trans (s4 _ _) ?_
    simp only [named_iff hc (show ([113, 117, 111, 116] : List UInt8).all not59 = true from rfl)]
    by_cases c4 : c = [113, 117, 111, 116]
    · subst c4; rfl
    rw [if_neg c4, if_neg c4]
    refine Eq.trans (s5 _ _) ?_
    simp only [named_iff hc (show ([97, 112, 111, 115] : List UInt8).all not59 = true from rfl)]
    by_cases c5 : c = [97, 112, 111, 115]
    · subst c5; rfl
    rw [if_neg c5, if_neg c5]
    refine Eq.trans hx ?_
    have no : ¬ ((c ++ 59 :: t).all not59 = true) := fun k => by
      rw [List.all_append, List.all_cons] at k
      simp [not59] at k
    rw [if_neg no, tw_of hc]
end
end Go.Mo
end

section
/-
  Plain facts: the text that is meant, names, both sides; XmlEscapes and XmlUnescapes return true.
-/
set_option linter.all false
namespace Go.Mo
open Go Go.W Go.Lib
set_option maxRecDepth 100000
noncomputable section

theorem refN_len (base : Int) (most : Nat) (d : List UInt8) : (refN base most d).1.length ≤ 4 := by
  unfold refN
  split
  · simp
  · split
    · simp
    · rename_i h
      exact enc_len (by simpa using h)
theorem refC_len (c : List UInt8) : (refC c).1.length ≤ 4 := by
  rw [refC_eq]
  repeat' split
  any_goals simp
  unfold numC
  repeat' split
  · exact refN_len _ _ _
  · exact refN_len _ _ _
  · simp
theorem tw_len {P : UInt8 → Bool} (l : List UInt8) : (l.takeWhile P).length ≤ l.length := (List.takeWhile_prefix P).length_le
theorem refX_ok {l : List UInt8} (h : (refX l).2.2 = 0) : (l.takeWhile not59).length < l.length ∧ (refX l).2.1 = (((l.takeWhile not59).length + 2 : Nat) : Int) ∧ (refX l).1 = (refC (l.takeWhile not59)).1 ∧ (refC (l.takeWhile not59)).2 = 0 := by
  have := tw_len (P := not59) l
  unfold refX at *
  simp only at *
  by_cases h1 : (l.takeWhile not59).length = l.length
  · rw [if_pos h1] at h
    cases h
  · rw [if_neg h1] at h ⊢
    by_cases h2 : (refC (l.takeWhile not59)).2 = 0
    · rw [if_pos h2] at h ⊢
      exact ⟨by omega, rfl, rfl, h2⟩
    · rw [if_neg h2] at h
      exact absurd h h2
def unE : Nat → List UInt8 → List UInt8 → List UInt8 × Int
  | 0, a, _ => (a, 0)
  | _ + 1, a, [] => (a, 0)
  | n + 1, a, b :: l => if b = 60 then ([], 4) else if b = 38 then (if (refX l).2.2 ≠ 0 then ([], (refX l).2.2) else unE n (a ++ (refX l).1) (l.drop ((l.takeWhile not59).length + 1))) else unE n (a ++ [b]) l
theorem unE_fuel : ∀ (n m : Nat) (a l : List UInt8), l.length ≤ n → l.length ≤ m → unE n a l = unE m a l
  | 0, m, a, l, h, _ => by
    have : l = [] := List.eq_nil_of_length_eq_zero (by omega)
    subst this
    cases m <;> rfl
  | n + 1, 0, a, l, _, h => by
    have : l = [] := List.eq_nil_of_length_eq_zero (by omega)
    subst this
    rfl
  | n + 1, m + 1, a, [], _, _ => rfl
  | n + 1, m + 1, a, b :: l, h1, h2 => by
    have e1 := fun a => unE_fuel n m a l (by simp at h1; omega) (by simp at h2; omega)
    have e2 := fun a => unE_fuel n m a (l.drop ((l.takeWhile not59).length + 1)) (by simp at h1 ⊢; omega) (by simp at h2 ⊢; omega)
    simp only [unE, e1, e2]
/-- the text that is meant, behind what is there already -/
def un (a l : List UInt8) : List UInt8 × Int := unE l.length a l
theorem un_cons (a : List UInt8) (b : UInt8) (l : List UInt8) : un a (b :: l) = if b = 60 then ([], 4) else if b = 38 then (if (refX l).2.2 ≠ 0 then ([], (refX l).2.2) else un (a ++ (refX l).1) (l.drop ((l.takeWhile not59).length + 1))) else un (a ++ [b]) l := by
  have e2 := fun a => unE_fuel l.length (l.drop ((l.takeWhile not59).length + 1)).length a (l.drop ((l.takeWhile not59).length + 1)) (by simp) (Nat.le_refl _)
  show unE (l.length + 1) a (b :: l) = _
  simp only [unE, e2]
  rfl
theorem wstr_eq (a t : List UInt8) (h : a.length + t.length ≤ 100000000) : strings_Builder_WriteString fuelH (((), a), t) = some (len t, (), (), a ++ t) := by
  unfold strings_Builder_WriteString strings_Builder_copyCheck hand_strings_Builder_copyCheck
  rw [bnd_some', grd_t (room_t (by simp only [len, iadd]; omega))]
  rfl
theorem wbyte_eq (a : List UInt8) (b : UInt8) (h : a.length ≤ 100000000) : strings_Builder_WriteByte fuelH (((), a), b) = some ((), (), a ++ [b]) := by
  unfold strings_Builder_WriteByte strings_Builder_copyCheck hand_strings_Builder_copyCheck
  rw [bnd_some', grd_t (room_t (by simp only [len, iadd, List.length_cons, List.length_nil]; omega))]
  rfl
theorem un_eq {s : List UInt8} (hs : s.length ≤ 3900000) : xml_Unescape fuelH s = some (un [] s) := by
  unfold xml_Unescape
  rw [jn_e]
  have h := drop_loop (s := s) (fun (a : List UInt8) (i : Nat) => ((i : Int), ((), a))) (fun a l => some (un a l)) (fun i a => a.length ≤ 4 * i)
    (F := fun v2 (v3 : Int × Unit × List UInt8) =>
    cnd (ilt v3.1 (len s))
      (grd (inb v3.1 (len s))
        (cnd (ieq (n8 (lget s (toN v3.1) (0 : UInt8))) (n8 (60 : UInt8)))
          (some (([] : List UInt8), (4 : Int)))
          (cnd (ieq (n8 (lget s (toN v3.1) (0 : UInt8))) (n8 (38 : UInt8)))
            (grd (in2 v3.1 (len s))
              (bnd (xml_reference fuelH (ldrop (toN v3.1) s)) fun v4 =>
              cnd (ine v4.2.2 (0 : Int))
                (some (([] : List UInt8), v4.2.2))
                (bnd (strings_Builder_WriteString fuelH (((), v3.2.2), v4.1)) fun v5 =>
                v2 (w64 (iadd v3.1 v4.2.1), (), v5.2.2.2))))
            (grd (inb v3.1 (len s))
              (bnd (strings_Builder_WriteByte fuelH (((), v3.2.2), lget s (toN v3.1) (0 : UInt8))) fun v6 =>
              v2 (w64 (iadd v3.1 (1 : Int)), (), v6.2.2))))))
      (some (v3.2.2, (0 : Int)))) ?_ fuelH 0 [] (fuelH_len (by omega) 0) (Nat.zero_le _) (by simp)
  · exact h
  · intro self a i hi hI hself
    by_cases hl : i < s.length
    · have g : lget s (toN (i : Int)) (0 : UInt8) = s[i] := lget_i hl
      have hw : w64 (iadd (i : Int) 1) = ((i + 1 : Nat) : Int) := w64_succ hl (by omega)
      have hld : ldrop (toN (i : Int)) s = s.drop i := by simp [ldrop, toN]
      rw [List.drop_eq_getElem_cons hl, un_cons]
      show cnd (ilt (i : Int) (len s)) _ _ = _
      rw [cnd_t (ilt_t (by simp only [len]; omega)), grd_t (inb_t (by simp only [len]; omega)), g, hld]
      by_cases h60 : s[i] = 60
      · rw [if_pos h60, cnd_t (ieq_t (by rw [h60]))]
      rw [if_neg h60, cnd_f (ieq_f (fun k => h60 (n8_inj k)))]
      by_cases h38 : s[i] = 38
      · rw [if_pos h38, cnd_t (ieq_t (by rw [h38])), grd_t (in2_t (by simp only [len]; omega)), List.drop_eq_getElem_cons hl, h38, xref_eq (by simp; omega), bnd_some']
        by_cases he : (refX (s.drop (i + 1))).2.2 = 0
        · have ho := refX_ok he
          have hle : (refX (s.drop (i + 1))).1.length ≤ 4 := by rw [ho.2.2.1]; exact refC_len _
          have hdl : (s.drop (i + 1)).length = s.length - (i + 1) := List.length_drop
          rw [cnd_f (ine_f he), if_neg (by simpa using he), wstr_eq _ _ (by show a.length + _ ≤ _; omega), bnd_some', ho.2.1]
          have e1 : w64 (iadd (i : Int) ((((s.drop (i + 1)).takeWhile not59).length + 2 : Nat) : Int)) = ((i + (((s.drop (i + 1)).takeWhile not59).length + 2) : Nat) : Int) := by
            simp only [iadd]
            rw [w64_id (by omega)]
            omega
          rw [e1, List.drop_drop]
          have hz := hself (a ++ (refX (s.drop (i + 1))).1) (i + (((s.drop (i + 1)).takeWhile not59).length + 2)) (by omega) (by omega) (by rw [List.length_append]; omega)
          refine Eq.trans hz ?_
          congr 3
          omega
        · rw [cnd_t (ine_t he), if_pos (by simpa using he)]
      · rw [if_neg h38, cnd_f (ieq_f (fun k => h38 (n8_inj k))), grd_t (inb_t (by simp only [len]; omega)), wbyte_eq _ _ (by show a.length ≤ _; omega), bnd_some', hw]
        exact hself (a ++ [s[i]]) (i + 1) (by omega) (by omega) (by simp; omega)
    · obtain rfl : i = s.length := by omega
      show cnd (ilt (s.length : Int) (len s)) _ _ = _
      rw [cnd_f (ilt_f (by simp only [len]; omega)), List.drop_length]
      rfl

theorem scan_p {R : Type} {s : List UInt8} (hs : s.length ≤ 4000000) (P T : UInt8 → Bool) (hT : ∀ x, T x = P x) (K : Int → Option R) {i : Nat} (hi : i ≤ s.length) :
    fixN (fun (v9 : Int → Option R) (v10 : Int) => cnd (ilt v10 (len s)) (grd (inb v10 (len s)) (cnd (T (lget s (toN v10) (0 : UInt8))) (v9 (w64 (iadd v10 (1 : Int)))) (K v10))) (K v10)) fuelH (i : Int) = K ((i + ((s.drop i).takeWhile P).length : Nat) : Int) := by
  refine scan P K (fun self k hk => ?_) (fun self => ?_) fuelH i (fuelH_len hs i) hi
  · show cnd (ilt (k : Int) (len s)) _ _ = _
    rw [cnd_t (ilt_t (by simp only [len]; omega)), grd_t (inb_t (by simp only [len]; omega)), lget_i hk, hT, w64_succ hk (by omega), cnd_ite]
  · show cnd (ilt (s.length : Int) (len s)) _ _ = _
    rw [cnd_f (ilt_f (by simp only [len]; omega))]
theorem in3_u {l h n : Int} (k : 0 ≤ l ∧ l ≤ h ∧ h ≤ n) : in3 l h n = true := decide_eq_true k
theorem tw_take (P : UInt8 → Bool) : ∀ l : List UInt8, l.take (l.takeWhile P).length = l.takeWhile P
  | [] => rfl
  | b :: l => by
    rw [List.takeWhile_cons]
    split
    · rw [List.length_cons, List.take_succ_cons, tw_take P l]
    · rfl
theorem not59_T (x : UInt8) : ine (n8 x) (n8 59) = not59 x := by
  unfold not59
  by_cases h : x = 59
  · subst h; rfl
  · rw [ine_t (fun k => h (n8_inj k))]
    simpa using h
theorem run_un {s : List UInt8} (hs : s.length ≤ 3900000) : r20_Unescape fuelH s = some (un [] s) := by
  unfold r20_Unescape
  rw [jn_e]
  have h := drop_loop (s := s) (fun (a : List UInt8) (i : Nat) => (a, (i : Int))) (fun a l => some (un a l)) (fun i a => a.length ≤ 4 * i)
    (F := fun v2 (v3 : (List UInt8) × Int) =>
    cnd (ilt v3.2 (len s))
      (jn (fun (v4 : (List UInt8) × Int) =>
        v2 (v4.1, w64 (iadd v4.2 (1 : Int))))
      fun v5 =>
      grd (inb v3.2 (len s)) <|
      cnd (ieq (n8 (lget s (toN v3.2) (0 : UInt8))) (n8 (60 : UInt8)))
        (some (([] : List UInt8), (4 : Int)))
        (grd (inb v3.2 (len s))
          (cnd (ine (n8 (lget s (toN v3.2) (0 : UInt8))) (n8 (38 : UInt8)))
            (grd (in3 v3.2 (w64 (iadd v3.2 (1 : Int))) (len s))
              (grd (catOk (iadd (len v3.1) (len (ldrop (toN v3.2) (ltake (toN (w64 (iadd v3.2 (1 : Int)))) s)))))
                (v5 (lapp v3.1 (ldrop (toN v3.2) (ltake (toN (w64 (iadd v3.2 (1 : Int)))) s)), v3.2))))
            (jn (fun (v6 : Int) =>
              cnd (ieq v6 (len s))
                (some (([] : List UInt8), (4 : Int)))
                (grd (in3 (w64 (iadd v3.2 (1 : Int))) v6 (len s))
                  (bnd (r20_reference fuelH (ldrop (toN (w64 (iadd v3.2 (1 : Int)))) (ltake (toN v6) s))) fun v7 =>
                  cnd (ine v7.2 (0 : Int))
                    (some (([] : List UInt8), v7.2))
                    (grd (catOk (iadd (len v3.1) (len v7.1)))
                      (v5 (lapp v3.1 v7.1, v6))))))
            fun v8 =>
            fixN (fun v9 (v10 : Int) =>
              cnd (ilt v10 (len s))
                (grd (inb v10 (len s))
                  (cnd (ine (n8 (lget s (toN v10) (0 : UInt8))) (n8 (59 : UInt8)))
                    (v9 (w64 (iadd v10 (1 : Int))))
                    (v8 v10)))
                (v8 v10)) fuelH (w64 (iadd v3.2 (1 : Int)))))))
      (some (v3.1, (0 : Int)))) ?_ fuelH 0 [] (fuelH_len (by omega) 0) (Nat.zero_le _) (by simp)
  · exact h
  · intro self a i hi hI hself
    by_cases hl : i < s.length
    · have g : lget s (toN (i : Int)) (0 : UInt8) = s[i] := lget_i hl
      have hw : w64 (iadd (i : Int) 1) = ((i + 1 : Nat) : Int) := w64_succ hl (by omega)
      have hsl : ldrop (toN (i : Int)) (ltake (toN ((i + 1 : Nat) : Int)) s) = [s[i]] := by
        simp only [ldrop, ltake, toN, Int.toNat_natCast]
        rw [List.take_succ_eq_append_getElem hl, List.drop_left' (by simp; omega)]
      rw [List.drop_eq_getElem_cons hl, un_cons]
      show cnd (ilt (i : Int) (len s)) _ _ = _
      rw [cnd_t (ilt_t (by simp only [len]; omega)), jn_e, grd_t (inb_t (by simp only [len]; omega)), g, hw, hsl]
      by_cases h60 : s[i] = 60
      · rw [if_pos h60, cnd_t (ieq_t (by rw [h60]))]
      rw [if_neg h60, cnd_f (ieq_f (fun k => h60 (n8_inj k))), grd_t (inb_t (by simp only [len]; omega))]
      by_cases h38 : s[i] = 38
      · rw [if_pos h38, cnd_f (ine_f (by rw [h38])), jn_e]
        have hdl : (s.drop (i + 1)).length = s.length - (i + 1) := List.length_drop
        have htl := tw_len (P := not59) (s.drop (i + 1))
        refine Eq.trans (scan_p (by omega) not59 (fun x => ine (n8 x) (n8 59)) not59_T _ (by omega)) ?_
        generalize hn : ((s.drop (i + 1)).takeWhile not59).length = n at *
        by_cases he : n = s.length - (i + 1)
        · rw [cnd_t (ieq_t (by simp only [len]; omega))]
          have : refX (s.drop (i + 1)) = ([], 0, 4) := by
            unfold refX
            simp only
            rw [if_pos (by omega)]
          rw [this]
          rfl
        · rw [cnd_f (ieq_f (by simp only [len]; omega)), grd_t (in3_u (by simp only [len]; omega))]
          have hc : ldrop (toN ((i + 1 : Nat) : Int)) (ltake (toN ((i + 1 + n : Nat) : Int)) s) = (s.drop (i + 1)).takeWhile not59 := by
            simp only [ldrop, ltake, toN, Int.toNat_natCast]
            rw [List.drop_take, show i + 1 + n - (i + 1) = n by omega, ← hn]
            exact tw_take _ _
          rw [hc, rref_eq, bnd_some']
          have hx : refX (s.drop (i + 1)) = if (refC ((s.drop (i + 1)).takeWhile not59)).2 = 0 then ((refC ((s.drop (i + 1)).takeWhile not59)).1, ((n + 2 : Nat) : Int), 0) else ([], 0, (refC ((s.drop (i + 1)).takeWhile not59)).2) := by
            unfold refX
            simp only
            rw [if_neg (by omega), hn]
          have hle := refC_len ((s.drop (i + 1)).takeWhile not59)
          rw [hx]
          by_cases hz : (refC ((s.drop (i + 1)).takeWhile not59)).2 = 0
          · rw [if_pos hz, cnd_f (ine_f hz), grd_t (catOk_t (by simp only [len, iadd]; omega)), if_neg (by simp)]
            show self (a ++ _, w64 (iadd ((i + 1 + n : Nat) : Int) 1)) = _
            rw [w64_succ (n := s.length) (by omega) (by omega), List.drop_drop]
            refine Eq.trans (hself _ (i + 1 + n + 1) (by omega) (by omega) (by rw [List.length_append]; omega)) ?_
            rfl
          · rw [if_neg hz, cnd_t (ine_t hz), if_pos (by simpa using hz)]
      · rw [if_neg h38, cnd_t (ine_t (fun k => h38 (n8_inj k))), grd_t (in3_u (by simp only [len]; omega)), grd_t (catOk_t (by simp only [len, iadd, List.length_cons, List.length_nil]; omega))]
        show self (a ++ [s[i]], w64 (iadd (i : Int) 1)) = _
        rw [hw]
        exact hself (a ++ [s[i]]) (i + 1) (by omega) (by omega) (by simp; omega)
    · obtain rfl : i = s.length := by omega
      show cnd (ilt (s.length : Int) (len s)) _ _ = _
      rw [cnd_f (ilt_f (by simp only [len]; omega)), List.drop_length]
      rfl

/-- a name's form -/
def nmX (s : List UInt8) : Bool := decide (1 ≤ s.length) && decide (s.length ≤ 32) && letB (s.getD 0 0) && s.all namB
theorem let_nam {x : UInt8} (h : letB x = true) : namB x = true := by unfold namB; rw [h]; rfl
/-- the longest name at the beginning -/
def namP : List UInt8 → List UInt8
  | [] => []
  | b :: l => if letB b = true then b :: l.takeWhile namB else []
theorem namP_cons (b : UInt8) (l : List UInt8) : namP (b :: l) = if letB b = true then b :: l.takeWhile namB else [] := rfl
theorem nmX_eq (s : List UInt8) : nmX s = (decide (s ≠ []) && decide (s.length ≤ 32) && decide (namP s = s)) := by
  unfold nmX
  match s with
  | [] => rfl
  | b :: l =>
    have h0 : (b :: l).getD 0 0 = b := rfl
    rw [h0, List.all_cons]
    have h1 : decide (1 ≤ (b :: l).length) = true := decide_eq_true (by simp)
    have h2 : decide (b :: l ≠ []) = true := decide_eq_true (by simp)
    rw [h1, h2, Bool.and_assoc (true && decide ((b :: l).length ≤ 32))]
    congr 1
    rw [namP_cons]
    by_cases h : letB b = true
    · rw [h, let_nam h, if_pos rfl, Bool.true_and, Bool.true_and]
      rw [Bool.eq_iff_iff, decide_eq_true_eq]
      refine ⟨fun k => ?_, fun k => ?_⟩
      · have := List.takeWhile_append_of_pos (p := namB) (l₁ := l) (l₂ := []) (by simpa using k)
        simp at this
        rw [this]
      · injection k with _ k
        rw [← k]
        exact all_tw l
    · have : letB b = false := by simpa using h
      rw [this, if_neg (by decide), decide_eq_false (show ¬ (([] : List UInt8) = b :: l) by simp)]
      simp
theorem name_loop {s : List UInt8} (hs : s.length ≤ 4000000) : ∀ (fuel i : Nat), s.length - i < fuel → i ≤ s.length →
    fixN (fun v3 (v4 : Int) => cnd (ilt v4 (len s)) (grd (inb v4 (len s)) (bnd (xml_nameByte fuelH (lget s (toN v4) (0 : UInt8))) fun v5 => cnd (bnot v5) (some false) (v3 (w64 (iadd v4 (1 : Int)))))) (some true)) fuel (i : Int) = some ((s.drop i).all namB)
  | 0, i, h, _ => by omega
  | fuel + 1, i, h, hi => by
    rw [fixN_s]
    by_cases hl : i < s.length
    · rw [cnd_t (ilt_t (by simp only [len]; omega)), grd_t (inb_t (by simp only [len]; omega)), lget_i hl, namb_eq, bnd_some', w64_succ hl (by omega), name_loop hs fuel (i + 1) (by omega) (by omega), List.drop_eq_getElem_cons hl, List.all_cons]
      cases namB s[i] <;> rfl
    · obtain rfl : i = s.length := by omega
      rw [cnd_f (ilt_f (by simp only [len]; omega)), List.drop_length]
      rfl
theorem name_eq (s : List UInt8) : xml_Name fuelH s = some (nmX s) := by
  unfold xml_Name nmX
  by_cases h0 : 1 ≤ s.length
  · rw [cnd_f (ilt_f (by simp only [len]; omega)), decide_eq_true h0]
    by_cases h1 : s.length ≤ 32
    · have hg : lget s (toN (0 : Int)) (0 : UInt8) = s.getD 0 0 := rfl
      rw [cnd_f (ilt_f (by simp only [len]; omega)), decide_eq_true h1, grd_t (inb_t (by simp only [len]; omega)), letter_eq, bnd_some', hg]
      by_cases h2 : letB (s.getD 0 0) = true
      · rw [h2, cnd_f (by rfl), jn_e]
        exact name_loop (by omega) fuelH 0 (fuelH_len (by omega) 0) (Nat.zero_le _)
      · have h2 : letB (s.getD 0 0) = false := by simpa using h2
        rw [h2, cnd_t (by rfl)]
        rfl
    · rw [cnd_t (ilt_t (by simp only [len]; omega)), decide_eq_false h1]
      rfl
  · rw [cnd_t (ilt_t (by simp only [len]; omega)), decide_eq_false h0]
    rfl
theorem rnamb (x : UInt8) (X Y : Option (List UInt8)) (N : Nat) (s : List UInt8) (v : Int) (hv : inb v (len s) = true) (hx : lget s (toN v) 0 = x) :
    (bnd (r20_letter N x) fun v5 => cnd v5 X (grd (inb v (len s)) (bnd (r20_digit N x) fun v6 => cnd v6 X (grd (inb v (len s)) (cnd (ieq (n8 x) (n8 (45 : UInt8))) X Y))))) = if namB x = true then X else Y := by
  rw [rletter_eq, bnd_some', grd_t hv, rdigit_eq, bnd_some', grd_t hv]
  unfold namB
  cases letB x with
  | true => rfl
  | false =>
    rw [cnd_f (by rfl)]
    cases digB x with
    | true => rfl
    | false =>
      rw [cnd_f (by rfl)]
      by_cases h : x = 45
      · subst h; rfl
      · rw [cnd_f (ieq_f (fun k => h (n8_inj k))), if_neg (by simpa using h)]
theorem namep_eq {s : List UInt8} (hs : s.length ≤ 4000000) : r20_namePart fuelH s = some (namP s) := by
  unfold r20_namePart
  match s with
  | [] => rfl
  | b :: l =>
    rw [cnd_f (by rfl), grd_t (inb_t (by simp only [len, List.length_cons]; omega))]
    show (bnd (r20_letter fuelH b) _) = _
    rw [rletter_eq, bnd_some', namP_cons]
    by_cases h : letB b = true
    · rw [h, cnd_f (by rfl), jn_e, if_pos rfl]
      have hb : (1 : Nat) ≤ (b :: l).length := by simp
      refine Eq.trans (scan (s := b :: l) namB (fun v1 => grd (in2 v1 (len (b :: l))) (some (ltake (toN v1) (b :: l)))) (fun self k hk => ?_) (fun self => ?_) fuelH 1 (fuelH_len hs 1) hb) ?_
      · show cnd (ilt (k : Int) (len (b :: l))) _ _ = _
        have hv : inb (k : Int) (len (b :: l)) = true := inb_t (by simp only [len]; omega)
        rw [cnd_t (ilt_t (by simp only [len]; omega)), grd_t hv, w64_succ hk (by omega)]
        have hx := lget_i (l := b :: l) (d := (0 : UInt8)) hk
        rw [hx]
        exact rnamb _ _ _ _ _ _ hv hx
      · show cnd (ilt ((b :: l).length : Int) (len (b :: l))) _ _ = _
        rw [cnd_f (ilt_f (by simp only [len]; omega))]
      · have ht := tw_len (P := namB) l
        show grd (in2 ((1 + (l.takeWhile namB).length : Nat) : Int) (len (b :: l))) _ = _
        rw [grd_t (in2_t (by simp only [len, List.length_cons]; omega))]
        simp only [ltake, toN, Int.toNat_natCast]
        rw [Nat.add_comm, List.take_succ_cons]
        exact congrArg (fun x => some (b :: x)) (tw_take namB l)
    · have h : letB b = false := by simpa using h
      rw [h, cnd_t (by rfl)]
      rfl
theorem rname_eq {s : List UInt8} (hs : s.length ≤ 4000000) : r20_Name fuelH s = some (nmX s) := by
  unfold r20_Name
  rw [nmX_eq]
  by_cases h0 : s = []
  · subst h0; rfl
  rw [cnd_t (by unfold sne; simpa using h0)]
  by_cases h1 : s.length ≤ 32
  · rw [cnd_t (ile_t (by simp only [len]; omega)), namep_eq hs, bnd_some', seq_dec, decide_eq_true h0, decide_eq_true h1]
    rfl
  · rw [cnd_f (ile_f (by simp only [len]; omega)), decide_eq_false h1]
    simp

theorem awake20 : l20_awake fuelH () = some true := by kernel_rfl
theorem short20 (x : List UInt8) : l20_short fuelH x = some (x.take 400) := by
  unfold l20_short
  rw [grd_t (in2_t (by simp only [len, imin]; omega))]
  simp only [ltake, toN, len, imin]
  congr 1
  by_cases h : x.length ≤ 400
  · rw [show (min (x.length : Int) 400).toNat = x.length by omega, List.take_length, List.take_of_length_le h]
  · rw [show (min (x.length : Int) 400).toNat = 400 by omega]
theorem escapes_true (x : List UInt8) : l20_XmlEscapes fuelH x = some true := by
  unfold l20_XmlEscapes
  have h : (x.take 400).length ≤ 400 := by rw [List.length_take]; omega
  rw [awake20, bnd_some', cnd_f (by rfl), short20, bnd_some', un_eq (by omega), bnd_some', run_un (by omega), bnd_some', cnd_t (by rw [seq_t]), cnd_t (ieq_t rfl), esc_eq (by omega), bnd_some', resc_eq (by omega), bnd_some', cnd_t (by rw [seq_t]), name_eq, bnd_some', rname_eq (by omega), bnd_some']
  cases nmX (x.take 400) <;> rfl

end
end Go.Mo
end
