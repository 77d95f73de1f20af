/-
  Texts put together, in build order: XB XC XD XE XF TA TB TC XG XH XI XJ XK XL XM XN XP XQ XS XU.
-/
import Derived.Test.YtpblmlldkpkomaaGreatDoorZnA
import Derived.Test.YtpblmlldkpkomaaGreatDoorYC
import Derived.KernelRfl
import Derived.Lib.ValidLaws
import Derived.Lib.TrimUEq
import Derived.Lib.MapLaws
import Derived.Lib.IndexMore
set_option linter.all false

section
/-
  Plain facts of earlier chapters, put together by a program.
-/
set_option linter.all false
section
/-
 Plain facts on the words of models; what is made of bytes.
-/
namespace Go.Mo
open Go Go.W
theorem grd_t {α : Type} {b : Bool} {k : Option α} (h : b = true) : grd b k = k := by subst h; rfl
theorem cnd_t {α : Type} {b : Bool} {x y : Option α} (h : b = true) : cnd b x y = x := by subst h; rfl
theorem cnd_f {α : Type} {b : Bool} {x y : Option α} (h : b = false) : cnd b x y = y := by subst h; rfl
theorem bnd_s {α β : Type} {x : Option α} {a : α} {k : α → Option β} (h : x = some a) : bnd x k = k a := by subst h; rfl
theorem jn_e {F α : Type} {k : F} {t : F → Option α} : jn k t = t k := rfl
theorem fixN_s {V R : Type} {F : (V → Option R) → V → Option R} {n : Nat} {v : V} : fixN F (n + 1) v = F (fixN F n) v := rfl
theorem w64_id {x : Int} (h : -9223372036854775808 ≤ x ∧ x ≤ 9223372036854775807) : w64 x = x := by
 show IntKind.wrap .i64 x = x
 unfold IntKind.wrap
 simp only [IntKind.bits, IntKind.signed, Bool.true_and, decide_eq_true_eq, show (2 : Int) ^ 64 = 18446744073709551616 from rfl, show (2 : Int) ^ (64 - 1) = 9223372036854775808 from rfl]
 split <;> omega
theorem ilt_t {a b : Int} (h : a < b) : ilt a b = true := decide_eq_true h
theorem ilt_f {a b : Int} (h : ¬ a < b) : ilt a b = false := decide_eq_false h
theorem ile_t {a b : Int} (h : a ≤ b) : ile a b = true := decide_eq_true h
theorem ile_f {a b : Int} (h : ¬ a ≤ b) : ile a b = false := decide_eq_false h
theorem ieq_t {a b : Int} (h : a = b) : ieq a b = true := by subst h; simp [ieq]
theorem ieq_f {a b : Int} (h : a ≠ b) : ieq a b = false := by simp [ieq, h]
theorem ine_t {a b : Int} (h : a ≠ b) : ine a b = true := by simp [ine, h]
theorem ine_f {a b : Int} (h : a = b) : ine a b = false := by simp [ine, h]
theorem inb_t {i n : Int} (h : 0 ≤ i ∧ i < n) : inb i n = true := decide_eq_true h
theorem in2_t {i n : Int} (h : 0 ≤ i ∧ i ≤ n) : in2 i n = true := decide_eq_true h
theorem room_t {n : Int} {b : Nat} (h : n * b ≤ 140737488355328) : room n b = true := decide_eq_true h
theorem n8_inj {a b : UInt8} (h : n8 a = n8 b) : a = b := by
 unfold n8 at h
 apply UInt8.toNat_inj.1
 omega
end Go.Mo
end
section
/-
 Plain facts: rates, labels, the repertoire of characters.
-/
namespace Go.Mo
open Go Go.W
set_option maxRecDepth 100000
theorem all_u8 {P : UInt8 → Bool} (h : ((List.range 256).all fun n => P (UInt8.ofNat n)) = true) (x : UInt8) : P x = true := by
 have h1 : x.toNat < 256 := x.toNat_lt
 have := List.all_eq_true.1 h x.toNat (List.mem_range.2 h1)
 simpa using this
end Go.Mo
end
section
/-
 Plain facts: the repertoire of characters.
-/
namespace Go.Mo
open Go Go.W
set_option maxRecDepth 100000
noncomputable def fuelM : Nat := Classical.choose (⟨7995000, rfl⟩ : ∃ n : Nat, n = 7995000)
noncomputable def fuelH : Nat := fuelM + 5000
theorem fuelH_eq : fuelH = 8000000 := by
 have h : fuelM = 7995000 := Classical.choose_spec (⟨7995000, rfl⟩ : ∃ n : Nat, n = 7995000)
 unfold fuelH
 rw [h]
def hiRunes : List Int := [161, 162, 163, 164, 165, 166, 167, 169, 171, 174, 176, 183, 187, 189, 191, 192, 193, 194, 195, 196, 197, 198, 199, 200, 201, 202, 203, 204, 205, 206, 207, 209, 210, 211, 212, 213, 214, 216, 217, 218, 219, 220, 223, 224, 225, 226, 227, 228, 229, 230, 231, 232, 233, 234, 235, 236, 237, 238, 239, 241, 242, 243, 244, 245, 246, 248, 249, 250, 251, 252, 338, 339, 8212, 8216, 8217, 8220, 8221, 8226, 8230, 8482, 9834]
def loRunes : List Int := (List.range 95).map fun n => ((n + 32 : Nat) : Int)
def chain : List Int → Int → Int → Option Int
 | [], _, _ => some (-1)
 | c :: l, i, r => cnd (ieq c r) (some i) (chain l (iadd i 1) r)
def rep : List UInt8 := [32, 33, 34, 35, 36, 37, 38, 39, 40, 41, 42, 43, 44, 45, 46, 47, 48, 49, 50, 51, 52, 53, 54, 55, 56, 57, 58, 59, 60, 61, 62, 63, 64, 65, 66, 67, 68, 69, 70, 71, 72, 73, 74, 75, 76, 77, 78, 79, 80, 81, 82, 83, 84, 85, 86, 87, 88, 89, 90, 91, 92, 93, 94, 95, 96, 97, 98, 99, 100, 101, 102, 103, 104, 105, 106, 107, 108, 109, 110, 111, 112, 113, 114, 115, 116, 117, 118, 119, 120, 121, 122, 123, 124, 125, 126, 194, 161, 194, 162, 194, 163, 194, 164, 194, 165, 194, 166, 194, 167, 194, 169, 194, 171, 194, 174, 194, 176, 194, 183, 194, 187, 194, 189, 194, 191, 195, 128, 195, 129, 195, 130, 195, 131, 195, 132, 195, 133, 195, 134, 195, 135, 195, 136, 195, 137, 195, 138, 195, 139, 195, 140, 195, 141, 195, 142, 195, 143, 195, 145, 195, 146, 195, 147, 195, 148, 195, 149, 195, 150, 195, 152, 195, 153, 195, 154, 195, 155, 195, 156, 195, 159, 195, 160, 195, 161, 195, 162, 195, 163, 195, 164, 195, 165, 195, 166, 195, 167, 195, 168, 195, 169, 195, 170, 195, 171, 195, 172, 195, 173, 195, 174, 195, 175, 195, 177, 195, 178, 195, 179, 195, 180, 195, 181, 195, 182, 195, 184, 195, 185, 195, 186, 195, 187, 195, 188, 197, 146, 197, 147, 226, 128, 148, 226, 128, 152, 226, 128, 153, 226, 128, 156, 226, 128, 157, 226, 128, 162, 226, 128, 166, 226, 132, 162, 226, 153, 170]
theorem place_eqN (N : Nat) (r : Int) : q11 (N + 300) (rep, r) = chain (loRunes ++ hiRunes) 0 r := by kernel_rfl
theorem place_eq (r : Int) : q11 fuelH (rep, r) = chain (loRunes ++ hiRunes) 0 r := place_eqN (fuelM + 4700) r
theorem r08_indexN (N : Nat) (r : Int) : q68 N r = cnd (ile 32 r) (cnd (ile r 126) (some (w64 (wr .i32 (isub r 32)))) (q11 N (rep, r))) (q11 N (rep, r)) := by kernel_rfl
theorem r08_index (r : Int) : q68 fuelH r = cnd (ile 32 r) (cnd (ile r 126) (some (w64 (wr .i32 (isub r 32)))) (q11 fuelH (rep, r))) (q11 fuelH (rep, r)) := r08_indexN fuelH r
theorem ch_indexN (N : Nat) (r : Int) : q12 N r = cnd (ile 32 r) (cnd (ile r 126) (some (w64 (wr .i32 (isub r 32)))) (bnd (q11 N (rep, r)) fun v => some v)) (bnd (q11 N (rep, r)) fun v => some v) := by kernel_rfl
theorem ch_index (r : Int) : q12 fuelH r = cnd (ile 32 r) (cnd (ile r 126) (some (w64 (wr .i32 (isub r 32)))) (bnd (q11 fuelH (rep, r)) fun v => some v)) (bnd (q11 fuelH (rep, r)) fun v => some v) := ch_indexN fuelH r
theorem chain_ok : ∀ (l : List Int) (i r : Int), 0 ≤ i → ∃ k, chain l i r = some k ∧ (k < 0 ↔ l.contains r = false)
 | [], i, r, _ => ⟨-1, rfl, by simp⟩
 | c :: l, i, r, h => by
  by_cases hc : c = r
  ·exact ⟨i, by simp only [chain]; rw [cnd_t (ieq_t hc)], by subst hc; simp; omega⟩
  ·obtain ⟨k, h1, h2⟩ := chain_ok l (iadd i 1) r (by show 0 ≤ i + 1; omega)
   refine ⟨k, by simp only [chain]; rw [cnd_f (ieq_f hc)]; exact h1, ?_⟩
   rw [h2]
   simp only [List.contains_cons, Bool.or_eq_false_iff]
   exact ⟨fun h => ⟨by simpa using fun e => hc e.symm, h⟩, fun h => h.2⟩
def inRep (r : Int) : Bool := (decide (32 ≤ r) && decide (r ≤ 126)) || hiRunes.contains r
theorem wi32_id {x : Int} (h : 0 ≤ x ∧ x < 1000) : wr .i32 x = x := by
 show IntKind.wrap .i32 x = x
 unfold IntKind.wrap
 simp only [IntKind.bits, IntKind.signed, Bool.true_and, decide_eq_true_eq, show (2 : Int) ^ 32 = 4294967296 from rfl, show (2 : Int) ^ (32 - 1) = 2147483648 from rfl]
 split <;> omega
theorem lo_mem (r : Int) : loRunes.contains r = (decide (32 ≤ r) && decide (r ≤ 126)) := by
 rw [Bool.eq_iff_iff]
 simp only [loRunes, List.contains_iff_mem, List.mem_map, List.mem_range, Bool.and_eq_true, decide_eq_true_eq]
 constructor
 ·rintro ⟨n, hn, rfl⟩; omega
 ·intro h; exact ⟨(r - 32).toNat, by omega, by omega⟩
theorem index_some (r : Int) : ∃ i, q12 fuelH r = some i ∧ q68 fuelH r = some i ∧ (i < 0 ↔ inRep r = false) := by
 rw [ch_index, r08_index, place_eq]
 obtain ⟨k, h1, h2⟩ := chain_ok (loRunes ++ hiRunes) 0 r (Int.le_refl _)
 have hin : (loRunes ++ hiRunes).contains r = inRep r := by
  unfold inRep
  rw [← lo_mem]
  simp [List.contains_eq_mem, List.mem_append]
 rw [hin] at h2
 by_cases ha : 32 ≤ r
 ·rw [cnd_t (ile_t ha), cnd_t (ile_t ha)]
  by_cases hb : r ≤ 126
  ·rw [cnd_t (ile_t hb), cnd_t (ile_t hb)]
   refine ⟨_, rfl, rfl, ?_⟩
   have : w64 (wr .i32 (isub r 32)) = r - 32 := by
    simp only [isub]
    rw [wi32_id (by omega), w64_id (by omega)]
   rw [this]
   simp [inRep, ha, hb]
  ·rw [cnd_f (ile_f hb), cnd_f (ile_f hb)]
   exact ⟨k, by rw [bnd_s h1], h1, h2⟩
 ·rw [cnd_f (ile_f ha), cnd_f (ile_f ha)]
  exact ⟨k, by rw [bnd_s h1], h1, h2⟩
theorem index_stl (r : Int) : ∃ i, q12 fuelH r = some i ∧ (i < 0 ↔ inRep r = false) := by
 rw [ch_index, place_eq]
 obtain ⟨k, h1, h2⟩ := chain_ok (loRunes ++ hiRunes) 0 r (Int.le_refl _)
 have hin : (loRunes ++ hiRunes).contains r = inRep r := by
  unfold inRep
  rw [← lo_mem]
  simp [List.contains_eq_mem, List.mem_append]
 rw [hin] at h2
 by_cases ha : 32 ≤ r
 ·rw [cnd_t (ile_t ha)]
  by_cases hb : r ≤ 126
  ·rw [cnd_t (ile_t hb)]
   refine ⟨_, rfl, ?_⟩
   have : w64 (wr .i32 (isub r 32)) = r - 32 := by
    simp only [isub]
    rw [wi32_id (by omega), w64_id (by omega)]
   rw [this]
   simp [inRep, ha, hb]
  ·rw [cnd_f (ile_f hb)]
   exact ⟨k, by rw [bnd_s h1], h2⟩
 ·rw [cnd_f (ile_f ha)]
  exact ⟨k, by rw [bnd_s h1], h2⟩
end Go.Mo
end
section
/-
 Plain facts: texts of the repertoire.
-/
namespace Go.Mo
open Go Go.W Go.Lib
set_option maxRecDepth 100000
theorem dec_pos (l : List UInt8) : 1 ≤ (decodeL l).2 := by
 unfold decodeL Utf8.decode
 simp only
 repeat' split
 all_goals first | exact Nat.le_refl _ | (show 1 ≤ _; omega)
theorem decR_eq (s : List UInt8) (p : Nat) : decR s p = ((decodeL (s.drop p)).1 : Int) := by
 have := decodeL_drop (bst s) p
 have e : (bst s).data.toList = s := rfl
 rw [e] at this
 unfold decR
 rw [this]
theorem decW_eq (s : List UInt8) (p : Nat) : decW s p = (decodeL (s.drop p)).2 := by
 have := decodeL_drop (bst s) p
 have e : (bst s).data.toList = s := rfl
 rw [e] at this
 unfold decW
 rw [this]
def rok : Nat → List UInt8 → Bool
 | 0, _ => true
 | n + 1, l => if l = [] then true else if inRep ((decodeL l).1 : Int) = true then rok n (l.drop (decodeL l).2) else false
def vld (l : List UInt8) : Bool := rok l.length l
theorem rok_nil : ∀ n, rok n [] = true
 | 0 => rfl
 | n + 1 => by simp [rok]
theorem rok_fuel : ∀ (n m : Nat) (l : List UInt8), l.length ≤ n → l.length ≤ m → rok n l = rok m l
 | 0, m, l, h, _ => by
  have : l = [] := List.eq_nil_of_length_eq_zero (by omega)
  subst this
  rw [rok_nil, rok_nil]
 | n + 1, 0, l, _, h => by
  have : l = [] := List.eq_nil_of_length_eq_zero (by omega)
  subst this
  rw [rok_nil, rok_nil]
 | n + 1, m + 1, l, h1, h2 => by
  by_cases hl : l = []
  ·subst hl; rw [rok_nil, rok_nil]
  ·have hp := dec_pos l
   have hlen : 0 < l.length := List.length_pos_iff.2 hl
   simp only [rok, hl, if_false]
   split
   ·exact rok_fuel n m _ (by simp; omega) (by simp; omega)
   ·rfl
theorem vld_step (l : List UInt8) (hl : l ≠ []) : vld l = if inRep ((decodeL l).1 : Int) = true then vld (l.drop (decodeL l).2) else false := by
 have hp := dec_pos l
 have hlen : 0 < l.length := List.length_pos_iff.2 hl
 unfold vld
 obtain ⟨n, hn⟩ : ∃ n, l.length = n + 1 := ⟨l.length - 1, by omega⟩
 rw [hn]
 simp only [rok, hl, if_false]
 split
 ·exact rok_fuel _ _ _ (by simp; omega) (Nat.le_refl _)
 ·rfl
theorem vld_valid : ∀ (n : Nat) (l : List UInt8), l.length ≤ n → vld l = true → validD l = true
 | n, l, h, hv => by
  by_cases hl : l = []
  ·subst hl; rfl
  ·have hlen : 0 < l.length := List.length_pos_iff.2 hl
   have hp := dec_pos l
   rw [vld_step l hl] at hv
   split at hv
   ·rename_i hr
    rw [validD_step l hl, if_neg ?_]
    ·cases n with
     | zero => omega
     | succ n => exact vld_valid n _ (by simp; omega) hv
    ·rintro ⟨e, _⟩
     rw [e] at hr
     exact absurd hr (by decide)
   ·cases hv
theorem valid_loop {s : List UInt8} (hs : s.length ≤ 100000000) (Ix : Int → Option Int) (hI : ∀ r : Int, ∃ i, Ix r = some i ∧ (i < 0 ↔ inRep r = false)) : ∀ (fuel p : Nat), s.length - p < fuel → p ≤ s.length →
  fixN (fun v2 (v3 : (List UInt8) × Int) =>
  cnd (nlt (toN v3.2) (nlen v3.1))
   (bnd (Ix (decR v3.1 (toN v3.2))) fun v4 =>
   cnd (ilt v4 (0 : Int))
    (some false)
    (v2 (v3.1, ofN (nadd (toN v3.2) (decW v3.1 (toN v3.2))))))
   (some true)) fuel (s, ofN p) = some (vld (s.drop p))
 | 0, p, h, _ => by omega
 | fuel + 1, p, h, hp => by
  rw [fixN_s]
  have et : toN (ofN p) = p := by simp [toN, ofN]
  simp only [et]
  by_cases hl : p < s.length
  ·have hne : s.drop p ≠ [] := by intro e; have := congrArg List.length e; simp at this; omega
   have hw := dec_pos (s.drop p)
   have hle := decodeL_le (s.drop p) hne
   rw [List.length_drop] at hle
   rw [cnd_t (show nlt p (nlen s) = true from decide_eq_true hl)]
   obtain ⟨i, h1, h2⟩ := hI (decR s p)
   rw [bnd_s h1]
   rw [vld_step _ hne, ← decR_eq]
   by_cases hi : i < 0
   ·rw [cnd_t (ilt_t hi), if_neg (by rw [h2.1 hi]; decide)]
   ·rw [cnd_f (ilt_f hi)]
    have hin : inRep (decR s p) = true := by
     cases hq : inRep (decR s p) with
     | true => rfl
     | false => exact absurd (h2.2 hq) hi
    rw [if_pos hin, decW_eq, List.drop_drop]
    show fixN _ fuel (s, ofN (p + (decodeL (s.drop p)).2)) = _
    exact valid_loop hs Ix hI fuel _ (by omega) (by omega)
  ·rw [cnd_f (show nlt p (nlen s) = false from decide_eq_false hl)]
   have : s.drop p = [] := by simp; omega
   rw [this]
   rfl
theorem r08_valid (s : List UInt8) (hs : s.length ≤ 4000000) : q69 fuelH s = some (vld s) := by
 unfold q69
 simp only [jn_e]
 have := valid_loop (s := s) (by omega) (q68 fuelH) (fun r => by obtain ⟨i, _, h2, h3⟩ := index_some r; exact ⟨i, h2, h3⟩) fuelH 0 (by have := fuelH_eq; omega) (Nat.zero_le _)
 simpa using this
theorem ch_valid (s : List UInt8) (hs : s.length ≤ 4000000) : q13 fuelH s = some (vld s) := by
 unfold q13
 have hv : utf8_ValidString fuelH s = some (validD s) := by
  show grd (catOk (len s)) (some (validD s)) = _
  exact grd_t (decide_eq_true (by simp only [len]; omega))
 rw [bnd_s hv]
 simp only [jn_e]
 cases hd : validD s with
 | false =>
  rw [cnd_t (show bnot false = true from rfl)]
  cases hq : vld s with
  | false => rfl
  | true => rw [vld_valid _ s (Nat.le_refl _) hq] at hd; cases hd
 | true =>
  rw [cnd_f (show bnot true = false from rfl)]
  have := valid_loop (s := s) (by omega) (q12 fuelH) (fun r => by obtain ⟨i, h2, h3⟩ := index_stl r; exact ⟨i, h2, h3⟩) fuelH 0 (by have := fuelH_eq; omega) (Nat.zero_le _)
  simpa using this
end Go.Mo
end
section
/-
 Plain facts: names; the check of a header.
-/
namespace Go.Mo
open Go Go.W Go.Lib
set_option maxRecDepth 100000
theorem cnd_dec {α : Type} {p : Prop} [Decidable p] {x y : Option α} : cnd (decide p) x y = if p then x else y := by
 by_cases h : p
 ·rw [cnd_t (decide_eq_true h), if_pos h]
 ·rw [cnd_f (decide_eq_false h), if_neg h]
theorem cnd_ilt {α : Type} {a b : Int} {x y : Option α} : cnd (ilt a b) x y = if a < b then x else y := cnd_dec
theorem cnd_ile {α : Type} {a b : Int} {x y : Option α} : cnd (ile a b) x y = if a ≤ b then x else y := cnd_dec
theorem cnd_ieq {α : Type} {a b : Int} {x y : Option α} : cnd (ieq a b) x y = if a = b then x else y := by
 by_cases h : a = b
 ·rw [cnd_t (ieq_t h), if_pos h]
 ·rw [cnd_f (ieq_f h), if_neg h]
theorem cnd_ine {α : Type} {a b : Int} {x y : Option α} : cnd (ine a b) x y = if a ≠ b then x else y := by
 by_cases h : a = b
 ·rw [cnd_f (ine_f h), if_neg (by simp [h])]
 ·rw [cnd_t (ine_t h), if_pos h]
def okc (c : Int) : Bool := decide ((65 ≤ c ∧ c ≤ 90) ∨ (48 ≤ c ∧ c ≤ 57) ∨ c = 95 ∨ c = 45)
theorem nm_body (c : Int) (X : Option Bool) :
  (cnd (ilt c (n8 (65 : UInt8)))
          (cnd (ilt c (n8 (48 : UInt8)))
           (cnd (ine c (n8 (95 : UInt8)))
            (cnd (ine c (n8 (45 : UInt8)))
             (some false)
             X)
            X)
           (cnd (ilt (n8 (57 : UInt8)) c)
            (cnd (ine c (n8 (95 : UInt8)))
             (cnd (ine c (n8 (45 : UInt8)))
              (some false)
              X)
             X)
            X))
          (cnd (ilt (n8 (90 : UInt8)) c)
           (cnd (ilt c (n8 (48 : UInt8)))
            (cnd (ine c (n8 (95 : UInt8)))
             (cnd (ine c (n8 (45 : UInt8)))
              (some false)
              X)
             X)
            (cnd (ilt (n8 (57 : UInt8)) c)
             (cnd (ine c (n8 (95 : UInt8)))
              (cnd (ine c (n8 (45 : UInt8)))
               (some false)
               X)
              X)
             X))
           X)) = cnd (okc c) X (some false) := by
 have e1 : n8 (65 : UInt8) = 65 := rfl
 have e2 : n8 (48 : UInt8) = 48 := rfl
 have e3 : n8 (95 : UInt8) = 95 := rfl
 have e4 : n8 (45 : UInt8) = 45 := rfl
 have e5 : n8 (57 : UInt8) = 57 := rfl
 have e6 : n8 (90 : UInt8) = 90 := rfl
 rw [e1, e2, e3, e4, e5, e6]
 simp only [cnd_ilt, cnd_ine, okc, cnd_dec]
 repeat' split
 all_goals first | rfl | (exfalso; omega)
def upc (c : Int) : Bool := decide (65 ≤ c ∧ c ≤ 90)
def nm (s : List UInt8) : Bool := decide (1 ≤ s.length ∧ s.length ≤ 16) && upc (n8 (s.getD 0 0)) && s.all fun c => okc (n8 c)
theorem all_step {s : List UInt8} {i : Nat} (h : i < s.length) (P : UInt8 → Bool) : (s.drop i).all P = (P s[i] && (s.drop (i + 1)).all P) := by
 rw [List.drop_eq_getElem_cons h, List.all_cons]
theorem nm_loop {s : List UInt8} (hs : s.length ≤ 16) : ∀ (fuel i : Nat), s.length - i < fuel → i ≤ s.length →
  fixN (fun v2 (v3 : Int) =>
        cnd (ilt v3 (len s))
         (grd (inb v3 (len s)) (cnd (okc (n8 (lget s (toN v3) (0 : UInt8)))) (v2 (w64 (iadd v3 (1 : Int)))) (some false)))
         (some true)) fuel (i : Int) = some ((s.drop i).all fun c => okc (n8 c))
 | 0, i, h, _ => by omega
 | fuel + 1, i, h, hi => by
  rw [fixN_s]
  by_cases hl : i < s.length
  ·have g : lget s (toN (i : Int)) 0 = s[i] := by simp [lget, toN, hl]
   rw [cnd_t (ilt_t (by simp only [len]; omega)), grd_t (inb_t (by simp only [len]; omega)), g, all_step hl]
   have hw : w64 (iadd (i : Int) 1) = ((i + 1 : Nat) : Int) := by
    simp only [iadd]; rw [w64_id (by omega)]; omega
   rw [hw, nm_loop hs fuel (i + 1) (by omega) (by omega)]
   cases okc (n8 s[i]) <;> rfl
  ·rw [cnd_f (ilt_f (by simp only [len]; omega))]
   have : s.drop i = [] := by simp; omega
   rw [this]
   rfl
theorem lines_name (s : List UInt8) : q14 fuelH s = some (nm s) := by
 unfold q14
 simp only [jn_e, nm_body]
 by_cases h1 : s.length < 1
 ·rw [cnd_t (ilt_t (by simp only [len]; omega))]
  simp [nm]; omega
 ·rw [cnd_f (ilt_f (by simp only [len]; omega))]
  by_cases h2 : 16 < s.length
  ·rw [cnd_t (ilt_t (by simp only [len]; omega))]
   simp [nm]; omega
  ·rw [cnd_f (ilt_f (by simp only [len]; omega)), grd_t (inb_t (by simp only [len]; omega))]
   have e0 : lget s (toN 0) 0 = s.getD 0 0 := rfl
   have e1 : n8 (65 : UInt8) = 65 := rfl
   have e2 : n8 (90 : UInt8) = 90 := rfl
   rw [e0, e1, e2, cnd_ilt]
   have hd : decide (1 ≤ s.length ∧ s.length ≤ 16) = true := decide_eq_true (by omega)
   split
   ·rename_i h3
    have : upc (n8 (s.getD 0 0)) = false := decide_eq_false (by omega)
    simp only [nm, this, Bool.and_false, Bool.false_and]
   ·rw [grd_t (inb_t (by simp only [len]; omega)), cnd_ilt]
    split
    ·rename_i h4
     have : upc (n8 (s.getD 0 0)) = false := decide_eq_false (by omega)
     simp only [nm, this, Bool.and_false, Bool.false_and]
    ·have hu : upc (n8 (s.getD 0 0)) = true := decide_eq_true (by omega)
     have := nm_loop (s := s) (by omega) fuelH 0 (by have := fuelH_eq; omega) (Nat.zero_le _)
     simp only [nm, hu, hd, Bool.true_and]
     simpa using this
end Go.Mo
end
section
/-
 Plain facts: the check of a header.
-/
namespace Go.Mo
open Go Go.W Go.Lib
set_option maxRecDepth 100000
abbrev Lbl := Int × Int × Int × Int × Bool
abbrev Hdr := UInt8 × (List UInt8) × (List UInt8) × Int × Int × Lbl × Lbl × Int × Int
theorem cnd_bnot {α : Type} {p : Prop} [Decidable p] {x y : Option α} : cnd (bnot (decide p)) x y = if p then y else x := by
 by_cases hp : p <;> simp [hp, bnot, cnd]
theorem bnd_some' {α β : Type} {a : α} {k : α → Option β} : bnd (some a) k = k a := rfl
end Go.Mo
end
section
/-
 Plain facts: the characters of a text, and the text of characters.
-/
namespace Go.Mo
open Go Go.W Go.Lib
set_option maxRecDepth 100000
def rnsF : Nat → List UInt8 → List Int
 | 0, _ => []
 | n + 1, l => if l = [] then [] else ((decodeL l).1 : Int) :: rnsF n (l.drop (decodeL l).2)
def rns (l : List UInt8) : List Int := rnsF l.length l
theorem rnsF_nil : ∀ n, rnsF n [] = []
 | 0 => rfl
 | n + 1 => by simp [rnsF]
theorem rnsF_fuel : ∀ (n m : Nat) (l : List UInt8), l.length ≤ n → l.length ≤ m → rnsF n l = rnsF m l
 | 0, m, l, h, _ => by
  have : l = [] := List.eq_nil_of_length_eq_zero (by omega)
  subst this
  rw [rnsF_nil, rnsF_nil]
 | n + 1, 0, l, _, h => by
  have : l = [] := List.eq_nil_of_length_eq_zero (by omega)
  subst this
  rw [rnsF_nil, rnsF_nil]
 | n + 1, m + 1, l, h1, h2 => by
  by_cases hl : l = []
  ·subst hl; rw [rnsF_nil, rnsF_nil]
  ·have hp := dec_pos l
   have hlen : 0 < l.length := List.length_pos_iff.2 hl
   simp only [rnsF, hl, if_false]
   rw [rnsF_fuel n m _ (by simp; omega) (by simp; omega)]
theorem rns_step (l : List UInt8) (hl : l ≠ []) : rns l = ((decodeL l).1 : Int) :: rns (l.drop (decodeL l).2) := by
 have hp := dec_pos l
 have hlen : 0 < l.length := List.length_pos_iff.2 hl
 unfold rns
 obtain ⟨n, hn⟩ : ∃ n, l.length = n + 1 := ⟨l.length - 1, by omega⟩
 rw [hn]
 simp only [rnsF, hl, if_false]
 rw [rnsF_fuel n _ _ (by simp; omega) (Nat.le_refl _)]
theorem rns_len : ∀ (n : Nat) (l : List UInt8), l.length ≤ n → (rns l).length ≤ l.length
 | n, l, h => by
  by_cases hl : l = []
  ·subst hl; exact Nat.le_refl _
  ·have hlen : 0 < l.length := List.length_pos_iff.2 hl
   have hp := dec_pos l
   rw [rns_step l hl]
   cases n with
   | zero => omega
   | succ n =>
    have := rns_len n (l.drop (decodeL l).2) (by simp; omega)
    simp at this ⊢
    omega
def foldR {σ R : Type} (g : Int → σ → (σ → Option R) → Option R) (e : σ → Option R) : List Int → σ → Option R
 | [], a => e a
 | r :: l, a => g r a fun a' => foldR g e l a'
theorem str_loop {V R σ : Type} {F : (V → Option R) → V → Option R} {s : List UInt8} (st : σ → Nat → V) (g : Int → σ → (σ → Option R) → Option R) (e : σ → Option R)
  (hstep : ∀ self a p, p < s.length → F self (st a p) = g (decR s p) a fun a' => self (st a' (p + decW s p)))
  (hend : ∀ self a p, s.length ≤ p → F self (st a p) = e a) : ∀ (fuel p : Nat) (a : σ), s.length - p < fuel → fixN F fuel (st a p) = foldR g e (rns (s.drop p)) a
 | 0, p, a, h => by omega
 | fuel + 1, p, a, h => by
  rw [fixN_s]
  by_cases hp : p < s.length
  ·have hne : s.drop p ≠ [] := by intro e; have := congrArg List.length e; simp at this; omega
   have hw := dec_pos (s.drop p)
   rw [hstep _ _ _ hp, rns_step _ hne, ← decR_eq, foldR, List.drop_drop, ← decW_eq]
   congr 1
   funext a'
   rw [decW_eq]
   have := str_loop st g e hstep hend fuel (p + (decodeL (s.drop p)).2) a' (by omega)
   exact this
  ·rw [hend _ _ _ (by omega)]
   have : s.drop p = [] := by simp; omega
   rw [this]
   rfl
def foldI {α σ R : Type} (g : Nat → α → σ → (σ → Option R) → Option R) (e : σ → Option R) : Nat → List α → σ → Option R
 | _, [], a => e a
 | i, x :: l, a => g i x a fun a' => foldI g e (i + 1) l a'
theorem lst_loop {V R σ α : Type} {F : (V → Option R) → V → Option R} {l : List α} (st : σ → Nat → V) (g : Nat → α → σ → (σ → Option R) → Option R) (e : σ → Option R)
  (hstep : ∀ self a i (h : i < l.length), F self (st a i) = g i l[i] a fun a' => self (st a' (i + 1)))
  (hend : ∀ self a, F self (st a l.length) = e a) : ∀ (fuel i : Nat) (a : σ), i ≤ l.length → l.length - i < fuel → fixN F fuel (st a i) = foldI g e i (l.drop i) a
 | 0, i, a, _, h => by omega
 | fuel + 1, i, a, hi, h => by
  rw [fixN_s]
  by_cases hl : i < l.length
  ·rw [hstep _ _ _ hl, List.drop_eq_getElem_cons hl, foldI]
   congr 1
   funext a'
   exact lst_loop st g e hstep hend fuel (i + 1) a' (by omega) (by omega)
  ·obtain rfl : i = l.length := by omega
   rw [hend, List.drop_length]
   rfl
theorem w64_succ {i n : Nat} (h : i < n) (hn : n ≤ 9223372036854775807) : w64 (iadd (i : Int) 1) = ((i + 1 : Nat) : Int) := by
 simp only [iadd]; rw [w64_id (by omega)]; omega
theorem lget_i {α : Type} {l : List α} {i : Nat} {d : α} (h : i < l.length) : lget l (toN (i : Int)) d = l[i] := by simp [lget, toN, h]
theorem nlt_t {a b : Nat} (h : a < b) : nlt a b = true := decide_eq_true h
theorem nlt_f {a b : Nat} (h : ¬ a < b) : nlt a b = false := decide_eq_false h
theorem toN_ofN (n : Nat) : toN (ofN n) = n := by simp [toN, ofN]
end Go.Mo
end
section
/-
 Plain facts: the characters of the tape form.
-/
namespace Go.Mo
open Go Go.W Go.Lib
set_option maxRecDepth 100000
end Go.Mo
end
section
/-
 Plain facts: texts in the characters of the tape form.
-/
namespace Go.Mo
open Go Go.W Go.Lib
set_option maxRecDepth 100000
theorem snoc_fold {R : Type} (k : List Int → Option R) : ∀ (l out : List Int), out.length + l.length ≤ 100000000 →
  foldR (fun r out self => grd (room (iadd (len out) (len [r])) 4) (self (lapp out [r]))) k l out = k (out ++ l)
 | [], out, _ => by simp [foldR]
 | r :: l, out, h => by
  simp only [List.length_cons] at h
  rw [foldR, grd_t (room_t (by simp [iadd, len]; omega))]
  show foldR _ _ _ (lapp out [r]) = _
  rw [snoc_fold k l _ (by simp [lapp]; omega)]
  simp [lapp]
theorem r08_runes_eq {s : List UInt8} (hs : s.length ≤ 4000000) : q81 fuelH s = some (rns s) := by
 unfold q81
 rw [jn_e]
 rw [show (([] : List Int), s, ofN 0) = (fun (a : List Int) (p : Nat) => (a, s, ofN p)) [] 0 from rfl]
 refine (str_loop (s := s) (fun (a : List Int) (p : Nat) => (a, s, ofN p)) (fun r out self => grd (room (iadd (len out) (len [r])) 4) (self (lapp out [r]))) (fun out => some out) (fun self a p hp => ?_) (fun self a p hp => ?_) fuelH 0 [] (by have := fuelH_eq; omega)).trans ?_
 ·simp only [toN_ofN]
  rw [cnd_t (nlt_t (show p < nlen s from hp))]
  rfl
 ·simp only [toN_ofN]
  rw [cnd_f (nlt_f (show ¬ p < nlen s by unfold nlen; omega))]
 ·have := rns_len _ s (Nat.le_refl _)
  rw [List.drop_zero, snoc_fold _ _ _ (by simp; omega)]
  rfl
end Go.Mo
end
section
/-
 Small plain facts: bytes, lengths, equality of texts.
-/
namespace Go.Mo
open Go Go.W Go.Lib
set_option maxRecDepth 100000
noncomputable section
theorem catOk_t {n : Int} (h : n ≤ 9223372036854775807) : catOk n = true := decide_eq_true h
theorem seq_dec (x y : List UInt8) : seq x y = decide (x = y) := by
 unfold seq
 by_cases h : x = y
 ·subst h; simp
 ·rw [decide_eq_false h]
  simpa using h
end
end Go.Mo
end
section
/-
 Plain facts: characters of the tape form read back.
-/
namespace Go.Mo
open Go Go.W Go.Lib
set_option maxRecDepth 100000
noncomputable section
def low (r : Int) : Int := if (65 ≤ r ∧ r ≤ 90) ∨ (192 ≤ r ∧ r < 223) then r + 32 else if r = 338 then 339 else r
end
end Go.Mo
end
section
/-
 Plain facts: rates, names, on both sides.
-/
namespace Go.Mo
open Go Go.W Go.Lib
set_option maxRecDepth 100000
noncomputable section
theorem valid_tab : ((List.range 256).all fun n => decide (q16 0 (UInt8.ofNat n) = q71 0 (UInt8.ofNat n) ∧ q17 0 (UInt8.ofNat n) = q72 0 (UInt8.ofNat n) ∧ True)) = true := by kernel_rfl
theorem rate_eq (N : Nat) (r : UInt8) : q16 N r = q71 N r ∧ q17 N r = q72 N r ∧ True :=
 of_decide_eq_true (all_u8 (P := fun r => decide (q16 0 r = q71 0 r ∧ q17 0 r = q72 0 r ∧ True)) valid_tab r)
theorem digit_eq (N : Nat) (c : UInt8) : q70 N c = some (decide (48 ≤ n8 c ∧ n8 c ≤ 57)) := by
 unfold q70
 have e1 : n8 (48 : UInt8) = 48 := rfl
 have e2 : n8 (57 : UInt8) = 57 := rfl
 rw [e1, e2, cnd_ile]
 split
 ·simp only [ile, Option.some.injEq, decide_eq_decide]; omega
 ·simp only [Option.some.injEq]; exact (decide_eq_false (by omega)).symm
theorem r07_body {s : List UInt8} {i : Nat} (h : i < s.length) (X : Option Bool) (N : Nat) :
  (grd (inb (i : Int) (len s)) <|
     cnd (ile (n8 (65 : UInt8)) (n8 (lget s (toN (i : Int)) (0 : UInt8))))
      (grd (inb (i : Int) (len s))
       ((fun (v4 : Bool) =>
      cnd (bnot v4)
       (cnd (ieq (i : Int) (0 : Int))
        (some false)
        (grd (inb (i : Int) (len s))
         (bnd (q70 N (lget s (toN (i : Int)) (0 : UInt8))) fun v5 =>
         cnd (bnot v5)
          (grd (inb (i : Int) (len s))
           (cnd (ine (n8 (lget s (toN (i : Int)) (0 : UInt8))) (n8 (95 : UInt8)))
            (grd (inb (i : Int) (len s))
             (cnd (ine (n8 (lget s (toN (i : Int)) (0 : UInt8))) (n8 (45 : UInt8)))
              (some false)
              X))
            X))
          X)))
       X) (ile (n8 (lget s (toN (i : Int)) (0 : UInt8))) (n8 (90 : UInt8)))))
      ((fun (v4 : Bool) =>
      cnd (bnot v4)
       (cnd (ieq (i : Int) (0 : Int))
        (some false)
        (grd (inb (i : Int) (len s))
         (bnd (q70 N (lget s (toN (i : Int)) (0 : UInt8))) fun v5 =>
         cnd (bnot v5)
          (grd (inb (i : Int) (len s))
           (cnd (ine (n8 (lget s (toN (i : Int)) (0 : UInt8))) (n8 (95 : UInt8)))
            (grd (inb (i : Int) (len s))
             (cnd (ine (n8 (lget s (toN (i : Int)) (0 : UInt8))) (n8 (45 : UInt8)))
              (some false)
              X))
            X))
          X)))
       X) false)) = if upc (n8 s[i]) = true then X else if i = 0 then some false else if okc (n8 s[i]) = true then X else some false := by
 have hb : inb (i : Int) (len s) = true := inb_t (by simp only [len]; omega)
 have g : lget s (toN (i : Int)) 0 = s[i] := by simp [lget, toN, h]
 have e1 : n8 (65 : UInt8) = 65 := rfl
 have e2 : n8 (90 : UInt8) = 90 := rfl
 have e3 : n8 (95 : UInt8) = 95 := rfl
 have e4 : n8 (45 : UInt8) = 45 := rfl
 simp only [grd_t hb, g, e1, e2, e3, e4]
 rw [bnd_s (digit_eq N s[i])]
 generalize n8 s[i] = c
 have hi : ((i : Int) = 0) ↔ i = 0 := by omega
 have b1 : ∀ (p : Prop) [Decidable p] (x y : Option Bool), cnd (bnot (decide p)) x y = if p then y else x := fun p _ x y => by
  by_cases hp : p <;> simp [hp, bnot, cnd]
 have b2 : ∀ x y : Option Bool, cnd (bnot false) x y = x := fun _ _ => rfl
 simp only [cnd_ile, cnd_ieq, cnd_ine, cnd_dec, ile, b1, b2, upc, okc, decide_eq_true_eq, hi]
 repeat' split
 all_goals first | rfl | (exfalso; omega)
theorem r07_name (s : List UInt8) : r07_Name fuelH s = some (nm s) := by
 unfold r07_Name
 by_cases h1 : s.length < 1
 ·rw [cnd_t (ilt_t (by simp only [len]; omega))]
  simp [nm]; omega
 ·rw [cnd_f (ilt_f (by simp only [len]; omega))]
  by_cases h2 : 16 < s.length
  ·rw [cnd_t (ilt_t (by simp only [len]; omega))]
   simp [nm]; omega
  ·rw [cnd_f (ilt_f (by simp only [len]; omega))]
   simp only [jn_e]
   have hd : decide (1 ≤ s.length ∧ s.length ≤ 16) = true := decide_eq_true (by omega)
   have loop : ∀ (fuel i : Nat), s.length - i < fuel → i ≤ s.length → fixN (fun v2 (v3 : Int) =>
    cnd (ilt v3 (len s))
     (grd (inb v3 (len s)) <|
     cnd (ile (n8 (65 : UInt8)) (n8 (lget s (toN v3) (0 : UInt8))))
      (grd (inb v3 (len s))
       ((fun (v4 : Bool) =>
      cnd (bnot v4)
       (cnd (ieq v3 (0 : Int))
        (some false)
        (grd (inb v3 (len s))
         (bnd (q70 fuelH (lget s (toN v3) (0 : UInt8))) fun v5 =>
         cnd (bnot v5)
          (grd (inb v3 (len s))
           (cnd (ine (n8 (lget s (toN v3) (0 : UInt8))) (n8 (95 : UInt8)))
            (grd (inb v3 (len s))
             (cnd (ine (n8 (lget s (toN v3) (0 : UInt8))) (n8 (45 : UInt8)))
              (some false)
              (v2 (w64 (iadd v3 (1 : Int))))))
            (v2 (w64 (iadd v3 (1 : Int))))))
          (v2 (w64 (iadd v3 (1 : Int)))))))
       (v2 (w64 (iadd v3 (1 : Int))))) (ile (n8 (lget s (toN v3) (0 : UInt8))) (n8 (90 : UInt8)))))
      ((fun (v4 : Bool) =>
      cnd (bnot v4)
       (cnd (ieq v3 (0 : Int))
        (some false)
        (grd (inb v3 (len s))
         (bnd (q70 fuelH (lget s (toN v3) (0 : UInt8))) fun v5 =>
         cnd (bnot v5)
          (grd (inb v3 (len s))
           (cnd (ine (n8 (lget s (toN v3) (0 : UInt8))) (n8 (95 : UInt8)))
            (grd (inb v3 (len s))
             (cnd (ine (n8 (lget s (toN v3) (0 : UInt8))) (n8 (45 : UInt8)))
              (some false)
              (v2 (w64 (iadd v3 (1 : Int))))))
            (v2 (w64 (iadd v3 (1 : Int))))))
          (v2 (w64 (iadd v3 (1 : Int)))))))
       (v2 (w64 (iadd v3 (1 : Int))))) false))
     (some true)) fuel (i : Int) = some (bif decide (i = 0) then upc (n8 (s.getD 0 0)) && s.all (fun c => okc (n8 c)) else (s.drop i).all fun c => okc (n8 c)) := by
    intro fuel
    induction fuel with
    | zero => intro i h; omega
    | succ fuel ih =>
     intro i h hi
     rw [fixN_s]
     by_cases hl : i < s.length
     ·rw [cnd_t (ilt_t (by simp only [len]; omega)), r07_body hl]
      have hw : w64 (iadd (i : Int) 1) = ((i + 1 : Nat) : Int) := by
       simp only [iadd]; rw [w64_id (by omega)]; omega
      rw [hw, ih (i + 1) (by omega) (by omega)]
      have hup : upc (n8 s[i]) = true → okc (n8 s[i]) = true := fun h => by
       have := of_decide_eq_true h
       exact decide_eq_true (.inl this)
      have e0 : decide (i + 1 = 0) = false := decide_eq_false (by omega)
      simp only [e0, cond_false]
      by_cases hz : i = 0
      ·subst hz
       have g0 : s.getD 0 0 = s[0] := by simp [hl]
       have hs : s.all (fun c => okc (n8 c)) = (okc (n8 s[0]) && (s.drop 1).all fun c => okc (n8 c)) := by
        have := all_step (s := s) (i := 0) hl (fun c => okc (n8 c))
        simpa using this
       simp only [decide_true, cond_true, if_true, g0, hs]
       cases hu : upc (n8 s[0]) with
       | true => simp [hup hu]
       | false => simp
      ·have : decide (i = 0) = false := decide_eq_false hz
       simp only [this, cond_false, hz, if_false, all_step hl]
       cases hu : upc (n8 s[i]) with
       | true => simp [hup hu]
       | false => cases okc (n8 s[i]) <;> simp
     ·rw [cnd_f (ilt_f (by simp only [len]; omega))]
      have hz : decide (i = 0) = false := decide_eq_false (by omega)
      have : s.drop i = [] := by simp; omega
      rw [hz, this]
      rfl
   have := loop fuelH 0 (by have := fuelH_eq; omega) (Nat.zero_le _)
   simp only [decide_true, cond_true] at this
   simp only [nm, hd, Bool.true_and]
   exact this
end
end Go.Mo
end
section
/-
 Plain facts: rows of text, their check, their normal form.
-/
namespace Go.Mo
open Go Go.W Go.Lib
set_option maxRecDepth 100000
abbrev Sty := UInt8 × Bool × Bool
abbrev Run := List UInt8 × Sty × List UInt8
abbrev Row := List Run
theorem cnd_ite {α : Type} {b : Bool} {x y : Option α} : cnd b x y = if b = true then x else y := by cases b <;> rfl
theorem bnot_t {b : Bool} : (bnot b = true) = (b = false) := by cases b <;> simp [bnot]
theorem seq_t {a b : List UInt8} : (seq a b = true) = (a = b) := by rw [seq_dec]; simp
theorem ieq_tt {a b : Int} : (ieq a b = true) = (a = b) := by simp [ieq]
theorem ine_tt {a b : Int} : (ine a b = true) = (a ≠ b) := by simp [ine]
theorem ilt_tt {a b : Int} : (ilt a b = true) = (a < b) := by simp [ilt]
theorem beqb_t {a b : Bool} : (beqb a b = true) = (a = b) := by simp [beqb]
theorem band_tt {a b : Bool} : (band a b = true) = (a = true ∧ b = true) := by simp [band]
theorem n8_eq {a b : UInt8} : (n8 a = n8 b) = (a = b) := propext ⟨n8_inj, fun h => by rw [h]⟩
theorem w64_pred {i : Nat} (h : 0 < i) (hn : i ≤ 9223372036854775807) : w64 (isub (i : Int) 1) = ((i - 1 : Nat) : Int) := by
 simp only [isub]; rw [w64_id (by omega)]; omega
theorem w64_back {i : Nat} (hn : i < 9223372036854775807) : w64 (isub ((i + 1 : Nat) : Int) 1) = (i : Int) := by
 rw [w64_pred (Nat.succ_pos i) (by omega)]; rfl
theorem sty_eq {a b : Sty} : (a = b) = (a.1 = b.1 ∧ a.2.1 = b.2.1 ∧ a.2.2 = b.2.2) := by
 obtain ⟨a1, a2, a3⟩ := a; obtain ⟨b1, b2, b3⟩ := b; simp
def alikeP (a b : Run) : Prop := a.2.1 = b.2.1 ∧ a.2.2 = [] ∧ b.2.2 = []
instance (a b : Run) : Decidable (alikeP a b) := by unfold alikeP; infer_instance
def runChk (p : Option Run) (x : Run) : Int :=
 if vld x.1 = false then 10 else if x.1 = [] then 4 else if ¬ n8 x.2.1.1 ≤ 6 then 12 else if vld x.2.2 = false then 10 else match p with
  | none => 0
  | some p => if alikeP p x then 8 else 0
def chkL : Option Run → List Run → Int
 | _, [] => 0
 | p, x :: r => if runChk p x ≠ 0 then runChk p x else chkL (some x) r
def rowChk (l : Row) : Int := if 16 < l.length then 9 else chkL none l
def shortR (l : Row) : Prop := ∀ x ∈ l, x.1.length ≤ 4000000 ∧ x.2.2.length ≤ 4000000
def before {α : Type} (l : List α) : Nat → Option α
 | 0 => none
 | i + 1 => l[i]?
theorem foldI_chk (l : Row) : ∀ (r : List Run) (i : Nat), l.drop i = r → i ≤ l.length → foldI (fun i (x : Run) (_ : Unit) self => if runChk (before l i) x ≠ 0 then some (runChk (before l i) x) else self ()) (fun _ => some (0 : Int)) i r () = some (chkL (before l i) r)
 | [], i, _, _ => rfl
 | x :: r, i, h, hi => by
  have hx : l[i]? = some x := by rw [← List.head?_drop, h]; rfl
  have hr : l.drop (i + 1) = r := by rw [← List.drop_drop, h]; rfl
  have hl : i < l.length := (List.getElem?_eq_some_iff.1 hx).1
  simp only [foldI, chkL]
  rw [foldI_chk l r (i + 1) hr (by omega)]
  have e : before l (i + 1) = some x := hx
  rw [e]
  by_cases hc : runChk (before l i) x ≠ 0
  ·rw [if_pos hc, if_pos hc]
  ·rw [if_neg hc, if_neg hc]
theorem style_alike_eq (N : Nat) (a b : Run) : q29 N (a, b) = some (decide (alikeP a b)) := by
 unfold q29
 simp only [cnd_ite, band_tt, ieq_tt, beqb_t, n8_eq, seq_dec, decide_eq_true_eq]
 by_cases h1 : a.2.1.1 = b.2.1.1 ∧ a.2.1.2.1 = b.2.1.2.1 ∧ a.2.1.2.2 = b.2.1.2.2
 ·rw [if_pos h1]
  have : a.2.1 = b.2.1 := by rw [sty_eq]; exact h1
  by_cases h2 : a.2.2 = []
  ·rw [if_pos h2]; simp [alikeP, this, h2]
  ·rw [if_neg h2]; simp [alikeP, h2]
 ·rw [if_neg h1]
  have : ¬ a.2.1 = b.2.1 := by rw [sty_eq]; exact h1
  simp [alikeP, this]
theorem style_check {l : Row} (hl : shortR l) : q30 fuelH l = some (rowChk l) := by
 unfold q30
 by_cases h : 16 < l.length
 ·rw [cnd_t (ilt_t (by simp only [len]; omega))]; simp [rowChk, h]
 ·rw [cnd_f (ilt_f (by simp only [len]; omega)), jn_e]
  refine Eq.trans (lst_loop (l := l) (fun (_ : Unit) (p : Nat) => (p : Int)) (fun i (x : Run) (_ : Unit) self => if runChk (before l i) x ≠ 0 then some (runChk (before l i) x) else self ()) (fun _ => some (0 : Int)) (fun self a i hi => ?_) (fun self a => ?_) fuelH 0 () (Nat.zero_le _) (by have := fuelH_eq; omega)) ?_
  ·rw [cnd_t (ilt_t (by simp only [len]; omega)), grd_t (inb_t (by simp only [len]; omega)), lget_i hi]
   obtain ⟨b1, b2⟩ := hl l[i] (List.getElem_mem hi)
   rw [bnd_s (ch_valid _ b1), bnd_s (show q28 fuelH l[i].2.1 = some (ile (n8 l[i].2.1.1) 6) from rfl), bnd_s (ch_valid _ b2)]
   simp only [cnd_ite, bnot_t, seq_t, ile, decide_eq_false_iff_not]
   rw [w64_succ hi (by omega)]
   cases i with
   | zero =>
    have e0 : before l 0 = none := rfl
    rw [e0, if_neg (show ¬ ilt (0 : Int) ((0 : Nat) : Int) = true by decide)]
    simp only [runChk]
    repeat' split
    all_goals first | rfl | (exfalso; omega) | simp_all
   | succ i =>
    have e0 : before l (i + 1) = some l[i] := by simp only [before]; exact List.getElem?_eq_getElem (by omega)
    rw [e0, if_pos (show ilt (0 : Int) ((i + 1 : Nat) : Int) = true from ilt_t (by omega)), w64_back (by omega), grd_t (inb_t (by simp only [len]; omega)), lget_i (show i < l.length by omega), bnd_s (style_alike_eq _ _ _)]
    simp only [runChk, decide_eq_true_eq]
    repeat' split
    all_goals first | rfl | (exfalso; omega) | simp_all
  ·rw [cnd_f (ilt_f (by simp only [len]; omega))]
  ·rw [List.drop_zero, foldI_chk l l 0 rfl (Nat.zero_le _)]
   simp [rowChk, h, before]
theorem r09_check {l : Row} (hl : shortR l) : q79 fuelH l = some (rowChk l) := by
 unfold q79
 by_cases h : 16 < l.length
 ·rw [cnd_t (ilt_t (by simp only [len]; omega))]; simp [rowChk, h]
 ·rw [cnd_f (ilt_f (by simp only [len]; omega)), jn_e]
  refine Eq.trans (lst_loop (l := l) (fun (_ : Unit) (p : Nat) => (p : Int)) (fun i (x : Run) (_ : Unit) self => if runChk (before l i) x ≠ 0 then some (runChk (before l i) x) else self ()) (fun _ => some (0 : Int)) (fun self a i hi => ?_) (fun self a => ?_) fuelH 0 () (Nat.zero_le _) (by have := fuelH_eq; omega)) ?_
  ·rw [cnd_t (ilt_t (by simp only [len]; omega)), grd_t (inb_t (by simp only [len]; omega)), lget_i hi]
   obtain ⟨b1, b2⟩ := hl l[i] (List.getElem_mem hi)
   rw [bnd_s (r08_valid _ b1), bnd_s (show q78 fuelH l[i].2.1 = some (ile (n8 l[i].2.1.1) 6) from rfl), bnd_s (r08_valid _ b2)]
   simp only [cnd_ite, bnot_t, seq_t, ile, decide_eq_false_iff_not]
   rw [w64_succ hi (by omega)]
   cases i with
   | zero =>
    have e0 : before l 0 = none := rfl
    rw [e0, if_neg (show ¬ ilt (0 : Int) ((0 : Nat) : Int) = true by decide)]
    simp only [runChk]
    repeat' split
    all_goals first | rfl | (exfalso; omega) | simp_all
   | succ i =>
    have e0 : before l (i + 1) = some l[i] := by simp only [before]; exact List.getElem?_eq_getElem (by omega)
    have hin : inb ((i : Nat) : Int) (len l) = true := inb_t (by simp only [len]; omega)
    rw [e0, if_pos (show ilt (0 : Int) ((i + 1 : Nat) : Int) = true from ilt_t (by omega)), w64_back (by omega), grd_t hin, grd_t hin, lget_i (show i < l.length by omega)]
    simp only [runChk, alikeP, band_tt, ieq_tt, beqb_t, n8_eq, ← sty_eq]
    repeat' split
    all_goals first | rfl | (exfalso; omega) | simp_all
  ·rw [cnd_f (ilt_f (by simp only [len]; omega))]
  ·rw [List.drop_zero, foldI_chk l l 0 rfl (Nat.zero_le _)]
   simp [rowChk, h, before]
end Go.Mo
end
section
/-
 Plain facts: loops with an invariant; the normal form of a row.
-/
namespace Go.Mo
open Go Go.W Go.Lib
set_option maxRecDepth 100000
def itI {α σ R : Type} (f : Nat → α → σ → Option R ⊕ σ) (e : σ → Option R) : Nat → List α → σ → Option R
 | _, [], a => e a
 | i, x :: l, a => match f i x a with
  | .inl r => r
  | .inr a' => itI f e (i + 1) l a'
def Rnd {V R σ : Type} (X : Option R) (self : V → Option R) (next : σ → V) (I : σ → Prop) : Option R ⊕ σ → Prop
 | .inl r => X = r
 | .inr a => X = self (next a) ∧ I a
theorem lst_it {V R σ α : Type} {F : (V → Option R) → V → Option R} {l : List α} (st : σ → Nat → V) (f : Nat → α → σ → Option R ⊕ σ) (e : σ → Option R) (I : Nat → σ → Prop)
  (hstep : ∀ self a i (h : i < l.length), I i a → Rnd (F self (st a i)) self (fun a => st a (i + 1)) (I (i + 1)) (f i l[i] a))
  (hend : ∀ self a, I l.length a → F self (st a l.length) = e a) : ∀ (fuel i : Nat) (a : σ), i ≤ l.length → l.length - i < fuel → I i a → fixN F fuel (st a i) = itI f e i (l.drop i) a
 | 0, i, a, _, h, _ => by omega
 | fuel + 1, i, a, hi, h, hI => by
  rw [fixN_s]
  by_cases hl : i < l.length
  ·rw [List.drop_eq_getElem_cons hl, itI]
   have hs := hstep (fixN F fuel) a i hl hI
   cases hf : f i l[i] a with
   | inl r => rw [hf] at hs; exact hs
   | inr a' =>
    rw [hf] at hs
    rw [hs.1]
    exact lst_it st f e I hstep hend fuel (i + 1) a' (by omega) (by omega) hs.2
  ·obtain rfl : i = l.length := by omega
   rw [hend _ _ hI, List.drop_length]
   rfl
def tot : Row → Nat
 | [] => 0
 | x :: r => x.1.length + tot r
theorem tot_app (a b : Row) : tot (a ++ b) = tot a + tot b := by
 induction a with
 | nil => simp [tot]
 | cons x a ih => simp only [List.cons_append, tot, ih]; omega
end Go.Mo
end
section
/-
 Plain facts: the bytes of rows.
-/
namespace Go.Mo
open Go Go.W Go.Lib
set_option maxRecDepth 100000
noncomputable section
theorem chkL_ok : ∀ (l : List Run) (p : Option Run), chkL p l = 0 → ∀ x ∈ l, vld x.1 = true ∧ x.1 ≠ [] ∧ n8 x.2.1.1 ≤ 6 ∧ vld x.2.2 = true
 | [], _, _, x, hx => by cases hx
 | y :: l, p, h, x, hx => by
  simp only [chkL] at h
  split at h
  ·rename_i hc; exact absurd h hc
  ·rename_i hc
   rcases List.mem_cons.1 hx with rfl | hx
   ·have hc : runChk p x = 0 := by simpa using hc
    unfold runChk at hc
    split at hc
    ·cases hc
    ·split at hc
     ·cases hc
     ·split at hc
      ·cases hc
      ·split at hc
       ·cases hc
       ·rename_i h1 h2 h3 h4
        exact ⟨by simpa using h1, h2, by omega, by simpa using h4⟩
   ·exact chkL_ok l _ h x hx
theorem rowChk_ok {l : Row} (h : rowChk l = 0) : l.length ≤ 16 ∧ ∀ x ∈ l, vld x.1 = true ∧ x.1 ≠ [] ∧ n8 x.2.1.1 ≤ 6 ∧ vld x.2.2 = true := by
 unfold rowChk at h
 split at h
 ·cases h
 ·exact ⟨by omega, chkL_ok l _ h⟩
def cost : Row → Nat
 | [] => 0
 | x :: r => 3 + x.1.length + cost r
theorem cost_eq (l : Row) : cost l = 3 * l.length + tot l := by
 induction l with
 | nil => rfl
 | cons x l ih => simp only [cost, tot, List.length_cons, ih]; omega
def shortL (l : List Row) : Prop := ∀ r ∈ l, shortR r
end
end Go.Mo
end
section
/-
 Plain facts: rows that are read from bytes, on both sides.
-/
namespace Go.Mo
open Go Go.W Go.Lib
set_option maxRecDepth 100000
noncomputable section
end
end Go.Mo
end
section
/-
 Plain facts: rows that are read by the reference; equality of rows; StlTexts returns true.
-/
namespace Go.Mo
open Go Go.W Go.Lib
set_option maxRecDepth 100000
noncomputable section
theorem run_eq {a b : Run} : (a = b) = (a.1 = b.1 ∧ a.2.1 = b.2.1 ∧ a.2.2 = b.2.2) := by
 obtain ⟨a1, a2, a3⟩ := a; obtain ⟨b1, b2, b3⟩ := b; simp
theorem same_fold {α : Type} : ∀ (l m : List α) [DecidableEq α], l.length = m.length → ∀ i, itI (fun i (x : α) (_ : Unit) => if some x = m[i]? then (.inr () : Option Bool ⊕ Unit) else .inl (some false)) (fun _ => some true) i (l.drop i) () = some (decide (l.drop i = m.drop i)) := by
 intro l m _ hl i
 generalize hr : l.drop i = r
 induction r generalizing i with
 | nil =>
  have h1 : l.length ≤ i := by have := congrArg List.length hr; simp at this; omega
  have : m.drop i = [] := by rw [List.drop_eq_nil_iff]; omega
  rw [this]; simp [itI]
 | cons x r ih =>
  have hx : l[i]? = some x := by rw [← List.head?_drop, hr]; rfl
  have hi := (List.getElem?_eq_some_iff.1 hx).1
  have hr' : l.drop (i + 1) = r := by rw [← List.drop_drop, hr]; rfl
  have hm : m.drop i = m[i] :: m.drop (i + 1) := List.drop_eq_getElem_cons (by omega)
  rw [hm]
  simp only [itI]
  by_cases h : some x = m[i]?
  ·rw [if_pos h]
   simp only
   rw [ih (i + 1) hr']
   rw [List.getElem?_eq_getElem (by omega)] at h
   injection h with h
   exact congrArg some (decide_eq_decide.2 ⟨fun e => by rw [h, e], fun e => by injection e⟩)
  ·rw [if_neg h]
   rw [List.getElem?_eq_getElem (by omega)] at h
   have : x ≠ m[i] := fun e => h (by rw [e])
   exact congrArg some (decide_eq_false fun e => this (by injection e)).symm
theorem eqRuns (a b : Row) (hl : a.length ≤ 4000000) : q122 fuelH (a, b) = some (decide (a = b)) := by
 unfold q122
 by_cases h : a.length = b.length
 ·rw [cnd_f (ine_f (by simp only [len]; omega)), jn_e]
  refine Eq.trans (lst_it (l := a) (fun (_ : Unit) (p : Nat) => (p : Int)) (fun i (x : Run) (_ : Unit) => if some x = b[i]? then .inr () else .inl (some false)) (fun _ => some true) (fun _ _ => True) (fun self _ i hi _ => ?_) (fun self _ _ => ?_) fuelH 0 () (Nat.zero_le _) (by have := fuelH_eq; omega) trivial) ?_
  ·have hb : i < b.length := by omega
   have e : cnd (ilt (i : Int) (len a)) (grd (inb (i : Int) (len a)) (grd (inb (i : Int) (len b)) (cnd (bnot (band (seq (lget a (toN (i : Int)) ([], (((0 : UInt8), (false, false)), []))).1 (lget b (toN (i : Int)) ([], (((0 : UInt8), (false, false)), []))).1) (band (band (ieq (n8 (lget a (toN (i : Int)) ([], (((0 : UInt8), (false, false)), []))).2.1.1) (n8 (lget b (toN (i : Int)) ([], (((0 : UInt8), (false, false)), []))).2.1.1)) (band (beqb (lget a (toN (i : Int)) ([], (((0 : UInt8), (false, false)), []))).2.1.2.1 (lget b (toN (i : Int)) ([], (((0 : UInt8), (false, false)), []))).2.1.2.1) (beqb (lget a (toN (i : Int)) ([], (((0 : UInt8), (false, false)), []))).2.1.2.2 (lget b (toN (i : Int)) ([], (((0 : UInt8), (false, false)), []))).2.1.2.2))) (seq (lget a (toN (i : Int)) ([], (((0 : UInt8), (false, false)), []))).2.2 (lget b (toN (i : Int)) ([], (((0 : UInt8), (false, false)), []))).2.2)))) (some false) (self (w64 (iadd (i : Int) 1)))))) (some true) = if a[i] = b[i] then self ((i + 1 : Nat) : Int) else some false := by
    rw [cnd_t (ilt_t (by simp only [len]; omega)), grd_t (inb_t (by simp only [len]; omega)), grd_t (inb_t (by simp only [len]; omega)), lget_i hi, lget_i hb, w64_succ hi (by omega), cnd_ite]
    simp only [bnot_t, Bool.eq_false_iff, ne_eq, band_tt, seq_t, ieq_tt, beqb_t, n8_eq, ← sty_eq, ← run_eq]
    by_cases hc : a[i] = b[i]
    ·rw [if_neg (by simpa using hc), if_pos hc]
    ·rw [if_pos hc, if_neg hc]
   rw [List.getElem?_eq_getElem hb]
   by_cases hc : a[i] = b[i]
   ·rw [if_pos (by rw [hc])]
    exact ⟨e.trans (if_pos hc), trivial⟩
   ·rw [if_neg (fun h => hc (by injection h))]
    exact e.trans (if_neg hc)
  ·simp only
   rw [cnd_f (ilt_f (by simp only [len]; omega))]
  ·exact same_fold a b h 0
 ·rw [cnd_t (ine_t (by simp only [len]; omega))]
  have : a ≠ b := fun e => h (by rw [e])
  simp [this]
theorem same_row (a b : Row) (hl : a.length ≤ 4000000) : q123 fuelH (a, b) = some (decide (a = b)) := by
 unfold q123
 rw [eqRuns a b hl, bnd_some']
theorem same_rows (a b : List Row) (hl : a.length ≤ 4000000) (h : ∀ r ∈ a, r.length ≤ 4000000) : q125 fuelH (a, b) = some (decide (a = b)) := by
 unfold q125 q124
 by_cases hab : a.length = b.length
 ·rw [cnd_f (ine_f (by simp only [len]; omega)), jn_e]
  have : ∀ X : Option Bool, (bnd X fun v0 => some v0) = X := fun X => by cases X <;> rfl
  rw [this]
  refine Eq.trans (lst_it (l := a) (fun (_ : Unit) (p : Nat) => (p : Int)) (fun i (x : Row) (_ : Unit) => if some x = b[i]? then .inr () else .inl (some false)) (fun _ => some true) (fun _ _ => True) (fun self _ i hi _ => ?_) (fun self _ _ => ?_) fuelH 0 () (Nat.zero_le _) (by have := fuelH_eq; omega) trivial) ?_
  ·have hb : i < b.length := by omega
   have e : cnd (ilt (i : Int) (len a)) (grd (inb (i : Int) (len a)) (grd (inb (i : Int) (len b)) (bnd (q123 fuelH (lget a (toN (i : Int)) [], lget b (toN (i : Int)) [])) fun v4 => cnd (bnot v4) (some false) (self (w64 (iadd (i : Int) 1)))))) (some true) = if a[i] = b[i] then self ((i + 1 : Nat) : Int) else some false := by
    rw [cnd_t (ilt_t (by simp only [len]; omega)), grd_t (inb_t (by simp only [len]; omega)), grd_t (inb_t (by simp only [len]; omega)), lget_i hi, lget_i hb, w64_succ hi (by omega), same_row _ _ (h _ (List.getElem_mem hi)), bnd_some', cnd_bnot]
   rw [List.getElem?_eq_getElem hb]
   by_cases hc : a[i] = b[i]
   ·rw [if_pos (by rw [hc])]
    exact ⟨e.trans (if_pos hc), trivial⟩
   ·rw [if_neg (fun h => hc (by injection h))]
    exact e.trans (if_neg hc)
  ·simp only
   rw [cnd_f (ilt_f (by simp only [len]; omega))]
  ·exact same_fold a b hab 0
 ·rw [cnd_t (ine_t (by simp only [len]; omega))]
  have : a ≠ b := fun e => hab (by rw [e])
  simp [this, bnd_some']
end
end Go.Mo
end
section
/-
 Plain facts: StlTexts returns true.
-/
namespace Go.Mo
open Go Go.W Go.Lib
set_option maxRecDepth 100000
noncomputable section
theorem loop_inv {V R σ : Type} {F : (V → Option R) → V → Option R} {n : Nat} (st : σ → Nat → V) (I : Nat → σ → Prop) (r : Option R)
  (hstep : ∀ self a i, i < n → I i a → ∃ a', F self (st a i) = self (st a' (i + 1)) ∧ I (i + 1) a') (hend : ∀ self a, I n a → F self (st a n) = r) : ∀ (fuel i : Nat) (a : σ), i ≤ n → n - i < fuel → I i a → fixN F fuel (st a i) = r
 | 0, i, a, _, h, _ => by omega
 | fuel + 1, i, a, hi, h, hI => by
  rw [fixN_s]
  by_cases hl : i < n
  ·obtain ⟨a', h1, h2⟩ := hstep (fixN F fuel) a i hl hI
   rw [h1]
   exact loop_inv st I r hstep hend fuel (i + 1) a' (by omega) (by omega) h2
  ·obtain rfl : i = n := by omega
   exact hend _ _ hI
theorem bk_mem {α : Type} {f : α → Nat} {l : List α} {x : α} (h : x ∈ l) : f x ≤ bkL f l := by
 induction l with
 | nil => cases h
 | cons y l ih =>
  simp only [bkL]
  rcases List.mem_cons.1 h with rfl | h
  ·omega
  ·have := ih h; omega
theorem bk_len {α : Type} {f : α → Nat} (hf : ∀ x, 1 ≤ f x) (l : List α) : l.length ≤ bkL f l := by
 induction l with
 | nil => exact Nat.le_refl _
 | cons y l ih => have := hf y; simp only [bkL, List.length_cons]; omega
theorem bk_take {α : Type} {f : α → Nat} : ∀ (n : Nat) (l : List α), bkL f (l.take n) ≤ bkL f l
 | 0, _ => Nat.zero_le _
 | n + 1, [] => Nat.le_refl _
 | n + 1, x :: l => by have := bk_take (f := f) n l; simp only [List.take_succ_cons, bkL]; omega
def wtU (x : Run) : Nat := x.1.length + 1 + (1 + (1 + 1) + (x.2.2.length + 1))
def wtR (r : Row) : Nat := bkL wtU r + 1
theorem cost_wt (r : Row) : cost r ≤ bkL wtU r := by
 induction r with
 | nil => exact Nat.le_refl _
 | cons x r ih => simp only [cost, bkL, wtU]; omega
theorem short_wt {l : List Row} {B : Nat} (h : bkL wtR l ≤ B) (hB : B ≤ 4000000) : shortL l := fun r hr x hx => by
 have h1 : bkL wtU r + 1 ≤ bkL wtR l := bk_mem (f := wtR) hr
 have h2 : x.1.length + 1 + (1 + (1 + 1) + (x.2.2.length + 1)) ≤ bkL wtU r := bk_mem (f := wtU) hx
 omega
theorem clone_rows {l : List Row} (h : l.length ≤ 4000000) : q110 fuelH l = some l := by
 have h1 : grd (room (iadd (len ([] : List Row)) (len l)) 24) (some (lapp ([] : List Row) l)) = some l := by
  rw [grd_t (room_t (by simp only [iadd, len, List.length_nil]; omega))]; rfl
 unfold q110
 cases l with
 | nil =>
  rw [cnd_f (by rfl)]
  exact univ_of rfl h1
 | cons r l =>
  rw [cnd_t (ine_t (by simp only [len, List.length_cons]; omega))]
  exact h1
theorem min_take {α : Type} (l : List α) (n : Nat) : ltake (toN (imin (len l) (n : Int))) l = l.take n ∧ in2 (imin (len l) (n : Int)) (len l) = true := by
 have e : toN (imin (len l) (n : Int)) = min l.length n := by simp only [toN, imin, len]; omega
 refine ⟨?_, in2_t (by simp only [imin, len]; omega)⟩
 rw [e]
 unfold ltake
 by_cases h : l.length ≤ n
 ·rw [Nat.min_eq_left h, List.take_length, List.take_of_length_le h]
 ·rw [Nat.min_eq_right (by omega)]
end
end Go.Mo
end
section
/-
 Plain facts: StlReturns returns true.
-/
namespace Go.Mo
open Go Go.W Go.Lib
set_option maxRecDepth 100000
noncomputable section
theorem tot_cost (l : Row) : tot l ≤ cost l := by rw [cost_eq]; omega
end
end Go.Mo
end
section
/-
 Plain facts: regions, their check, a region by its name, the places of rows.
-/
namespace Go.Mo
open Go Go.W Go.Lib
set_option maxRecDepth 100000
noncomputable section
abbrev Reg := List UInt8 × Int × Int × Int × Int × UInt8 × Bool
abbrev Spot := Int × Int × Int
theorem from_eq (N : Nat) (a b c : Int) : q20 N (a, b, c) = some (decide (b ≤ a ∧ a ≤ c)) := by
 unfold q20
 rw [cnd_ile]
 by_cases h : b ≤ a
 ·simp [h, ile]
 ·simp [h]
def regChk (r : Reg) : Int :=
 if nm r.1 = false then 5 else
 if ¬ (0 ≤ r.2.1 ∧ r.2.1 ≤ 14) then 2 else
 if ¬ (1 ≤ r.2.2.1 ∧ r.2.2.1 ≤ 15 - r.2.1) then 2 else
 if ¬ (0 ≤ r.2.2.2.1 ∧ r.2.2.2.1 ≤ 31) then 2 else
 if ¬ (1 ≤ r.2.2.2.2.1 ∧ r.2.2.2.2.1 ≤ 32 - r.2.2.2.1) then 2 else
 if ¬ (1 ≤ n8 r.2.2.2.2.2.1 ∧ n8 r.2.2.2.2.2.1 ≤ 3) then 3 else 0
theorem dec_f {p : Prop} [Decidable p] : (decide p = false) = ¬ p := by by_cases h : p <;> simp [h]
theorem region_check (r : Reg) : q21 fuelH r = some (regChk r) := by
 unfold q21 regChk
 rw [lines_name, bnd_some']
 simp only [from_eq, bnd_some', cnd_ite, bnot_t, dec_f, ilt_tt]
 have e1 : n8 (1 : UInt8) = 1 := rfl
 have e3 : n8 (3 : UInt8) = 3 := rfl
 rw [e1, e3]
 by_cases h0 : nm r.1 = false
 ·rw [if_pos h0, if_pos h0]
 rw [if_neg h0, if_neg h0]
 by_cases h1 : 0 ≤ r.2.1 ∧ r.2.1 ≤ 14
 ·rw [if_neg (not_not_intro h1), if_neg (not_not_intro h1)]
  have w1 : w64 (isub 15 r.2.1) = 15 - r.2.1 := by unfold isub; rw [w64_id (by omega)]
  rw [w1]
  by_cases h2 : 1 ≤ r.2.2.1 ∧ r.2.2.1 ≤ 15 - r.2.1
  ·rw [if_neg (not_not_intro h2), if_neg (not_not_intro h2)]
   by_cases h3 : 0 ≤ r.2.2.2.1 ∧ r.2.2.2.1 ≤ 31
   ·rw [if_neg (not_not_intro h3), if_neg (not_not_intro h3)]
    have w2 : w64 (isub 32 r.2.2.2.1) = 32 - r.2.2.2.1 := by unfold isub; rw [w64_id (by omega)]
    rw [w2]
    by_cases h4 : 1 ≤ r.2.2.2.2.1 ∧ r.2.2.2.2.1 ≤ 32 - r.2.2.2.1
    ·rw [if_neg (not_not_intro h4), if_neg (not_not_intro h4)]
     by_cases h5 : n8 r.2.2.2.2.2.1 < 1
     ·rw [if_pos h5, if_pos (by omega)]
     ·rw [if_neg h5]
      by_cases h6 : 3 < n8 r.2.2.2.2.2.1
      ·rw [if_pos h6, if_pos (by omega)]
      ·rw [if_neg h6, if_neg (by omega)]
    ·rw [if_pos h4, if_pos h4]
   ·rw [if_pos h3, if_pos h3]
  ·rw [if_pos h2, if_pos h2]
 ·rw [if_pos h1, if_pos h1]
theorem r10_check (r : Reg) : q74 fuelH r = some (regChk r) := by
 unfold q74 regChk
 rw [r07_name, bnd_some']
 simp only [cnd_ite, bnot_t, ilt_tt, ine_tt]
 by_cases h0 : nm r.1 = false
 ·rw [if_pos h0, if_pos h0]
 rw [if_neg h0, if_neg h0]
 by_cases h1 : 0 ≤ r.2.1 ∧ r.2.1 ≤ 14
 ·rw [if_neg (by omega), if_neg (by omega), if_neg (not_not_intro h1)]
  have w1 : w64 (isub 15 r.2.1) = 15 - r.2.1 := by unfold isub; rw [w64_id (by omega)]
  rw [w1]
  by_cases h2 : 1 ≤ r.2.2.1 ∧ r.2.2.1 ≤ 15 - r.2.1
  ·rw [if_neg (by omega), if_neg (by omega), if_neg (not_not_intro h2)]
   by_cases h3 : 0 ≤ r.2.2.2.1 ∧ r.2.2.2.1 ≤ 31
   ·rw [if_neg (by omega), if_neg (by omega), if_neg (not_not_intro h3)]
    have w2 : w64 (isub 32 r.2.2.2.1) = 32 - r.2.2.2.1 := by unfold isub; rw [w64_id (by omega)]
    rw [w2]
    by_cases h4 : 1 ≤ r.2.2.2.2.1 ∧ r.2.2.2.2.1 ≤ 32 - r.2.2.2.1
    ·rw [if_neg (by omega), if_neg (by omega), if_neg (not_not_intro h4)]
     have e1 : n8 (1 : UInt8) = 1 := rfl
     have e2 : n8 (2 : UInt8) = 2 := rfl
     have e3 : n8 (3 : UInt8) = 3 := rfl
     rw [e1, e2, e3]
     by_cases c1 : n8 r.2.2.2.2.2.1 = 1
     ·rw [if_neg (not_not_intro c1), if_neg (by omega)]
     rw [if_pos c1]
     by_cases c2 : n8 r.2.2.2.2.2.1 = 2
     ·rw [if_neg (not_not_intro c2), if_neg (by omega)]
     rw [if_pos c2]
     by_cases c3 : n8 r.2.2.2.2.2.1 = 3
     ·rw [if_neg (not_not_intro c3), if_neg (by omega)]
     ·rw [if_pos c3, if_pos (by omega)]
    ·rw [if_pos h4]
     by_cases h : r.2.2.2.2.1 < 1
     ·rw [if_pos h]
     ·rw [if_neg h, if_pos (by omega)]
   ·rw [if_pos h3]
    by_cases h : r.2.2.2.1 < 0
    ·rw [if_pos h]
    ·rw [if_neg h, if_pos (by omega)]
  ·rw [if_pos h2]
   by_cases h : r.2.2.1 < 1
   ·rw [if_pos h]
   ·rw [if_neg h, if_pos (by omega)]
 ·rw [if_pos h1]
  by_cases h : r.2.1 < 0
  ·rw [if_pos h]
  ·rw [if_neg h, if_pos (by omega)]
def chkRegs : Option Reg → List Reg → Int
 | _, [] => 0
 | p, r :: l => if regChk r ≠ 0 then regChk r else match p with
  | none => chkRegs (some r) l
  | some q => if r.1 = q.1 then 7 else if slt r.1 q.1 = true then 8 else chkRegs (some r) l
def regsChk (l : List Reg) : Int := if 16 < l.length then 9 else chkRegs none l
def regRnd (p : Option Reg) (r : Reg) : Option Int ⊕ Unit := if regChk r ≠ 0 then .inl (some (regChk r)) else match p with
  | none => .inr ()
  | some q => if r.1 = q.1 then .inl (some 7) else if slt r.1 q.1 = true then .inl (some 8) else .inr ()
theorem itI_regs (l : List Reg) : ∀ (r : List Reg) (i : Nat), l.drop i = r → i ≤ l.length → itI (fun i x (_ : Unit) => regRnd (before l i) x) (fun _ => some (0 : Int)) i r () = some (chkRegs (before l i) r)
 | [], i, _, _ => rfl
 | x :: r, i, h, hi => by
  have hx : l[i]? = some x := by rw [← List.head?_drop, h]; rfl
  have hr : l.drop (i + 1) = r := by rw [← List.drop_drop, h]; rfl
  have hl : i < l.length := (List.getElem?_eq_some_iff.1 hx).1
  simp only [itI, chkRegs, regRnd]
  have e : before l (i + 1) = some x := hx
  have ih := itI_regs l r (i + 1) hr (by omega)
  rw [e] at ih
  by_cases hc : regChk x ≠ 0
  ·rw [if_pos hc, if_pos hc]
  ·rw [if_neg hc, if_neg hc]
   cases before l i with
   | none => exact ih
   | some q =>
    simp only
    by_cases h7 : x.1 = q.1
    ·rw [if_pos h7, if_pos h7]
    ·rw [if_neg h7, if_neg h7]
     by_cases h8 : slt x.1 q.1 = true
     ·rw [if_pos h8, if_pos h8]
     ·rw [if_neg h8, if_neg h8]
      exact ih
theorem region_list (l : List Reg) : q22 fuelH l = some (regsChk l) := by
 unfold q22
 by_cases h : 16 < l.length
 ·rw [cnd_t (ilt_t (by simp only [len]; omega))]; simp [regsChk, h]
 ·rw [cnd_f (ilt_f (by simp only [len]; omega)), jn_e]
  refine Eq.trans (lst_it (l := l) (fun (_ : Unit) (p : Nat) => (p : Int)) (fun i x (_ : Unit) => regRnd (before l i) x) (fun _ => some (0 : Int)) (fun _ _ => True) (fun self a i hi _ => ?_) (fun self a _ => ?_) fuelH 0 () (Nat.zero_le _) (by have := fuelH_eq; omega) trivial) ?_
  ·rw [cnd_t (ilt_t (by simp only [len]; omega)), grd_t (inb_t (by simp only [len]; omega)), lget_i hi, bnd_s (region_check _)]
   unfold regRnd
   by_cases hc : regChk l[i] ≠ 0
   ·rw [if_pos hc, cnd_t (ine_t hc)]; rfl
   ·rw [if_neg hc, cnd_f (ine_f (by simpa using hc)), jn_e, w64_succ hi (by omega)]
    cases i with
    | zero =>
     rw [cnd_f (by rfl), cnd_f (by rfl)]
     exact ⟨rfl, trivial⟩
    | succ i =>
     have e0 : before l (i + 1) = some l[i] := by simp only [before]; exact List.getElem?_eq_getElem (by omega)
     have hin : inb ((i : Nat) : Int) (len l) = true := inb_t (by simp only [len]; omega)
     have hp : ilt (0 : Int) ((i + 1 : Nat) : Int) = true := ilt_t (by omega)
     rw [e0, cnd_t hp, w64_back (by omega), grd_t hin, lget_i (show i < l.length by omega), cnd_t hp, grd_t hin]
     simp only
     by_cases h7 : l[i + 1].1 = l[i].1
     ·rw [if_pos h7, cnd_t (by rw [seq_t]; exact h7)]; rfl
     ·rw [if_neg h7, cnd_f (by rw [← Bool.not_eq_true, seq_t]; exact h7)]
      by_cases h8 : slt l[i + 1].1 l[i].1 = true
      ·rw [if_pos h8, cnd_t h8]; rfl
      ·rw [if_neg h8, cnd_f (by simpa using h8)]
       exact ⟨rfl, trivial⟩
  ·rw [cnd_f (ilt_f (by simp only [len]; omega))]
  ·rw [List.drop_zero, itI_regs l l 0 rfl (Nat.zero_le _)]
   simp [regsChk, h, before]
theorem r10_list (l : List Reg) : q75 fuelH l = some (regsChk l) := by
 rw [← region_list]
 have e : q74 fuelH = q21 fuelH := funext fun r => by rw [r10_check, region_check]
 unfold q75 q22
 rw [e]
def defR : Reg := ([], 11, 4, 0, 32, 2, true)
def noR : Reg := ([], 0, 0, 0, 0, 0, false)
def findR (l : List Reg) (n : List UInt8) : Option Reg := if n = [] then some defR else l.find? fun r => decide (r.1 = n)
def findP (l : List Reg) (n : List UInt8) : Reg × Bool := match findR l n with
 | some r => (r, true)
 | none => (noR, false)
theorem itI_find (n : List UInt8) : ∀ (l : List Reg) (i : Nat), itI (fun _ (x : Reg) (_ : Unit) => if x.1 = n then (.inl (some (x, true)) : Option (Reg × Bool) ⊕ Unit) else .inr ()) (fun _ => some (noR, false)) i l () = some (match l.find? fun r => decide (r.1 = n) with | some r => (r, true) | none => (noR, false))
 | [], _ => rfl
 | x :: l, i => by
  simp only [itI, List.find?_cons]
  by_cases h : x.1 = n
  ·rw [if_pos h, decide_eq_true h]
  ·rw [if_neg h, decide_eq_false h]
   exact itI_find n l (i + 1)
theorem region_find (l : List Reg) (hl : l.length ≤ 4000000) (n : List UInt8) : q24 fuelH (l, n) = some (findP l n) := by
 unfold q24 findP findR
 simp only
 by_cases h : n = []
 ·rw [cnd_t (by rw [seq_t]; exact h), if_pos h]; rfl
 ·rw [cnd_f (by rw [← Bool.not_eq_true, seq_t]; exact h), if_neg h, jn_e]
  refine Eq.trans (lst_it (l := l) (fun (_ : Unit) (p : Nat) => (p : Int)) (fun _ (x : Reg) (_ : Unit) => if x.1 = n then .inl (some (x, true)) else .inr ()) (fun _ => some (noR, false)) (fun _ _ => True) (fun self a i hi _ => ?_) (fun self a _ => ?_) fuelH 0 () (Nat.zero_le _) (by have := fuelH_eq; omega) trivial) (itI_find n l 0)
  ·have hin : inb (i : Int) (len l) = true := inb_t (by simp only [len]; omega)
   rw [cnd_t (ilt_t (by simp only [len]; omega)), grd_t hin, lget_i hi]
   by_cases hc : l[i].1 = n
   ·rw [if_pos hc, cnd_t (by rw [seq_t]; exact hc)]; rfl
   ·rw [if_neg hc, cnd_f (by rw [← Bool.not_eq_true, seq_t]; exact hc), w64_succ hi (by omega)]
    exact ⟨rfl, trivial⟩
  ·rw [cnd_f (ilt_f (by simp only [len]; omega))]
   rfl
theorem r10_find : r10_Find fuelH = q24 fuelH := by kernel_rfl
end
end Go.Mo
end
section
/-
 Plain facts: the places of rows.
-/
namespace Go.Mo
open Go Go.W Go.Lib
set_option maxRecDepth 100000
noncomputable section
def usableR (r : Reg) : Prop := r = defR ∨ regChk r = 0
instance (r : Reg) : Decidable (usableR r) := by unfold usableR; infer_instance
theorem reg_eq {a b : Reg} : (a = b) = (a.1 = b.1 ∧ a.2.1 = b.2.1 ∧ a.2.2.1 = b.2.2.1 ∧ a.2.2.2.1 = b.2.2.2.1 ∧ a.2.2.2.2.1 = b.2.2.2.2.1 ∧ a.2.2.2.2.2.1 = b.2.2.2.2.2.1 ∧ a.2.2.2.2.2.2 = b.2.2.2.2.2.2) := by
 obtain ⟨a1, a2, a3, a4, a5, a6, a7⟩ := a; obtain ⟨b1, b2, b3, b4, b5, b6, b7⟩ := b; simp
theorem def_band (x : Reg) : (band (seq x.1 defR.1) (band (ieq x.2.1 defR.2.1) (band (ieq x.2.2.1 defR.2.2.1) (band (ieq x.2.2.2.1 defR.2.2.2.1) (band (ieq x.2.2.2.2.1 defR.2.2.2.2.1) (band (ieq (n8 x.2.2.2.2.2.1) (n8 defR.2.2.2.2.2.1)) (beqb x.2.2.2.2.2.2 defR.2.2.2.2.2.2)))))) = true) = (x = defR) := by
 simp only [band_tt, seq_t, ieq_tt, beqb_t, n8_eq]
 exact reg_eq.symm
theorem region_usable_eq (r : Reg) : q38 fuelH r = some (decide (usableR r)) := by
 unfold q38
 rw [bnd_s (show q23 fuelH () = some defR from rfl), region_check, bnd_some']
 by_cases h : r = defR
 ·rw [cnd_t ((def_band r).mpr h), @decide_eq_true (usableR r) _ (.inl h)]
 ·rw [cnd_f (by rw [← Bool.not_eq_true]; exact fun k => h ((def_band r).mp k))]
  congr 1
  by_cases h2 : regChk r = 0
  ·rw [ieq_t h2, @decide_eq_true (usableR r) _ (.inr h2)]
  ·rw [ieq_f h2, @decide_eq_false (usableR r) _ (fun k => k.elim h h2)]
theorem r10_usable_eq (r : Reg) : q82 fuelH r = some (decide (usableR r)) := by
 unfold q82
 rw [bnd_s (show q77 fuelH () = some defR from rfl), r10_check, bnd_some']
 by_cases h2 : regChk r = 0
 ·rw [cnd_t (ieq_t h2), @decide_eq_true (usableR r) _ (.inr h2)]
 ·rw [cnd_f (ieq_f h2)]
  congr 1
  have hd := def_band r
  by_cases h : r = defR
  ·rw [@decide_eq_true (usableR r) _ (.inl h)]
   exact hd.mpr h
  ·rw [@decide_eq_false (usableR r) _ (fun k => k.elim h h2), ← Bool.not_eq_true]
   exact fun k => h (hd.mp k)
theorem usable_bd {r : Reg} (h : usableR r) : 0 ≤ r.2.1 ∧ 1 ≤ r.2.2.1 ∧ r.2.1 + r.2.2.1 ≤ 15 ∧ 0 ≤ r.2.2.2.1 ∧ 1 ≤ r.2.2.2.2.1 ∧ r.2.2.2.1 + r.2.2.2.2.1 ≤ 32 ∧ 1 ≤ n8 r.2.2.2.2.2.1 ∧ n8 r.2.2.2.2.2.1 ≤ 3 := by
 rcases h with rfl | h
 ·decide
 ·unfold regChk at h
  split at h
  ·cases h
  split at h
  ·cases h
  split at h
  ·cases h
  split at h
  ·cases h
  split at h
  ·cases h
  split at h
  ·cases h
  omega
def colOf (r : Reg) (n : Int) : Int := if n8 r.2.2.2.2.2.1 = 3 then r.2.2.2.1 + (r.2.2.2.2.1 - n) else if n8 r.2.2.2.2.2.1 = 2 then r.2.2.2.1 + (r.2.2.2.2.1 - n).tdiv 2 else r.2.2.2.1
def topOf (r : Reg) (k : Nat) : Int := if r.2.2.2.2.2.2 = true then r.2.1 + (r.2.2.1 - (k : Int)) else r.2.1
def plRnd (r : Reg) (k : Nat) (i : Nat) (n : Int) (out : List Spot) : Option (List Spot × Int) ⊕ List Spot :=
 if n < 0 then .inl (some ([], 2)) else if r.2.2.2.2.1 < n then .inl (some ([], 11)) else .inr (out ++ [(topOf r k + (i : Int), colOf r n, n)])
def placeL (r : Reg) (k : Nat) : Nat → List Int → List Spot → List Spot × Int
 | _, [], out => (out, 0)
 | i, n :: l, out => if n < 0 then ([], 2) else if r.2.2.2.2.1 < n then ([], 11) else placeL r k (i + 1) l (out ++ [(topOf r k + (i : Int), colOf r n, n)])
def placeS (r : Reg) (l : List Int) : List Spot × Int := if ¬ usableR r then ([], 1) else if r.2.2.1 < (l.length : Int) then ([], 9) else placeL r l.length 0 l []
theorem itI_place (r : Reg) (k : Nat) : ∀ (l : List Int) (i : Nat) (out : List Spot), itI (plRnd r k) (fun a => some (a, (0 : Int))) i l out = some (placeL r k i l out)
 | [], i, out => rfl
 | n :: l, i, out => by
  simp only [itI, placeL, plRnd]
  by_cases h1 : n < 0
  ·rw [if_pos h1, if_pos h1]
  ·rw [if_neg h1, if_neg h1]
   by_cases h2 : r.2.2.2.2.1 < n
   ·rw [if_pos h2, if_pos h2]
   ·rw [if_neg h2, if_neg h2]
    exact itI_place r k l (i + 1) _
theorem jn_cnd {α β : Type} (K : α → Option β) (b : Bool) (x y : α) : jn K (fun v => cnd b (v x) (v y)) = K (if b = true then x else y) := by
 rw [jn_e]; cases b <;> rfl
theorem half_bd {x : Int} (h : 0 ≤ x) : 0 ≤ x.tdiv 2 ∧ x.tdiv 2 ≤ x := by
 rw [Int.tdiv_eq_ediv_of_nonneg h]; omega
theorem spot_w {r : Reg} (hu : usableR r) {k i : Nat} {n : Int} (hk : (k : Int) ≤ r.2.2.1) (hi : i < k) (h0 : 0 ≤ n) (hn : n ≤ r.2.2.2.2.1) :
  w64 (iadd (topOf r k) (i : Int)) = topOf r k + (i : Int) ∧ w64 (isub r.2.2.2.2.1 n) = r.2.2.2.2.1 - n ∧ w64 (iadd r.2.2.2.1 (r.2.2.2.2.1 - n)) = r.2.2.2.1 + (r.2.2.2.2.1 - n) ∧ w64 (idiv (r.2.2.2.2.1 - n) 2) = (r.2.2.2.2.1 - n).tdiv 2 ∧ w64 (iadd r.2.2.2.1 ((r.2.2.2.2.1 - n).tdiv 2)) = r.2.2.2.1 + (r.2.2.2.2.1 - n).tdiv 2 := by
 have hb := usable_bd hu
 have hd := half_bd (x := r.2.2.2.2.1 - n) (by omega)
 refine ⟨?_, ?_, ?_, ?_, ?_⟩
 ·unfold iadd topOf
  rw [w64_id]
  split <;> omega
 ·unfold isub; rw [w64_id (by omega)]
 ·unfold iadd; rw [w64_id (by omega)]
 ·unfold idiv; rw [w64_id (by omega)]
 ·unfold iadd; rw [w64_id (by omega)]
theorem region_place (r : Reg) (l : List Int) : q39 fuelH (r, l) = some (placeS r l) := by
 unfold q39 placeS
 simp only
 rw [region_usable_eq, bnd_some', cnd_bnot]
 by_cases hu : usableR r
 ·rw [if_pos hu, if_neg (not_not_intro hu)]
  have hb := usable_bd hu
  by_cases hk : r.2.2.1 < (l.length : Int)
  ·rw [cnd_t (ilt_t (show r.2.2.1 < len l from hk)), if_pos hk]
  ·rw [cnd_f (ilt_f (show ¬ r.2.2.1 < len l from hk)), if_neg hk, jn_cnd]
   have et : (if r.2.2.2.2.2.2 = true then w64 (iadd r.2.1 (w64 (isub r.2.2.1 (len l)))) else r.2.1) = topOf r l.length := by
    unfold topOf
    have e1 : w64 (isub r.2.2.1 (len l)) = r.2.2.1 - (l.length : Int) := by unfold isub len; rw [w64_id (by omega)]
    rw [e1]
    unfold iadd
    rw [w64_id (by omega)]
   rw [et, jn_e]
   refine Eq.trans (lst_it (l := l) (fun (a : List Spot) (p : Nat) => (a, (p : Int))) (plRnd r l.length) (fun a => some (a, (0 : Int))) (fun i a => a.length ≤ i) (fun self a i hi ha => ?_) (fun self a _ => ?_) fuelH 0 [] (Nat.zero_le _) (by have := fuelH_eq; omega) (Nat.le_refl _)) (itI_place r l.length l 0 [])
   ·have hin : inb (i : Int) (len l) = true := inb_t (by simp only [len]; omega)
    simp only
    rw [cnd_t (ilt_t (by simp only [len]; omega)), grd_t hin, lget_i hi, w64_succ hi (by omega)]
    unfold plRnd
    by_cases h1 : l[i] < 0
    ·rw [if_pos h1, cnd_t (ilt_t h1)]; rfl
    ·rw [if_neg h1, cnd_f (ilt_f h1)]
     by_cases h2 : r.2.2.2.2.1 < l[i]
     ·rw [if_pos h2, cnd_t (ilt_t h2)]; rfl
     ·rw [if_neg h2, cnd_f (ilt_f h2)]
      obtain ⟨q1, q2, q3, q4, q5⟩ := spot_w hu (k := l.length) (i := i) (n := l[i]) (by omega) hi (by omega) (by omega)
      have hroom : ∀ s : Spot, room (iadd (len a) (len [s])) 24 = true := fun s => room_t (by simp only [iadd, len, List.length_singleton]; omega)
      rw [q1, q2, q3, q4, q5]
      rw [grd_t (hroom _), grd_t (hroom _), grd_t (hroom _)]
      refine ⟨?_, by simp only [List.length_append, List.length_singleton]; omega⟩
      unfold colOf
      have e3 : n8 (3 : UInt8) = 3 := rfl
      have e2 : n8 (2 : UInt8) = 2 := rfl
      rw [cnd_ieq, cnd_ieq, e3, e2]
      by_cases c3 : n8 r.2.2.2.2.2.1 = 3
      ·rw [if_pos c3, if_pos c3]; rfl
      ·rw [if_neg c3, if_neg c3]
       by_cases c2 : n8 r.2.2.2.2.2.1 = 2
       ·rw [if_pos c2, if_pos c2]; rfl
       ·rw [if_neg c2, if_neg c2]; rfl
   ·simp only
    rw [cnd_f (ilt_f (by simp only [len]; omega))]
 ·rw [if_neg hu, if_pos hu]
theorem r10_place (r : Reg) (l : List Int) : q83 fuelH (r, l) = some (placeS r l) := by
 unfold q83 placeS
 simp only
 rw [r10_usable_eq, bnd_some', cnd_bnot]
 by_cases hu : usableR r
 ·rw [if_pos hu, if_neg (not_not_intro hu)]
  have hb := usable_bd hu
  by_cases hk : r.2.2.1 < (l.length : Int)
  ·rw [cnd_t (ilt_t (show r.2.2.1 < len l from hk)), if_pos hk]
  ·rw [cnd_f (ilt_f (show ¬ r.2.2.1 < len l from hk)), if_neg hk, jn_e]
   refine Eq.trans (lst_it (l := l) (fun (a : List Spot) (p : Nat) => (a, (p : Int))) (plRnd r l.length) (fun a => some (a, (0 : Int))) (fun i a => a.length ≤ i) (fun self a i hi ha => ?_) (fun self a _ => ?_) fuelH 0 [] (Nat.zero_le _) (by have := fuelH_eq; omega) (Nat.le_refl _)) (itI_place r l.length l 0 [])
   ·have hin : inb (i : Int) (len l) = true := inb_t (by simp only [len]; omega)
    simp only
    rw [cnd_t (ilt_t (by simp only [len]; omega)), grd_t hin, lget_i hi, w64_succ hi (by omega)]
    unfold plRnd
    by_cases h1 : l[i] < 0
    ·rw [if_pos h1, cnd_t (ilt_t h1)]; rfl
    ·rw [if_neg h1, cnd_f (ilt_f h1)]
     by_cases h2 : r.2.2.2.2.1 < l[i]
     ·rw [if_pos h2, cnd_t (ilt_t h2)]; rfl
     ·rw [if_neg h2, cnd_f (ilt_f h2), jn_cnd]
      obtain ⟨q1, q2, q3, q4, q5⟩ := spot_w hu (k := l.length) (i := i) (n := l[i]) (by omega) hi (by omega) (by omega)
      have et : (if r.2.2.2.2.2.2 = true then (w64 (iadd (w64 (iadd r.2.1 (i : Int))) (w64 (isub r.2.2.1 (len l)))), r.2.2.2.1, l[i]) else (w64 (iadd r.2.1 (i : Int)), r.2.2.2.1, l[i])) = ((topOf r l.length + (i : Int), r.2.2.2.1, l[i]) : Spot) := by
       have e1 : w64 (isub r.2.2.1 (len l)) = r.2.2.1 - (l.length : Int) := by unfold isub len; rw [w64_id (by omega)]
       have e2 : w64 (iadd r.2.1 (i : Int)) = r.2.1 + (i : Int) := by unfold iadd; rw [w64_id (by omega)]
       have e3 : w64 (iadd (r.2.1 + (i : Int)) (r.2.2.1 - (l.length : Int))) = r.2.1 + (r.2.2.1 - (l.length : Int)) + (i : Int) := by unfold iadd; rw [w64_id (by omega)]; omega
       rw [e1, e2, e3]
       unfold topOf
       split <;> rfl
      rw [et]
      simp only
      have hroom : ∀ s : Spot, room (iadd (len a) (len [s])) 24 = true := fun s => room_t (by simp only [iadd, len, List.length_singleton]; omega)
      rw [q2, q3, q4, q5]
      rw [grd_t (hroom _), grd_t (hroom _), grd_t (hroom _)]
      refine ⟨?_, by simp only [List.length_append, List.length_singleton]; omega⟩
      unfold colOf
      have e3 : n8 (3 : UInt8) = 3 := rfl
      have e2 : n8 (2 : UInt8) = 2 := rfl
      rw [cnd_ieq, cnd_ieq, e3, e2]
      by_cases c3 : n8 r.2.2.2.2.2.1 = 3
      ·rw [if_pos c3, if_pos c3]; rfl
      ·rw [if_neg c3, if_neg c3]
       by_cases c2 : n8 r.2.2.2.2.2.1 = 2
       ·rw [if_pos c2, if_pos c2]; rfl
       ·rw [if_neg c2, if_neg c2]; rfl
   ·simp only
    rw [cnd_f (ilt_f (by simp only [len]; omega))]
 ·rw [if_neg hu, if_pos hu]
end
end Go.Mo
end
section
/-
 Plain facts: the text and the length of a row; events and their check.
-/
namespace Go.Mo
open Go Go.W Go.Lib
set_option maxRecDepth 100000
noncomputable section
abbrev Ev := Int × (Int × Int) × List UInt8 × UInt8 × List UInt8 × List Row
theorem rune_count {s : List UInt8} (hs : s.length ≤ 4000000) : q33 fuelH s = some ((rns s).length : Int) := by
 unfold q33
 rw [jn_e]
 have hf : ∀ (l : List Int) (n : Nat), n + l.length ≤ 100000000 → foldR (fun (_ : Int) (a : Int) self => self (w64 (iadd a 1))) (fun a => some a) l (n : Int) = some ((n + l.length : Nat) : Int) := by
  intro l
  induction l with
  | nil => intro n _; rfl
  | cons r l ih =>
   intro n hn
   simp only [List.length_cons] at hn
   simp only [foldR]
   rw [w64_succ (show n < n + 1 by omega) (by omega), ih (n + 1) (by omega)]
   simp only [List.length_cons]
   congr 2
   omega
 refine (str_loop (s := s) (fun (a : Int) (p : Nat) => (a, s, ofN p)) (fun _ a self => self (w64 (iadd a 1))) (fun a => some a) (fun self a p hp => ?_) (fun self a p hp => ?_) fuelH 0 (0 : Int) (by have := fuelH_eq; omega)).trans ?_
 ·simp only [toN_ofN]
  rw [cnd_t (nlt_t (show p < nlen s from hp))]
  rfl
 ·simp only [toN_ofN]
  rw [cnd_f (nlt_f (show ¬ p < nlen s by unfold nlen; omega))]
 ·have := rns_len _ s (Nat.le_refl _)
  have h := hf (rns s) 0 (by omega)
  rw [List.drop_zero]
  simpa using h
theorem ch_len {s : List UInt8} (hs : s.length ≤ 4000000) (hv : vld s = true) : q34 fuelH s = some ((rns s).length : Int) := by
 unfold q34
 rw [ch_valid _ hs, bnd_some', hv, cnd_f (by rfl), rune_count hs]
 rfl
theorem r08_len {s : List UInt8} (hs : s.length ≤ 4000000) (hv : vld s = true) : r08_Len fuelH s = some ((rns s).length : Int) := by
 unfold r08_Len
 rw [r08_valid _ hs, bnd_some', hv, cnd_f (by rfl), r08_runes_eq hs]
 rfl
def lenT : Row → Nat
 | [] => 0
 | x :: l => (rns x.1).length + lenT l
def plainT (l : Row) : List UInt8 := l.flatMap (·.1)
def okR (l : Row) : Prop := l.length ≤ 16 ∧ (∀ x ∈ l, vld x.1 = true ∧ x.1.length ≤ 4000000) ∧ tot l ≤ 4000000
def smallR (l : Row) : Prop := shortR l ∧ tot l ≤ 4000000
def smallL (l : List Row) : Prop := ∀ r ∈ l, smallR r
theorem okR_of {l : Row} (hs : smallR l) (h : rowChk l = 0) : okR l := by
 obtain ⟨h1, h2⟩ := rowChk_ok h
 exact ⟨h1, fun x hx => ⟨(h2 x hx).1, (hs.1 x hx).1⟩, hs.2⟩
theorem lenT_le : ∀ (l : Row), (∀ x ∈ l, x.1.length ≤ 4000000) → lenT l ≤ 4000000 * l.length
 | [], _ => Nat.le_refl _
 | x :: l, h => by
  have h1 := rns_len _ x.1 (Nat.le_refl _)
  have h2 := h x List.mem_cons_self
  have h3 := lenT_le l fun y hy => h y (List.mem_cons_of_mem _ hy)
  simp only [lenT, List.length_cons]
  omega
theorem lenT_take : ∀ (l : Row) (i : Nat) (h : i < l.length), lenT (l.take (i + 1)) = lenT (l.take i) + (rns l[i].1).length
 | x :: l, 0, _ => by simp [lenT]
 | x :: l, i + 1, h => by
  have := lenT_take l i (by simpa using h)
  simp only [List.take_succ_cons, lenT, this, List.getElem_cons_succ]
  omega
theorem lenT_take_le (l : Row) (i : Nat) : lenT (l.take i) ≤ lenT l := by
 induction l generalizing i with
 | nil => simp [lenT]
 | cons x l ih => cases i with
  | zero => simp [lenT]
  | succ i => simp only [List.take_succ_cons, lenT]; have := ih i; omega
theorem len_loop {l : Row} (h : okR l) (L : List UInt8 → Option Int) (hL : ∀ s : List UInt8, s.length ≤ 4000000 → vld s = true → L s = some ((rns s).length : Int)) :
  fixN (fun (v2 : Int × Int → Option Int) (v3 : Int × Int) =>
  cnd (ilt v3.2 (len l))
   (grd (inb v3.2 (len l))
    (bnd (L (lget l (toN v3.2) ([], (((0 : UInt8), (false, false)), []))).1) fun v4 =>
    cnd (ilt v4 (0 : Int))
     (some (-1 : Int))
     (v2 (w64 (iadd v3.1 v4), w64 (iadd v3.2 (1 : Int))))))
   (some v3.1)) fuelH ((0 : Int), (0 : Int)) = some (lenT l : Int) := by
 have hb := lenT_le l fun x hx => (h.2.1 x hx).2
 have hl := h.1
 refine loop_inv (n := l.length) (fun (a : Nat) (i : Nat) => ((a : Int), (i : Int))) (fun i a => a = lenT (l.take i)) _ (fun self a i hi hI => ?_) (fun self a hI => ?_) fuelH 0 0 (Nat.zero_le _) (by have := fuelH_eq; omega) rfl
 ·refine ⟨a + (rns l[i].1).length, ?_, ?_⟩
  ·have ht := lenT_take l i hi
   have ht2 := lenT_take_le l (i + 1)
   simp only
   rw [cnd_t (ilt_t (by simp only [len]; omega)), grd_t (inb_t (by simp only [len]; omega)), lget_i hi, hL _ (h.2.1 _ (List.getElem_mem hi)).2 (h.2.1 _ (List.getElem_mem hi)).1, bnd_some', cnd_f (ilt_f (by omega)), w64_succ hi (by omega)]
   have e : w64 (iadd (a : Int) ((rns l[i].1).length : Int)) = ((a + (rns l[i].1).length : Nat) : Int) := by
    unfold iadd; rw [w64_id (by omega)]; omega
   rw [e]
  ·rw [lenT_take l i hi, hI]
 ·simp only
  rw [cnd_f (ilt_f (by simp only [len]; omega)), hI, List.take_length]
theorem style_len {l : Row} (h : okR l) : q35 fuelH l = some (lenT l : Int) := by
 unfold q35
 rw [jn_e]
 exact len_loop h (q34 fuelH) fun s => ch_len
theorem r09_len {l : Row} (h : okR l) : r09_Len fuelH l = some (lenT l : Int) := by
 unfold r09_Len
 rw [jn_e]
 exact len_loop h (r08_Len fuelH) fun s => r08_len
theorem plainT_take (l : Row) (i : Nat) (h : i < l.length) : plainT (l.take (i + 1)) = plainT (l.take i) ++ l[i].1 := by
 unfold plainT
 rw [List.take_succ_eq_append_getElem h, List.flatMap_append]
 simp
theorem plainT_len : ∀ (l : Row), (plainT l).length = tot l
 | [] => rfl
 | x :: l => by
  have h3 := plainT_len l
  unfold plainT at h3 ⊢
  simp only [List.flatMap_cons, List.length_append, tot, h3]
theorem tot_take (l : Row) (i : Nat) : tot (l.take i) ≤ tot l := by
 have h := tot_app (l.take i) (l.drop i)
 rw [List.take_append_drop] at h
 omega
theorem plainT_le {l : Row} (h : okR l) (i : Nat) : (plainT (l.take i)).length ≤ 4000000 := by
 rw [plainT_len]
 have := tot_take l i
 have := h.2.2
 omega
theorem write_str {N : Nat} {a b : List UInt8} (h : a.length + b.length ≤ 100000000) : q31 N (((), a), b) = some ((b.length : Int), false, (), a ++ b) := by
 unfold q31
 show (grd (room (iadd (len a) (len b)) 1) (some (len b, false, (), lapp a b))) = _
 rw [grd_t (room_t (by simp only [iadd, len]; omega))]
 rfl
theorem style_plain {l : Row} (h : okR l) : q32 fuelH l = some (plainT l) := by
 unfold q32
 rw [jn_e]
 have hl := h.1
 refine loop_inv (n := l.length) (fun (a : List UInt8) (i : Nat) => ((i : Int), (), a)) (fun i a => a = plainT (l.take i)) _ (fun self a i hi hI => ?_) (fun self a hI => ?_) fuelH 0 [] (Nat.zero_le _) (by have := fuelH_eq; omega) rfl
 ·refine ⟨a ++ l[i].1, ?_, ?_⟩
  ·have h1 := plainT_le h i
   have h2 := (h.2.1 _ (List.getElem_mem hi)).2
   simp only
   rw [cnd_t (ilt_t (by simp only [len]; omega)), grd_t (inb_t (by simp only [len]; omega)), lget_i hi, write_str (by rw [hI]; omega), bnd_some', w64_succ hi (by omega)]
  ·rw [plainT_take l i hi, hI]
 ·simp only
  rw [cnd_f (ilt_f (by simp only [len]; omega)), hI, List.take_length]
theorem r09_plain {l : Row} (h : okR l) : q80 fuelH l = some (plainT l) := by
 unfold q80
 rw [jn_e]
 have hl := h.1
 refine loop_inv (n := l.length) (fun (a : List UInt8) (i : Nat) => (a, (i : Int))) (fun i a => a = plainT (l.take i)) _ (fun self a i hi hI => ?_) (fun self a hI => ?_) fuelH 0 [] (Nat.zero_le _) (by have := fuelH_eq; omega) rfl
 ·refine ⟨a ++ l[i].1, ?_, ?_⟩
  ·have h1 := plainT_le h i
   have h2 := (h.2.1 _ (List.getElem_mem hi)).2
   simp only
   rw [cnd_t (ilt_t (by simp only [len]; omega)), grd_t (inb_t (by simp only [len]; omega)), lget_i hi, grd_t (catOk_t (by rw [hI]; simp only [iadd, len]; omega)), w64_succ hi (by omega)]
   rfl
  ·rw [plainT_take l i hi, hI]
 ·simp only
  rw [cnd_f (ilt_f (by simp only [len]; omega)), hI, List.take_length]
def sp2 : List UInt8 → Bool
 | [] => false
 | [_] => false
 | a :: b :: t => ([32, 32] : List UInt8).isPrefixOf (a :: b :: t) || sp2 (b :: t)
theorem sp2_index : ∀ t : List UInt8, decide (0 ≤ index t [32, 32]) = sp2 t
 | [] => rfl
 | [a] => by
  have e : index [a] [32, 32] = if ([32, 32] : List UInt8).isPrefixOf [a] = true then 0 else if (index [] [32, 32] == -1) = true then -1 else index [] [32, 32] + 1 := rfl
  have hp : ([32, 32] : List UInt8).isPrefixOf [a] = false := by cases h : ((32 : UInt8) == a) <;> simp [List.isPrefixOf, h]
  rw [e, hp]
  rfl
 | a :: b :: t => by
  have ih := sp2_index (b :: t)
  have hg := index_ge (b :: t) [32, 32]
  have e : index (a :: b :: t) [32, 32] = if ([32, 32] : List UInt8).isPrefixOf (a :: b :: t) = true then 0 else if (index (b :: t) [32, 32] == -1) = true then -1 else index (b :: t) [32, 32] + 1 := rfl
  have e2 : sp2 (a :: b :: t) = (([32, 32] : List UInt8).isPrefixOf (a :: b :: t) || sp2 (b :: t)) := rfl
  rw [e, e2, ← ih]
  generalize index (b :: t) [32, 32] = m at hg ⊢
  cases ([32, 32] : List UInt8).isPrefixOf (a :: b :: t) with
  | true => rfl
  | false =>
   rw [if_neg (by decide), Bool.false_or]
   by_cases h1 : m = -1
   ·subst h1; rfl
   ·rw [if_neg (by simpa using h1), decide_eq_true (by omega), decide_eq_true (by omega)]
theorem sp2_contains (t : List UInt8) : contains t [32, 32] = sp2 t := sp2_index t
def neatT (t : List UInt8) : Bool := if t = [] then false else if n8 (lget t (toN (0 : Int)) 0) = n8 (32 : UInt8) then false else if n8 (lget t (toN (w64 (isub (len t) 1))) 0) = n8 (32 : UInt8) then false else !sp2 t
theorem sp2_step {t : List UInt8} {i : Nat} (h : i + 1 < t.length) : sp2 (t.drop i) = (((32 == t[i]) && ((32 == t[i + 1]) && true)) || sp2 (t.drop (i + 1))) := by
 rw [List.drop_eq_getElem_cons (show i < t.length by omega), List.drop_eq_getElem_cons h]
 rfl
theorem beq_n {a : UInt8} (h : ¬ n8 a = n8 (32 : UInt8)) : ((32 : UInt8) == a) = false := by
 rw [beq_eq_false_iff_ne]; intro e; exact h (by rw [← e])
theorem beq_y {a : UInt8} (h : n8 a = n8 (32 : UInt8)) : ((32 : UInt8) == a) = true := by
 rw [n8_inj h]; rfl
theorem neat_loop {t : List UInt8} (ht : t.length ≤ 100000000) : ∀ (fuel i : Nat), t.length - (i + 1) < fuel → i + 1 ≤ t.length →
  fixN (fun (v2 : Int → Option Bool) (v3 : Int) =>
       cnd (ilt v3 (len t))
        (grd (inb v3 (len t))
         (cnd (ieq (n8 (lget t (toN v3) (0 : UInt8))) (n8 (32 : UInt8)))
          (grd (inb (w64 (isub v3 (1 : Int))) (len t))
           (cnd (ieq (n8 (lget t (toN (w64 (isub v3 (1 : Int)))) (0 : UInt8))) (n8 (32 : UInt8)))
            (some false)
            (v2 (w64 (iadd v3 (1 : Int))))))
          (v2 (w64 (iadd v3 (1 : Int))))))
        (some true)) fuel ((i + 1 : Nat) : Int) = some (!sp2 (t.drop i))
 | 0, i, h, _ => by omega
 | fuel + 1, i, h, hi => by
  rw [fixN_s]
  by_cases hl : i + 1 < t.length
  ·have h0 : inb ((i : Nat) : Int) (len t) = true := inb_t (by simp only [len]; omega)
   rw [cnd_t (ilt_t (by simp only [len]; omega)), grd_t (inb_t (by simp only [len]; omega)), lget_i hl, w64_succ hl (by omega), w64_back (by omega), grd_t h0, lget_i (show i < t.length by omega), sp2_step hl, neat_loop ht fuel (i + 1) (by omega) (by omega), cnd_ieq, cnd_ieq]
   by_cases c1 : n8 t[i + 1] = n8 (32 : UInt8)
   ·rw [if_pos c1, beq_y c1]
    by_cases c2 : n8 t[i] = n8 (32 : UInt8)
    ·rw [if_pos c2, beq_y c2]; rfl
    ·rw [if_neg c2, beq_n c2]; rfl
   ·rw [if_neg c1, beq_n c1]; simp
  ·rw [cnd_f (ilt_f (by simp only [len]; omega))]
   have : t.drop i = [t[i]] := by
    rw [List.drop_eq_getElem_cons (show i < t.length by omega), List.drop_eq_nil_of_le (by omega)]
   rw [this]
   rfl
theorem r11_neat_eq {t : List UInt8} (ht : t.length ≤ 4000000) : r11_neat fuelH t = some (neatT t) := by
 unfold r11_neat neatT
 by_cases h0 : t = []
 ·rw [cnd_t (by rw [seq_t]; exact h0), if_pos h0]
 ·have hl : 0 < t.length := List.length_pos_iff.2 h0
  have e1 : w64 (isub (len t) 1) = ((t.length - 1 : Nat) : Int) := w64_pred hl (by omega)
  have hin : inb (w64 (isub (len t) 1)) (len t) = true := by rw [e1]; exact inb_t (by simp only [len]; omega)
  rw [cnd_f (by rw [← Bool.not_eq_true, seq_t]; exact h0), if_neg h0, grd_t (inb_t (by simp only [len]; omega)), cnd_ieq]
  by_cases h1 : n8 (lget t (toN (0 : Int)) 0) = n8 (32 : UInt8)
  ·rw [if_pos h1, if_pos h1]
  ·rw [if_neg h1, if_neg h1, grd_t hin, cnd_ieq]
   by_cases h2 : n8 (lget t (toN (w64 (isub (len t) 1))) 0) = n8 (32 : UInt8)
   ·rw [if_pos h2, if_pos h2]
   ·rw [if_neg h2, if_neg h2, jn_e]
    exact neat_loop (by omega) fuelH 0 (by have := fuelH_eq; omega) hl
def rowE (l : Row) : Int := if rowChk l ≠ 0 then rowChk l else if neatT (plainT l) = false then 4 else if 32 < lenT l then 11 else 0
theorem event_row_eq {l : Row} (hs : smallR l) : q36 fuelH l = some (rowE l) := by
 unfold q36 rowE
 rw [bnd_s (style_check hs.1)]
 by_cases hk : rowChk l ≠ 0
 ·rw [cnd_t (ine_t hk), if_pos hk]
 ·rw [cnd_f (ine_f (by simpa using hk)), if_neg hk]
  have hr := okR_of hs (by simpa using hk)
  have hp := plainT_le hr l.length
  rw [List.take_length] at hp
  rw [bnd_s (style_plain hr)]
  generalize plainT l = t at hp ⊢
  unfold neatT
  by_cases h0 : t = []
  ·rw [cnd_t (by rw [seq_t]; exact h0), if_pos h0, if_pos rfl]
  ·have hl : 0 < t.length := List.length_pos_iff.2 h0
   have e1 : w64 (isub (len t) 1) = ((t.length - 1 : Nat) : Int) := w64_pred hl (by omega)
   have hin : inb (w64 (isub (len t) 1)) (len t) = true := by rw [e1]; exact inb_t (by simp only [len]; omega)
   rw [cnd_f (by rw [← Bool.not_eq_true, seq_t]; exact h0), if_neg h0, grd_t (inb_t (by simp only [len]; omega)), cnd_ieq]
   by_cases h1 : n8 (lget t (toN (0 : Int)) 0) = n8 (32 : UInt8)
   ·rw [if_pos h1, if_pos h1, if_pos rfl]
   ·rw [if_neg h1, if_neg h1, grd_t hin, cnd_ieq]
    by_cases h2 : n8 (lget t (toN (w64 (isub (len t) 1))) 0) = n8 (32 : UInt8)
    ·rw [if_pos h2, if_pos h2, if_pos rfl]
    ·rw [if_neg h2, if_neg h2]
     have hc : strings_Contains fuelH (t, [32, 32]) = some (sp2 t) := by
      show grd (decide (t.length < 4294967281)) (some (contains t [32, 32])) = _
      rw [grd_t (decide_eq_true (by omega)), sp2_contains]
     rw [bnd_s hc]
     by_cases h3 : sp2 t = true
     ·rw [cnd_t h3, h3, if_pos (by decide)]
     ·rw [cnd_f (by simpa using h3), Bool.eq_false_iff.2 h3, if_neg (by simp), bnd_s (style_len hr), cnd_ilt]
      by_cases h4 : 32 < lenT l
      ·rw [if_pos (by omega), if_pos h4]
      ·rw [if_neg (by omega), if_neg h4]
end
end Go.Mo
end
section
/-
 Plain facts: the check of an event, on both sides; spots; the length of an event.
-/
namespace Go.Mo
open Go Go.W Go.Lib
set_option maxRecDepth 100000
noncomputable section
theorem spans_eq (N : Nat) (s : Int × Int) : q25 N s = some (decide (0 ≤ s.1 ∧ s.1 < s.2 ∧ s.2 ≤ 5184000)) := by
 unfold q25
 rw [cnd_ile, cnd_ilt]
 by_cases h1 : 0 ≤ s.1
 ·rw [if_pos h1]
  by_cases h2 : s.1 < s.2
  ·rw [if_pos h2]; simp [h1, h2, ile]
  ·rw [if_neg h2]; simp [h2]
 ·rw [if_neg h1]; simp [h1]
theorem spanned_eq (N : Nat) (s : Int × Int) : q76 N s = some (decide (0 ≤ s.1 ∧ s.1 < s.2 ∧ s.2 ≤ 5184000)) := spans_eq N s
def kindP (k : UInt8) : Bool := match q27 fuelH k with
 | some s => decide (seq s [] = decide (¬ (1 ≤ n8 k ∧ n8 k ≤ 4)))
 | none => false
theorem kind_tab (k : UInt8) : ∃ s, q27 fuelH k = some s ∧ seq s [] = decide (¬ (1 ≤ n8 k ∧ n8 k ≤ 4)) := by
 have h : kindP k = true := all_u8 (P := kindP) (by kernel_rfl) k
 unfold kindP at h
 split at h
 ·rename_i s hs
  exact ⟨s, hs, of_decide_eq_true h⟩
 ·cases h
theorem jn_sp {β : Type} (K : Bool → Option β) (s : List UInt8) (X : Option Bool) (hX : X = some (nm s)) : jn K (fun v => cnd (sne s ([] : List UInt8)) (bnd X fun w => v (bnot w)) (v false)) = K (decide (s ≠ [] ∧ nm s = false)) := by
 rw [jn_e, hX, bnd_some']
 by_cases h : s = []
 ·subst h; rfl
 ·rw [cnd_t (by simp [sne, h])]
  congr 1
  cases hn : nm s <;> simp [bnot, h]
def rowsE : List Row → Int → Int
 | [], k => k
 | l :: r, k => if rowE l ≠ 0 then rowE l else rowsE r k
def lens (l : List Row) : List Int := l.map fun r => (lenT r : Int)
def evChk (x : Ev) (rs : List Reg) : Int :=
 if x.1 < 1 then 2 else if 1099511627776 < x.1 then 2 else
 if ¬ (0 ≤ x.2.1.1 ∧ x.2.1.1 < x.2.1.2 ∧ x.2.1.2 ≤ 5184000) then 2 else
 match findR rs x.2.2.1 with
 | none => 6
 | some r =>
  if ¬ (1 ≤ n8 x.2.2.2.1 ∧ n8 x.2.2.2.1 ≤ 4) then 3 else
  if x.2.2.2.2.1 ≠ [] ∧ nm x.2.2.2.2.1 = false then 5 else
  if x.2.2.2.2.2.length = 0 then 9 else if 4 < x.2.2.2.2.2.length then 9 else
  rowsE x.2.2.2.2.2 (placeS r (lens x.2.2.2.2.2)).2
theorem rowE_ok {l : Row} (hs : smallR l) (h : rowE l = 0) : okR l := by
 unfold rowE at h
 split at h
 ·rename_i hc; exact absurd h hc
 ·rename_i hc; exact okR_of hs (by simpa using hc)
theorem event_lens_eq {x : Ev} (h : ∀ l ∈ x.2.2.2.2.2, okR l) (hl : x.2.2.2.2.2.length ≤ 1000000) : q37 fuelH x = some (lens x.2.2.2.2.2) := by
 unfold q37
 rw [jn_e]
 generalize x.2.2.2.2.2 = l at h hl ⊢
 refine loop_inv (n := l.length) (fun (a : List Int) (i : Nat) => (a, (i : Int))) (fun i a => a = lens (l.take i)) _ (fun self a i hi hI => ?_) (fun self a hI => ?_) fuelH 0 [] (Nat.zero_le _) (by have := fuelH_eq; omega) rfl
 ·refine ⟨a ++ [(lenT l[i] : Int)], ?_, ?_⟩
  ·have ha : a.length ≤ i := by rw [hI]; unfold lens; rw [List.length_map, List.length_take]; omega
   simp only
   rw [cnd_t (ilt_t (by simp only [len]; omega)), grd_t (inb_t (by simp only [len]; omega)), lget_i hi, style_len (h _ (List.getElem_mem hi)), bnd_some', grd_t (room_t (by simp only [iadd, len, List.length_singleton]; omega)), w64_succ hi (by omega)]
   rfl
  ·rw [hI]; unfold lens; rw [List.take_succ_eq_append_getElem hi, List.map_append]; rfl
 ·simp only
  rw [cnd_f (ilt_f (by simp only [len]; omega)), hI, List.take_length]
theorem itI_rows (K : Option Int) (k : Int) : ∀ (l : List Row) (i : Nat), ((∀ r ∈ l, rowE r = 0) → K = some k) → itI (fun _ (r : Row) (_ : Unit) => if rowE r ≠ 0 then (.inl (some (rowE r)) : Option Int ⊕ Unit) else .inr ()) (fun _ => K) i l () = some (rowsE l k)
 | [], i, h => h fun r hr => by cases hr
 | r :: l, i, h => by
  simp only [itI, rowsE]
  by_cases hc : rowE r ≠ 0
  ·rw [if_pos hc, if_pos hc]
  ·rw [if_neg hc, if_neg hc]
   refine itI_rows K k l (i + 1) fun hl => h fun q hq => ?_
   rcases List.mem_cons.1 hq with rfl | hq
   ·simpa using hc
   ·exact hl q hq
theorem itI_rows2 (K : List Int → Option Int) (k : List Int → Int) (hK : ∀ a, K a = some (k a)) : ∀ (l : List Row) (i : Nat) (a : List Int), itI (fun _ (r : Row) (a : List Int) => if rowE r ≠ 0 then (.inl (some (rowE r)) : Option Int ⊕ List Int) else .inr (a ++ [(lenT r : Int)])) K i l a = some (rowsE l (k (a ++ lens l)))
 | [], i, a => by simp [itI, hK, rowsE, lens]
 | r :: l, i, a => by
  simp only [itI, rowsE]
  by_cases hc : rowE r ≠ 0
  ·rw [if_pos hc, if_pos hc]
  ·rw [if_neg hc, if_neg hc]
   simp only
   rw [itI_rows2 K k hK l (i + 1)]
   simp [lens]
theorem event_check_eq {x : Ev} {rs : List Reg} (hs : smallL x.2.2.2.2.2) (hr : rs.length ≤ 4000000) : q40 fuelH (x, rs) = some (evChk x rs) := by
 unfold q40 evChk
 simp only
 rw [region_find _ hr, bnd_some', cnd_ilt]
 by_cases c1 : x.1 < 1
 ·rw [if_pos c1, if_pos c1]
 rw [if_neg c1, if_neg c1, cnd_ilt]
 by_cases c2 : 1099511627776 < x.1
 ·rw [if_pos c2, if_pos c2]
 rw [if_neg c2, if_neg c2, spans_eq, bnd_some', cnd_bnot]
 by_cases c3 : 0 ≤ x.2.1.1 ∧ x.2.1.1 < x.2.1.2 ∧ x.2.1.2 ≤ 5184000
 ·rw [if_pos c3, if_neg (not_not_intro c3)]
  unfold findP
  cases hf : findR rs x.2.2.1 with
  | none => rfl
  | some r =>
   simp only
   rw [cnd_f (by rfl)]
   obtain ⟨s, k1, k2⟩ := kind_tab x.2.2.2.1
   rw [bnd_s k1, k2, cnd_dec]
   by_cases c4 : 1 ≤ n8 x.2.2.2.1 ∧ n8 x.2.2.2.1 ≤ 4
   ·rw [if_neg (not_not_intro c4), if_neg (not_not_intro c4), jn_sp _ _ _ (lines_name _), cnd_dec]
    by_cases c5 : x.2.2.2.2.1 ≠ [] ∧ nm x.2.2.2.2.1 = false
    ·rw [if_pos c5, if_pos c5]
    rw [if_neg c5, if_neg c5]
    by_cases c6 : x.2.2.2.2.2.length = 0
    ·rw [cnd_t (ieq_t (by simp only [len]; omega)), if_pos c6]
    rw [cnd_f (ieq_f (by simp only [len]; omega)), if_neg c6]
    by_cases c7 : 4 < x.2.2.2.2.2.length
    ·rw [cnd_t (ilt_t (by simp only [len]; omega)), if_pos c7]
    rw [cnd_f (ilt_f (by simp only [len]; omega)), if_neg c7, jn_e]
    have hlen := @event_lens_eq x
    generalize x.2.2.2.2.2 = l at hs c6 c7 hlen ⊢
    refine Eq.trans (lst_it (l := l) (fun (_ : Unit) (p : Nat) => (p : Int)) (fun _ (r : Row) (_ : Unit) => if rowE r ≠ 0 then .inl (some (rowE r)) else .inr ()) (fun _ => bnd (q37 fuelH x) fun v5 => bnd (q39 fuelH (r, v5)) fun v6 => some v6.2) (fun _ _ => True) (fun self a i hi _ => ?_) (fun self a _ => ?_) fuelH 0 () (Nat.zero_le _) (by have := fuelH_eq; omega) trivial) (itI_rows _ _ l 0 fun hl => ?_)
    ·rw [cnd_t (ilt_t (by simp only [len]; omega)), grd_t (inb_t (by simp only [len]; omega)), lget_i hi, bnd_s (event_row_eq (hs _ (List.getElem_mem hi))), w64_succ hi (by omega)]
     by_cases hc : rowE l[i] ≠ 0
     ·rw [if_pos hc, cnd_t (ine_t hc)]; rfl
     ·rw [if_neg hc, cnd_f (ine_f (by simpa using hc))]
      exact ⟨rfl, trivial⟩
    ·rw [cnd_f (ilt_f (by simp only [len]; omega))]
    ·rw [bnd_s (hlen (fun q hq => rowE_ok (hs q hq) (hl q hq)) (by omega)), bnd_s (region_place _ _)]
   ·rw [if_pos c4, if_pos c4]
 ·rw [if_neg c3, if_pos c3]
theorem r11_check_eq {x : Ev} {rs : List Reg} (hs : smallL x.2.2.2.2.2) (hr : rs.length ≤ 4000000) : q84 fuelH (x, rs) = some (evChk x rs) := by
 unfold q84 evChk
 simp only
 rw [cnd_ilt]
 by_cases c1 : x.1 < 1
 ·rw [if_pos c1, if_pos c1]
 rw [if_neg c1, if_neg c1, cnd_ilt]
 by_cases c2 : 1099511627776 < x.1
 ·rw [if_pos c2, if_pos c2]
 rw [if_neg c2, if_neg c2, spanned_eq, bnd_some', cnd_bnot]
 by_cases c3 : 0 ≤ x.2.1.1 ∧ x.2.1.1 < x.2.1.2 ∧ x.2.1.2 ≤ 5184000
 ·rw [if_pos c3, if_neg (not_not_intro c3), r10_find, region_find _ hr, bnd_some']
  unfold findP
  cases hf : findR rs x.2.2.1 with
  | none => rfl
  | some r =>
   simp only
   rw [cnd_f (by rfl)]
   have e1 : n8 (1 : UInt8) = 1 := rfl
   have e4 : n8 (4 : UInt8) = 4 := rfl
   rw [cnd_ilt, cnd_ilt, e1, e4]
   by_cases c4 : 1 ≤ n8 x.2.2.2.1 ∧ n8 x.2.2.2.1 ≤ 4
   ·rw [if_neg (by omega), if_neg (by omega), if_neg (not_not_intro c4), jn_sp _ _ _ (r07_name _), cnd_dec]
    by_cases c5 : x.2.2.2.2.1 ≠ [] ∧ nm x.2.2.2.2.1 = false
    ·rw [if_pos c5, if_pos c5]
    rw [if_neg c5, if_neg c5]
    by_cases c6 : x.2.2.2.2.2.length = 0
    ·rw [cnd_t (ieq_t (by simp only [len]; omega)), if_pos c6]
    rw [cnd_f (ieq_f (by simp only [len]; omega)), if_neg c6]
    by_cases c7 : 4 < x.2.2.2.2.2.length
    ·rw [cnd_t (ilt_t (by simp only [len]; omega)), if_pos c7]
    rw [cnd_f (ilt_f (by simp only [len]; omega)), if_neg c7, jn_e]
    generalize x.2.2.2.2.2 = l at hs c6 c7 ⊢
    refine Eq.trans (lst_it (l := l) (fun (a : List Int) (p : Nat) => (a, (p : Int))) (fun _ (r : Row) (a : List Int) => if rowE r ≠ 0 then .inl (some (rowE r)) else .inr (a ++ [(lenT r : Int)])) (fun a => bnd (q83 fuelH (r, a)) fun v4 => some v4.2) (fun i a => a.length ≤ i) (fun self a i hi ha => ?_) (fun self a _ => ?_) fuelH 0 [] (Nat.zero_le _) (by have := fuelH_eq; omega) (Nat.le_refl _)) (itI_rows2 _ (fun a => (placeS r a).2) (fun a => by rw [r10_place]; rfl) l 0 [])
    ·have hsr := hs _ (List.getElem_mem hi)
     have hin : inb (i : Int) (len l) = true := inb_t (by simp only [len]; omega)
     simp only
     rw [cnd_t (ilt_t (by simp only [len]; omega)), grd_t hin, lget_i hi, bnd_s (r09_check hsr.1), w64_succ hi (by omega)]
     generalize l[i] = q at hsr ⊢
     unfold rowE
     by_cases hk : rowChk q ≠ 0
     ·rw [if_pos hk, if_pos hk, cnd_t (ine_t hk)]; rfl
     ·have hok := okR_of hsr (by simpa using hk)
      have hp := plainT_le hok q.length
      rw [List.take_length] at hp
      rw [if_neg hk, cnd_f (ine_f (by simpa using hk)), bnd_s (r09_plain hok), bnd_s (r11_neat_eq hp), cnd_ite]
      by_cases hn : neatT (plainT q) = false
      ·rw [if_pos (by rw [hn]; rfl), if_pos hn, if_pos (by decide)]; rfl
      ·rw [if_neg (by rw [bnot_t]; exact hn), if_neg hn, bnd_s (r09_len hok), cnd_ilt]
       by_cases h4 : 32 < lenT q
       ·rw [if_pos (by omega), if_pos h4, if_pos (by decide)]; rfl
       ·rw [if_neg (by omega), if_neg h4, if_neg (by decide), bnd_s (r09_len hok), grd_t (room_t (by simp only [iadd, len, List.length_singleton]; omega))]
        exact ⟨rfl, by simp only [List.length_append, List.length_singleton]; omega⟩
    ·simp only
     rw [cnd_f (ilt_f (by simp only [len]; omega))]
   ·rw [if_pos c4]
    by_cases h : n8 x.2.2.2.1 < 1
    ·rw [if_pos h]
    ·rw [if_neg h, if_pos (by omega)]
 ·rw [if_neg c3, if_pos c3]
end
end Go.Mo
end
section
/-
 Plain facts: the header of a document; events by their number; the length of an event.
-/
namespace Go.Mo
open Go Go.W Go.Lib
set_option maxRecDepth 100000
noncomputable section
abbrev Cmt := Int × Int × Int × Int × List UInt8 × List UInt8 × Bool × Bool
abbrev Doc := List UInt8 × List UInt8 × UInt8 × Bool × Int × List Reg × List Ev × List Cmt
def tvB (r : UInt8) : Bool := (q16 fuelH r).getD false
def cdB (r : UInt8) : Bool := (q17 fuelH r).getD false
theorem tv_eq (r : UInt8) : q16 fuelH r = some (tvB r) ∧ q17 fuelH r = some (cdB r) :=
 of_decide_eq_true (all_u8 (P := fun r => decide (q16 fuelH r = some (tvB r) ∧ q17 fuelH r = some (cdB r))) (by kernel_rfl) r)
theorem r02_eq (r : UInt8) : q71 fuelH r = some (tvB r) ∧ q72 fuelH r = some (cdB r) := by
 obtain ⟨h1, h2, _⟩ := rate_eq fuelH r
 rw [← h1, ← h2]
 exact tv_eq r
def rateBad (r : UInt8) (drop : Bool) : Prop := tvB r = false ∨ (drop = true ∧ cdB r = false)
instance (r : UInt8) (drop : Bool) : Decidable (rateBad r drop) := by unfold rateBad; infer_instance
def headChk (d : Doc) : Int :=
 if vld d.1 = false then 10 else if 400 < d.1.length then 9 else if d.2.1 ≠ [] ∧ nm d.2.1 = false then 5 else
 if rateBad d.2.2.1 d.2.2.2.1 then 13 else if d.2.2.2.2.1 < 0 then 2 else if 1099511627776 < d.2.2.2.2.1 then 2 else 0
theorem rate_chk (r : UInt8) (b : Bool) : q18 fuelH (r, b) = some (if rateBad r b then 13 else 0) := by
 unfold q18
 obtain ⟨h1, h2⟩ := tv_eq r
 simp only
 rw [h1, bnd_some']
 by_cases c1 : tvB r = false
 ·rw [cnd_t (by rw [c1]; rfl), if_pos (show rateBad r b from .inl c1)]
 ·rw [cnd_f (by rw [← Bool.not_eq_true, bnot_t]; exact c1)]
  cases b with
  | false =>
   rw [cnd_f rfl, if_neg]
   rintro (h | h)
   ·exact c1 h
   ·cases h.1
  | true =>
   rw [cnd_t rfl, h2, bnd_some']
   by_cases c2 : cdB r = false
   ·rw [cnd_t (by rw [c2]; rfl), if_pos (show rateBad r true from .inr ⟨rfl, c2⟩)]
   ·rw [cnd_f (by rw [← Bool.not_eq_true, bnot_t]; exact c2), if_neg]
    rintro (h | h)
    ·exact c1 h
    ·exact c2 h.2
theorem header_eq {d : Doc} (hd : d.1.length ≤ 4000000) : q19 fuelH d = some (headChk d) := by
 unfold q19 headChk
 rw [jn_e, ch_valid _ hd, bnd_some']
 by_cases c1 : vld d.1 = false
 ·rw [cnd_t (by rw [c1]; rfl), if_pos c1]
 rw [cnd_f (by rw [← Bool.not_eq_true, bnot_t]; exact c1), if_neg c1]
 by_cases c2 : 400 < d.1.length
 ·rw [cnd_t (ilt_t (by simp only [len]; omega)), if_pos c2]
 rw [cnd_f (ilt_f (by simp only [len]; omega)), if_neg c2, lines_name, bnd_some', rate_chk, bnd_some']
 have hrest : cnd (ine (if rateBad d.2.2.1 d.2.2.2.1 then (13 : Int) else 0) 0) (some (if rateBad d.2.2.1 d.2.2.2.1 then (13 : Int) else 0)) (cnd (ilt d.2.2.2.2.1 0) (some (2 : Int)) (cnd (ilt 1099511627776 d.2.2.2.2.1) (some 2) (some 0))) = some (if rateBad d.2.2.1 d.2.2.2.1 then 13 else if d.2.2.2.2.1 < 0 then 2 else if 1099511627776 < d.2.2.2.2.1 then 2 else 0) := by
  by_cases c4 : rateBad d.2.2.1 d.2.2.2.1
  ·rw [if_pos c4, if_pos c4]; rfl
  ·rw [if_neg c4, if_neg c4, cnd_f (by rfl), cnd_ilt, cnd_ilt]
   by_cases c5 : d.2.2.2.2.1 < 0
   ·rw [if_pos c5, if_pos c5]
   rw [if_neg c5, if_neg c5]
   by_cases c6 : 1099511627776 < d.2.2.2.2.1
   ·rw [if_pos c6, if_pos c6]
   ·rw [if_neg c6, if_neg c6]
 rw [hrest]
 generalize (if rateBad d.2.2.1 d.2.2.2.1 then (13 : Int) else if d.2.2.2.2.1 < 0 then 2 else if 1099511627776 < d.2.2.2.2.1 then 2 else 0) = R
 by_cases c3 : d.2.1 = []
 ·rw [cnd_f (by simp [sne, c3]), if_neg fun h => h.1 c3]
 ·rw [cnd_t (by simp [sne, c3])]
  by_cases c4 : nm d.2.1 = false
  ·rw [cnd_t (by rw [c4]; rfl), if_pos ⟨c3, c4⟩]
  ·rw [cnd_f (by rw [← Bool.not_eq_true, bnot_t]; exact c4), if_neg fun h => c4 h.2]
theorem checkHead_eq {d : Doc} (hd : d.1.length ≤ 4000000) : q73 fuelH d = some (headChk d) := by
 unfold q73 headChk
 rw [r08_valid _ hd, bnd_some']
 by_cases c1 : vld d.1 = false
 ·rw [cnd_t (by rw [c1]; rfl), if_pos c1]
 rw [cnd_f (by rw [← Bool.not_eq_true, bnot_t]; exact c1), if_neg c1]
 by_cases c2 : 400 < d.1.length
 ·rw [cnd_t (ilt_t (by simp only [len]; omega)), if_pos c2]
 rw [cnd_f (ilt_f (by simp only [len]; omega)), if_neg c2, jn_sp _ _ _ (r07_name _), cnd_dec]
 by_cases c3 : d.2.1 ≠ [] ∧ nm d.2.1 = false
 ·rw [if_pos c3, if_pos c3]
 rw [if_neg c3, if_neg c3, jn_e]
 obtain ⟨h1, h2⟩ := r02_eq d.2.2.1
 rw [h1, bnd_some', h2, bnd_some']
 have hrest : ∀ b : Bool, b = decide (rateBad d.2.2.1 d.2.2.2.1) → cnd b (some (13 : Int)) (cnd (ilt d.2.2.2.2.1 0) (some (2 : Int)) (cnd (ilt 1099511627776 d.2.2.2.2.1) (some 2) (some 0))) = some (if rateBad d.2.2.1 d.2.2.2.1 then 13 else if d.2.2.2.2.1 < 0 then 2 else if 1099511627776 < d.2.2.2.2.1 then 2 else 0) := by
  rintro b rfl
  rw [cnd_dec, cnd_ilt, cnd_ilt]
  by_cases c4 : rateBad d.2.2.1 d.2.2.2.1
  ·rw [if_pos c4, if_pos c4]
  rw [if_neg c4, if_neg c4]
  by_cases c5 : d.2.2.2.2.1 < 0
  ·rw [if_pos c5, if_pos c5]
  rw [if_neg c5, if_neg c5]
  by_cases c6 : 1099511627776 < d.2.2.2.2.1
  ·rw [if_pos c6, if_pos c6]
  ·rw [if_neg c6, if_neg c6]
 by_cases c1 : tvB d.2.2.1 = false
 ·rw [cnd_t (by rw [c1]; rfl)]
  exact hrest true (decide_eq_true (show rateBad _ _ from .inl c1)).symm
 ·rw [cnd_f (by rw [← Bool.not_eq_true, bnot_t]; exact c1)]
  cases hb : d.2.2.2.1 with
  | false =>
   rw [cnd_f rfl]
   rw [hb] at hrest
   refine hrest false (decide_eq_false ?_).symm
   rintro (h | h)
   ·exact c1 h
   ·cases h.1
  | true =>
   rw [cnd_t rfl]
   rw [hb] at hrest
   refine hrest _ ?_
   cases hc : cdB d.2.2.1 with
   | false => exact (decide_eq_true (show rateBad _ _ from .inr ⟨rfl, hc⟩)).symm
   | true =>
    refine (decide_eq_false ?_).symm
    rintro (h | h)
    ·exact c1 h
    ·rw [hc] at h; cases h.2
def mapE : Nat → List Ev → List (Int × Int)
 | _, [] => []
 | i, x :: l => (x.1, (i : Int)) :: mapE (i + 1) l
def findE : Nat → List Ev → Int → Int
 | _, [], _ => -1
 | i, x :: l, k => if x.1 = k then (i : Int) else findE (i + 1) l k
def hasE (l : List Ev) (k : Int) : Prop := ∃ x ∈ l, x.1 = k
instance (l : List Ev) (k : Int) : Decidable (hasE l k) := by unfold hasE; infer_instance
theorem mapE_app : ∀ (a b : List Ev) (i : Nat), mapE i (a ++ b) = mapE i a ++ mapE (i + a.length) b
 | [], b, i => by simp [mapE]
 | x :: a, b, i => by
  simp only [List.cons_append, mapE, mapE_app a b (i + 1), List.length_cons]
  congr 3; omega
theorem mhas_mapE : ∀ (l : List Ev) (i : Nat) (k : Int), mhas ieq (mapE i l) k = decide (hasE l k)
 | [], i, k => by simp [mapE, mhas, hasE]
 | x :: l, i, k => by
  simp only [mapE, mhas, mhas_mapE l (i + 1) k]
  by_cases h : k = x.1
  ·rw [ieq_t h, decide_eq_true (show hasE (x :: l) k from ⟨x, List.mem_cons_self, h.symm⟩)]; rfl
  ·rw [ieq_f h]
   show (false || _) = _
   rw [Bool.false_or]
   exact decide_eq_decide.2 ⟨fun ⟨y, h1, h2⟩ => ⟨y, List.mem_cons_of_mem _ h1, h2⟩, fun ⟨y, h1, h2⟩ => by
    rcases List.mem_cons.1 h1 with rfl | h1
    ·exact absurd h2.symm h
    ·exact ⟨y, h1, h2⟩⟩
theorem mput_new {k v : Int} : ∀ (m : List (Int × Int)), mhas ieq m k = false → mput ieq m k v = m ++ [(k, v)]
 | [], _ => rfl
 | x :: m, h => by
  simp only [mhas, bor, Bool.or_eq_false_iff] at h
  simp only [mput, h.1, mput_new m h.2]
  rfl
theorem mget_mapE : ∀ (l : List Ev) (i : Nat) (k : Int), hasE l k → mget ieq 0 (mapE i l) k = findE i l k
 | [], i, k, h => by obtain ⟨x, h, _⟩ := h; cases h
 | x :: l, i, k, h => by
  simp only [mapE, mget, findE]
  by_cases hc : x.1 = k
  ·rw [ieq_t hc.symm, if_pos hc]; rfl
  ·rw [ieq_f (fun e => hc e.symm), if_neg hc]
   obtain ⟨y, h1, h2⟩ := h
   rcases List.mem_cons.1 h1 with rfl | h1
   ·exact absurd h2 hc
   ·exact mget_mapE l (i + 1) k ⟨y, h1, h2⟩
theorem findE_no : ∀ (l : List Ev) (i : Nat) (k : Int), ¬ hasE l k → findE i l k = -1
 | [], i, k, _ => rfl
 | x :: l, i, k, h => by
  simp only [findE]
  rw [if_neg fun e => h ⟨x, List.mem_cons_self, e⟩]
  exact findE_no l (i + 1) k fun ⟨y, h1, h2⟩ => h ⟨y, List.mem_cons_of_mem _ h1, h2⟩
theorem findE_yes : ∀ (l : List Ev) (i : Nat) (k : Int), hasE l k → ∃ j, ∃ h : j < l.length, findE i l k = ((i + j : Nat) : Int) ∧ l[j].1 = k ∧ ¬ hasE (l.take j) k
 | [], i, k, h => by obtain ⟨x, h, _⟩ := h; cases h
 | x :: l, i, k, h => by
  simp only [findE]
  by_cases hc : x.1 = k
  ·exact ⟨0, by simp, by rw [if_pos hc]; rfl, hc, fun ⟨y, h1, _⟩ => by cases h1⟩
  ·obtain ⟨y, h1, h2⟩ := h
   rcases List.mem_cons.1 h1 with rfl | h1
   ·exact absurd h2 hc
   ·obtain ⟨j, hj, e1, e2, e3⟩ := findE_yes l (i + 1) k ⟨y, h1, h2⟩
    refine ⟨j + 1, by simpa using hj, ?_, by simpa using e2, ?_⟩
    ·rw [if_neg hc, e1]; congr 1; omega
    ·rintro ⟨z, h3, h4⟩
     rw [List.take_succ_cons] at h3
     rcases List.mem_cons.1 h3 with rfl | h3
     ·exact hc h4
     ·exact e3 ⟨z, h3, h4⟩
theorem findE_at {l : List Ev} {i : Nat} (hi : i < l.length) : findE 0 l l[i].1 = (i : Int) ↔ ¬ hasE (l.take i) l[i].1 := by
 obtain ⟨j, hj, e1, e2, e3⟩ := findE_yes l 0 l[i].1 ⟨l[i], List.getElem_mem hi, rfl⟩
 rw [e1]
 constructor
 ·intro h
  have : j = i := by omega
  subst this
  exact e3
 ·intro h
  have h1 : ¬ j < i := fun hji => h ⟨l[j], by rw [List.mem_take_iff_getElem]; exact ⟨j, by omega, rfl⟩, e2⟩
  have h2 : ¬ i < j := fun hij => e3 ⟨l[i], by rw [List.mem_take_iff_getElem]; exact ⟨i, by omega, rfl⟩, rfl⟩
  congr 1; omega
theorem find_eq {d : Doc} (h : d.2.2.2.2.2.2.1.length ≤ 4000000) (k : Int) : r12_Find fuelH (d, k) = some (findE 0 d.2.2.2.2.2.2.1 k) := by
 unfold r12_Find
 rw [jn_e]
 simp only
 generalize d.2.2.2.2.2.2.1 = l at h ⊢
 have hit : ∀ (r : List Ev) (i : Nat), itI (fun i (x : Ev) (_ : Unit) => if x.1 = k then (.inl (some (i : Int)) : Option Int ⊕ Unit) else .inr ()) (fun _ => some (-1 : Int)) i r () = some (findE i r k) := by
  intro r
  induction r with
  | nil => intro i; rfl
  | cons x r ih =>
   intro i
   simp only [itI, findE]
   by_cases hc : x.1 = k
   ·rw [if_pos hc, if_pos hc]
   ·rw [if_neg hc, if_neg hc]; exact ih (i + 1)
 refine Eq.trans (lst_it (l := l) (fun (_ : Unit) (p : Nat) => (p : Int)) (fun i (x : Ev) (_ : Unit) => if x.1 = k then .inl (some (i : Int)) else .inr ()) (fun _ => some (-1 : Int)) (fun _ _ => True) (fun self a i hi _ => ?_) (fun self a _ => ?_) fuelH 0 () (Nat.zero_le _) (by have := fuelH_eq; omega) trivial) (hit l 0)
 ·rw [cnd_t (ilt_t (by simp only [len]; omega)), grd_t (inb_t (by simp only [len]; omega)), lget_i hi, w64_succ hi (by omega)]
  by_cases hc : l[i].1 = k
  ·rw [if_pos hc, cnd_t (ieq_t hc)]; rfl
  ·rw [if_neg hc, cnd_f (ieq_f hc)]
   exact ⟨rfl, trivial⟩
 ·rw [cnd_f (ilt_f (by simp only [len]; omega))]
def lessE (a b : Ev) : Prop := a.2.1.1 < b.2.1.1 ∨ (a.2.1.1 = b.2.1.1 ∧ a.1 < b.1)
instance (a b : Ev) : Decidable (lessE a b) := by unfold lessE; infer_instance
theorem r11_less (N : Nat) (a b : Ev) : r11_Less N (a, b) = some (decide (lessE a b)) := by
 unfold r11_Less lessE
 simp only
 rw [cnd_ilt, cnd_ieq]
 by_cases h1 : a.2.1.1 < b.2.1.1
 ·rw [if_pos h1]; simp [h1]
 ·rw [if_neg h1]
  by_cases h2 : a.2.1.1 = b.2.1.1
  ·rw [if_pos h2]; simp [h2, ilt]
  ·rw [if_neg h2]; simp [h1, h2]
theorem cmp_eq (N : Nat) (a b : Int) : q42 N (a, b) = some (if a < b then -1 else if b < a then 1 else 0) := by
 unfold q42
 have h : ∀ x : Int, q41 N x = some false := fun x => by
  show some (ine x x) = _
  rw [ine_f rfl]
 simp only
 rw [h, h, bnd_some', bnd_some', cnd_f rfl, cnd_f rfl, cnd_ilt, cnd_ilt]
 by_cases h1 : a < b
 ·rw [if_pos h1, if_pos h1]
 ·rw [if_neg h1, if_neg h1]
  by_cases h2 : b < a
  ·rw [if_pos h2, if_pos h2]
  ·rw [if_neg h2, if_neg h2]
theorem or_eq (a b : Int) : q43 fuelH [a, b] = some (if a ≠ 0 then a else b) := by
 have h : q43 fuelH [a, b] = cnd (ine a 0) (some a) (cnd (ine b 0) (some b) (some 0)) := by kernel_rfl
 rw [h, cnd_ine, cnd_ine]
 by_cases h1 : a ≠ 0
 ·rw [if_pos h1, if_pos h1]
 ·rw [if_neg h1, if_neg h1]
  by_cases h2 : b ≠ 0
  ·rw [if_pos h2]
  ·rw [if_neg h2]; congr 1; omega
theorem event_less (a b : Ev) : q44 fuelH (a, b) = some (decide (lessE a b)) := by
 unfold q44
 simp only
 rw [cmp_eq, bnd_some', cmp_eq, bnd_some', or_eq, bnd_some']
 congr 1
 by_cases h1 : a.2.1.1 < b.2.1.1
 ·rw [if_pos h1, if_pos (by decide), @decide_eq_true (lessE a b) _ (.inl h1)]; rfl
 ·rw [if_neg h1]
  by_cases h2 : b.2.1.1 < a.2.1.1
  ·rw [if_pos h2, if_pos (by decide), @decide_eq_false (lessE a b) _ (by unfold lessE; omega)]; rfl
  ·rw [if_neg h2, if_neg (by decide)]
   by_cases h3 : a.1 < b.1
   ·rw [if_pos h3, @decide_eq_true (lessE a b) _ (by unfold lessE; omega)]; rfl
   ·rw [if_neg h3, @decide_eq_false (lessE a b) _ (by unfold lessE; omega)]
    split <;> rfl
end
end Go.Mo
end
section
/-
 Plain facts: the events of a document, checked one after the other; the length of an event.
-/
namespace Go.Mo
open Go Go.W Go.Lib
set_option maxRecDepth 100000
noncomputable section
def errL {α : Type} (R : List α → α → Int) : List α → List α → Int
 | _, [] => 0
 | pre, x :: l => if R pre x ≠ 0 then R pre x else errL R (pre ++ [x]) l
theorem errL_zero {α : Type} {R : List α → α → Int} : ∀ (l pre : List α), errL R pre l = 0 → ∀ j (h : j < l.length), R (pre ++ l.take j) l[j] = 0
 | [], _, _, j, h => by simp at h
 | x :: l, pre, h0, j, h => by
  simp only [errL] at h0
  split at h0
  ·rename_i hc; exact absurd h0 hc
  ·rename_i hc
   cases j with
   | zero => simpa using hc
   | succ j =>
    have := errL_zero l (pre ++ [x]) h0 j (by simpa using h)
    simpa using this
theorem loop_err {V σ α ρ : Type} {F : (V → Option ρ) → V → Option ρ} {l : List α} (st : σ → Nat → V) (g : List α → σ) (R : List α → α → Int) (w : Int → ρ) (K : Option ρ)
  (hstep : ∀ self i (h : i < l.length), F self (st (g (l.take i)) i) = if R (l.take i) l[i] ≠ 0 then some (w (R (l.take i) l[i])) else self (st (g (l.take (i + 1))) (i + 1)))
  (hend : (∀ j (h : j < l.length), R (l.take j) l[j] = 0) → ∀ self, F self (st (g l) l.length) = K) :
  ∀ (fuel i : Nat), i ≤ l.length → l.length - i < fuel → (∀ j (h : j < l.length), j < i → R (l.take j) l[j] = 0) →
  fixN F fuel (st (g (l.take i)) i) = if errL R (l.take i) (l.drop i) ≠ 0 then some (w (errL R (l.take i) (l.drop i))) else K
 | 0, i, _, h, _ => by omega
 | fuel + 1, i, hi, h, hp => by
  rw [fixN_s]
  by_cases hl : i < l.length
  ·rw [hstep _ i hl, List.drop_eq_getElem_cons hl, errL]
   by_cases hc : R (l.take i) l[i] ≠ 0
   ·rw [if_pos hc, if_pos hc, if_pos hc]
   ·rw [if_neg hc, if_neg hc]
    have ih := loop_err st g R w K hstep hend fuel (i + 1) (by omega) (by omega) (fun j hj hji => by
     by_cases e : j = i
     ·subst e; simpa using hc
     ·exact hp j hj (by omega))
    rw [ih, List.take_succ_eq_append_getElem hl]
  ·obtain rfl : i = l.length := by omega
   rw [List.take_length, hend (fun j hj => hp j hj hj), List.drop_length]
   rfl
def sumT : List Row → Nat
 | [] => 0
 | r :: l => lenT r + sumT l
def evLen (x : Ev) : Int := ((x.2.2.2.2.2.length - 1 + sumT x.2.2.2.2.2 : Nat) : Int)
theorem sumT_take : ∀ (l : List Row) (i : Nat) (h : i < l.length), sumT (l.take (i + 1)) = sumT (l.take i) + lenT l[i]
 | x :: l, 0, _ => by simp [sumT]
 | x :: l, i + 1, h => by
  have := sumT_take l i (by simpa using h)
  simp only [List.take_succ_cons, sumT, this, List.getElem_cons_succ]
  omega
theorem lenT_tot {l : Row} (h : okR l) : lenT l ≤ 64000000 := by
 have h1 := lenT_le l fun x hx => (h.2.1 x hx).2
 have h2 := h.1
 omega
theorem sumT_le : ∀ (l : List Row), (∀ r ∈ l, okR r) → sumT l ≤ 64000000 * l.length
 | [], _ => Nat.le_refl _
 | r :: l, h => by
  have h1 := lenT_tot (h r List.mem_cons_self)
  have h2 := sumT_le l fun q hq => h q (List.mem_cons_of_mem _ hq)
  simp only [sumT, List.length_cons]
  omega
theorem sumT_take_le (l : List Row) (h : ∀ r ∈ l, okR r) (i : Nat) : sumT (l.take i) ≤ 64000000 * l.length := by
 have h1 := sumT_le (l.take i) fun r hr => h r (List.mem_of_mem_take hr)
 have : (l.take i).length ≤ l.length := by rw [List.length_take]; omega
 omega
theorem event_len_eq {x : Ev} (h : ∀ l ∈ x.2.2.2.2.2, okR l) (hl : x.2.2.2.2.2.length ≤ 1000) : q45 fuelH x = some (evLen x) := by
 unfold q45 evLen
 rw [jn_e, bnd_s (event_lens_eq h (by omega))]
 generalize x.2.2.2.2.2 = l at h hl ⊢
 have hll : (lens l).length = l.length := by unfold lens; rw [List.length_map]
 have e0 : imax (w64 (isub (len l) 1)) 0 = ((l.length - 1 : Nat) : Int) := by
  simp only [isub, imax, len]
  rw [w64_id (by omega)]
  omega
 rw [e0]
 refine loop_inv (n := l.length) (fun (a : Nat) (i : Nat) => ((a : Int), (i : Int))) (fun i a => a = l.length - 1 + sumT (l.take i)) _ (fun self a i hi hI => ?_) (fun self a hI => ?_) fuelH 0 (l.length - 1) (Nat.zero_le _) (by have := fuelH_eq; omega) (by simp [sumT])
 ·refine ⟨a + lenT l[i], ?_, ?_⟩
  ·have ht := sumT_take_le l h i
   have hb := lenT_tot (h _ (List.getElem_mem hi))
   have hin : inb (i : Int) (len (lens l)) = true := inb_t (by simp only [len, hll]; omega)
   have hg : lget (lens l) (toN (i : Int)) (0 : Int) = (lenT l[i] : Int) := by
    rw [lget_i (by omega)]
    simp [lens]
   simp only
   rw [cnd_t (ilt_t (by simp only [len, hll]; omega)), grd_t hin, hg, cnd_f (ilt_f (by omega)), w64_succ hi (by omega)]
   have e : w64 (iadd (a : Int) (lenT l[i] : Int)) = ((a + lenT l[i] : Nat) : Int) := by
    unfold iadd; rw [w64_id (by omega)]; omega
   rw [e]
  ·rw [sumT_take l i hi, hI]; omega
 ·simp only
  rw [cnd_f (ilt_f (by simp only [len, hll]; omega)), hI, List.take_length]
theorem r11_len_eq {x : Ev} (h : ∀ l ∈ x.2.2.2.2.2, okR l) (hl : x.2.2.2.2.2.length ≤ 1000) : r11_Len fuelH x = some (evLen x) := by
 unfold r11_Len evLen
 rw [jn_e]
 generalize x.2.2.2.2.2 = l at h hl ⊢
 refine loop_inv (n := l.length) (fun (a : Nat) (i : Nat) => ((a : Int), (i : Int))) (fun i a => a = i - 1 + sumT (l.take i)) _ (fun self a i hi hI => ?_) (fun self a hI => ?_) fuelH 0 0 (Nat.zero_le _) (by have := fuelH_eq; omega) (by simp [sumT])
 ·refine ⟨i + sumT (l.take i) + lenT l[i], ?_, ?_⟩
  ·have ht := sumT_take_le l h i
   have hb := lenT_tot (h _ (List.getElem_mem hi))
   simp only
   rw [cnd_t (ilt_t (by simp only [len]; omega)), grd_t (inb_t (by simp only [len]; omega)), lget_i hi, r09_len (h _ (List.getElem_mem hi)), bnd_some', cnd_f (ilt_f (by omega)), w64_succ hi (by omega)]
   by_cases h0 : i = 0
   ·subst h0
    rw [cnd_f (ilt_f (by omega))]
    have e : w64 (iadd (a : Int) (lenT l[0] : Int)) = ((0 + sumT (l.take 0) + lenT l[0] : Nat) : Int) := by
     unfold iadd; rw [w64_id (by omega)]; omega
    rw [e]
   ·rw [cnd_t (ilt_t (by omega))]
    have e1 : w64 (iadd (a : Int) 1) = ((a + 1 : Nat) : Int) := by unfold iadd; rw [w64_id (by omega)]; omega
    have e : w64 (iadd ((a + 1 : Nat) : Int) (lenT l[i] : Int)) = ((i + sumT (l.take i) + lenT l[i] : Nat) : Int) := by
     unfold iadd; rw [w64_id (by omega)]; omega
    rw [e1, e]
  ·rw [sumT_take l i hi]; omega
 ·simp only
  rw [cnd_f (ilt_f (by simp only [len]; omega)), hI, List.take_length]
theorem rowsE_zero : ∀ (l : List Row) (k : Int), rowsE l k = 0 → (∀ r ∈ l, rowE r = 0) ∧ k = 0
 | [], k, h => ⟨fun r hr => (by cases hr), h⟩
 | r :: l, k, h => by
  simp only [rowsE] at h
  split at h
  ·rename_i hc; exact absurd h hc
  ·rename_i hc
   obtain ⟨h1, h2⟩ := rowsE_zero l k h
   refine ⟨fun q hq => ?_, h2⟩
   rcases List.mem_cons.1 hq with rfl | hq
   ·simpa using hc
   ·exact h1 q hq
theorem ev_ok {x : Ev} {rs : List Reg} (h : evChk x rs = 0) : 1 ≤ x.1 ∧ x.1 ≤ 1099511627776 ∧ (0 ≤ x.2.1.1 ∧ x.2.1.1 < x.2.1.2 ∧ x.2.1.2 ≤ 5184000) ∧ 0 < x.2.2.2.2.2.length ∧ x.2.2.2.2.2.length ≤ 4 ∧ (∀ r ∈ x.2.2.2.2.2, rowE r = 0) ∧ ∃ r, findR rs x.2.2.1 = some r ∧ (placeS r (lens x.2.2.2.2.2)).2 = 0 := by
 unfold evChk at h
 split at h
 ·cases h
 split at h
 ·cases h
 split at h
 ·cases h
 rename_i c1 c2 c3
 split at h
 ·cases h
 rename_i r hr
 split at h
 ·cases h
 split at h
 ·cases h
 split at h
 ·cases h
 split at h
 ·cases h
 rename_i c6 c7
 obtain ⟨h1, h2⟩ := rowsE_zero _ _ h
 exact ⟨by omega, by omega, by omega, by omega, by omega, h1, r, hr, h2⟩
def ordB (p : Option Ev) (x : Ev) : Bool := match p with
 | some q => decide (lessE q x)
 | none => true
def evRnd (rs : List Reg) (last : Int) (pre : List Ev) (x : Ev) : Int :=
 if evChk x rs ≠ 0 then evChk x rs else if last < x.1 then 2 else if ordB pre.getLast? x = false then 8 else if hasE pre x.1 then 7 else 0
def evsChk (d : Doc) : Int := errL (evRnd d.2.2.2.2.2.1 d.2.2.2.2.1) [] d.2.2.2.2.2.2.1
theorem evRnd_ok {rs : List Reg} {last : Int} {pre : List Ev} {x : Ev} (h : evRnd rs last pre x = 0) : evChk x rs = 0 ∧ x.1 ≤ last ∧ ordB pre.getLast? x = true ∧ ¬ hasE pre x.1 := by
 unfold evRnd at h
 split at h
 ·rename_i hc; exact absurd h hc
 rename_i c1
 split at h
 ·cases h
 rename_i c2
 split at h
 ·cases h
 rename_i c3
 split at h
 ·cases h
 rename_i c4
 exact ⟨by simpa using c1, by omega, by simpa using c3, c4⟩
theorem last_take {α : Type} {l : List α} {i : Nat} (h : i < l.length) : (l.take (i + 1)).getLast? = some l[i] := by
 rw [List.take_succ_eq_append_getElem h, List.getLast?_concat]
end
end Go.Mo
end
section
/-
 Plain facts: the comments of a document, on both sides.
-/
namespace Go.Mo
open Go Go.W Go.Lib
set_option maxRecDepth 100000
noncomputable section
theorem jn_u {α : Type} {K : Unit → Option α} {X : Option α} (h : K () = X) (T : (Unit → Option α) → Option α) : jn K T = T fun _ => X := by
 rw [jn_e, show K = fun _ => X from funext fun _ => h]
def cOrd (p : Option Cmt) (c : Cmt) : Bool := match p with
 | some q => decide (q.1 < c.1)
 | none => true
def evZ : Ev := (0, (0, 0), [], 0, [], [])
def evAt (l : List Ev) (k : Int) : Ev := lget l (toN (findE 0 l k)) evZ
def ancE (d : Doc) (c : Cmt) : Int :=
 if c.2.1 < 1 then 2 else if d.2.2.2.2.1 < c.2.1 then 2 else
 if c.2.2.2.2.2.2.2 = true then (if c.2.2.1 ≠ 0 then 2 else if c.2.2.2.1 ≠ 0 then 2 else 0) else
 if ¬ hasE d.2.2.2.2.2.2.1 c.2.1 then 6 else if c.2.2.1 < 0 then 2 else if c.2.2.2.1 ≤ c.2.2.1 then 2 else
 if evLen (evAt d.2.2.2.2.2.2.1 c.2.1) < c.2.2.2.1 then 2 else 0
def endE (c : Cmt) : Int := if nm c.2.2.2.2.1 = false then 5 else if vld c.2.2.2.2.2.1 = false then 10 else if c.2.2.2.2.2.1 = [] then 4 else if 400 < c.2.2.2.2.2.1.length then 9 else 0
def tailE (d : Doc) (c : Cmt) : Int := if ancE d c ≠ 0 then ancE d c else endE c
def cmtRnd (d : Doc) (pre : List Cmt) (c : Cmt) : Int :=
 if c.1 < 1 then 2 else if d.2.2.2.2.1 < c.1 then 2 else if cOrd pre.getLast? c = false then 8 else if hasE d.2.2.2.2.2.2.1 c.1 then 7 else tailE d c
def cmtsChk (d : Doc) : Int := if 64 < d.2.2.2.2.2.2.2.length then 9 else errL (cmtRnd d) [] d.2.2.2.2.2.2.2
def goodD (d : Doc) : Prop := (∀ x ∈ d.2.2.2.2.2.2.1, (∀ r ∈ x.2.2.2.2.2, okR r) ∧ x.2.2.2.2.2.length ≤ 4) ∧ d.2.2.2.2.2.2.1.length ≤ 400 ∧ ∀ c ∈ d.2.2.2.2.2.2.2, c.2.2.2.2.2.1.length ≤ 4000000
theorem evAt_lenS {d : Doc} (hg : goodD d) {k : Int} (h : hasE d.2.2.2.2.2.2.1 k) : inb (findE 0 d.2.2.2.2.2.2.1 k) (len d.2.2.2.2.2.2.1) = true ∧ 0 ≤ findE 0 d.2.2.2.2.2.2.1 k ∧ q45 fuelH (evAt d.2.2.2.2.2.2.1 k) = some (evLen (evAt d.2.2.2.2.2.2.1 k)) := by
 obtain ⟨j, hj, e1, e2, e3⟩ := findE_yes _ 0 k h
 have he : evAt d.2.2.2.2.2.2.1 k = d.2.2.2.2.2.2.1[j] := by
  unfold evAt
  rw [e1, Nat.zero_add, lget_i hj]
 obtain ⟨h1, h2⟩ := hg.1 _ (List.getElem_mem hj)
 rw [he]
 refine ⟨by rw [e1]; exact inb_t (by simp only [len]; omega), by omega, event_len_eq h1 (by omega)⟩
theorem evAt_len {d : Doc} (hg : goodD d) {k : Int} (h : hasE d.2.2.2.2.2.2.1 k) : inb (findE 0 d.2.2.2.2.2.2.1 k) (len d.2.2.2.2.2.2.1) = true ∧ 0 ≤ findE 0 d.2.2.2.2.2.2.1 k ∧ q45 fuelH (evAt d.2.2.2.2.2.2.1 k) = some (evLen (evAt d.2.2.2.2.2.2.1 k)) ∧ r11_Len fuelH (evAt d.2.2.2.2.2.2.1 k) = some (evLen (evAt d.2.2.2.2.2.2.1 k)) := by
 obtain ⟨q1, q2, q3⟩ := evAt_lenS hg h
 obtain ⟨j, hj, e1, e2, e3⟩ := findE_yes _ 0 k h
 have he : evAt d.2.2.2.2.2.2.1 k = d.2.2.2.2.2.2.1[j] := by
  unfold evAt
  rw [e1, Nat.zero_add, lget_i hj]
 obtain ⟨h1, h2⟩ := hg.1 _ (List.getElem_mem hj)
 exact ⟨q1, q2, q3, by rw [he]; exact r11_len_eq h1 (by omega)⟩
theorem anchored_eq {d : Doc} (hg : goodD d) (c : Cmt) : q46 fuelH (d, c, mapE 0 d.2.2.2.2.2.2.1) = some (ancE d c, mapE 0 d.2.2.2.2.2.2.1) := by
 unfold q46 ancE
 simp only
 rw [cnd_ilt]
 by_cases c1 : c.2.1 < 1
 ·rw [if_pos c1, if_pos c1]
 rw [if_neg c1, if_neg c1, cnd_ilt]
 by_cases c2 : d.2.2.2.2.1 < c.2.1
 ·rw [if_pos c2, if_pos c2]
 rw [if_neg c2, if_neg c2]
 by_cases c3 : c.2.2.2.2.2.2.2 = true
 ·rw [cnd_t c3, if_pos c3, cnd_ine, cnd_ine]
  by_cases c4 : c.2.2.1 ≠ 0
  ·rw [if_pos c4, if_pos c4]
  rw [if_neg c4, if_neg c4]
  by_cases c5 : c.2.2.2.1 ≠ 0
  ·rw [if_pos c5, if_pos c5]
  ·rw [if_neg c5, if_neg c5]
 ·rw [cnd_f (by simpa using c3), if_neg c3, mhas_mapE, cnd_bnot]
  by_cases c4 : hasE d.2.2.2.2.2.2.1 c.2.1
  ·rw [if_pos c4, if_neg (not_not_intro c4), cnd_ilt]
   by_cases c5 : c.2.2.1 < 0
   ·rw [if_pos c5, if_pos c5]
   rw [if_neg c5, if_neg c5, cnd_ile]
   by_cases c6 : c.2.2.2.1 ≤ c.2.2.1
   ·rw [if_pos c6, if_pos c6]
   obtain ⟨q1, q2, q3⟩ := evAt_lenS hg c4
   have hm : mget ieq (0 : Int) (mapE 0 d.2.2.2.2.2.2.1) c.2.1 = findE 0 d.2.2.2.2.2.2.1 c.2.1 := mget_mapE _ _ _ c4
   rw [if_neg c6, if_neg c6, hm, grd_t q1]
   refine Eq.trans (bnd_s (show q45 fuelH (lget d.2.2.2.2.2.2.1 (toN (findE 0 d.2.2.2.2.2.2.1 c.2.1)) evZ) = _ from q3)) ?_
   rw [cnd_ilt]
   by_cases c7 : evLen (evAt d.2.2.2.2.2.2.1 c.2.1) < c.2.2.2.1
   ·rw [if_pos c7, if_pos c7]
   ·rw [if_neg c7, if_neg c7]
  ·rw [if_neg c4, if_pos c4]
theorem comments_eq {d : Doc} (hg : goodD d) : q47 fuelH (d, mapE 0 d.2.2.2.2.2.2.1) = some (cmtsChk d, mapE 0 d.2.2.2.2.2.2.1) := by
 unfold q47 cmtsChk
 simp only
 by_cases h : 64 < d.2.2.2.2.2.2.2.length
 ·rw [cnd_t (ilt_t (by simp only [len]; omega)), if_pos h]
 rw [cnd_f (ilt_f (by simp only [len]; omega)), if_neg h, jn_e]
 have hanc := fun c => anchored_eq hg c
 have hvl := hg.2.2
 generalize hm : mapE 0 d.2.2.2.2.2.2.1 = m at hanc ⊢
 have hmh : ∀ k, mhas ieq m k = decide (hasE d.2.2.2.2.2.2.1 k) := fun k => by rw [← hm]; exact mhas_mapE _ _ _
 generalize hl : d.2.2.2.2.2.2.2 = l at h hvl ⊢
 refine Eq.trans (loop_err (l := l) (fun (_ : Unit) (p : Nat) => ((p : Int), m)) (fun _ => ()) (cmtRnd d) (fun e => (e, m)) (some (0, m)) (fun self i hi => ?_) (fun _ self => ?_) fuelH 0 (Nat.zero_le _) (by have := fuelH_eq; omega) (fun j _ hj => by omega)) ?_
 ·have hin : inb (i : Int) (len l) = true := inb_t (by simp only [len]; omega)
  have hv := hvl _ (List.getElem_mem hi)
  simp only
  rw [cnd_t (ilt_t (by simp only [len]; omega)), grd_t hin, lget_i hi]
  refine Eq.trans (jn_u (X := if tailE d l[i] ≠ 0 then some (tailE d l[i], m) else self (((i + 1 : Nat) : Int), m)) ?_ _) ?_
  ·skip
   rw [hanc, bnd_some']
   unfold tailE
   by_cases c1 : ancE d l[i] ≠ 0
   ·rw [if_pos c1, if_pos c1, cnd_t (ine_t c1)]
   ·rw [if_neg c1, cnd_f (ine_f (by simpa using c1)), lines_name, bnd_some']
    unfold endE
    by_cases c2 : nm l[i].2.2.2.2.1 = false
    ·rw [cnd_t (by rw [c2]; rfl), if_pos c2, if_pos (by decide)]
    rw [cnd_f (by rw [← Bool.not_eq_true, bnot_t]; exact c2), if_neg c2, ch_valid _ hv, bnd_some']
    by_cases c3 : vld l[i].2.2.2.2.2.1 = false
    ·rw [cnd_t (by rw [c3]; rfl), if_pos c3, if_pos (by decide)]
    rw [cnd_f (by rw [← Bool.not_eq_true, bnot_t]; exact c3), if_neg c3]
    by_cases c4 : l[i].2.2.2.2.2.1 = []
    ·rw [cnd_t (by rw [seq_t]; exact c4), if_pos c4, if_pos (by decide)]
    rw [cnd_f (by rw [← Bool.not_eq_true, seq_t]; exact c4), if_neg c4]
    by_cases c5 : 400 < l[i].2.2.2.2.2.1.length
    ·rw [cnd_t (ilt_t (by simp only [len]; omega)), if_pos c5, if_pos (by decide)]
    ·rw [cnd_f (ilt_f (by simp only [len]; omega)), if_neg c5, if_neg (by decide), w64_succ hi (by omega)]
  ·simp only
   rw [cnd_ilt, cnd_ilt]
   unfold cmtRnd
   by_cases c1 : l[i].1 < 1
   ·rw [if_pos c1, if_pos c1, if_pos (by decide)]
   rw [if_neg c1, if_neg c1]
   by_cases c2 : d.2.2.2.2.1 < l[i].1
   ·rw [if_pos c2, if_pos c2, if_pos (by decide)]
   rw [if_neg c2, if_neg c2, hmh]
   cases i with
   | zero =>
    rw [cnd_f (by rfl)]
    have e0 : cOrd (l.take 0).getLast? l[0] = true := rfl
    rw [e0, if_neg (show ¬ true = false by decide), cnd_dec]
    by_cases c3 : hasE d.2.2.2.2.2.2.1 l[0].1
    ·rw [if_pos c3, if_pos c3, if_pos (by decide)]
    ·rw [if_neg c3, if_neg c3]
   | succ i =>
    rw [cnd_t (ilt_t (by omega)), w64_back (by omega), grd_t (inb_t (by simp only [len]; omega)), lget_i (show i < l.length by omega), cnd_ile, cnd_dec]
    have e0 : cOrd (l.take (i + 1)).getLast? l[i + 1] = decide (l[i].1 < l[i + 1].1) := by rw [last_take (show i < l.length by omega)]; rfl
    rw [e0]
    by_cases c4 : l[i + 1].1 ≤ l[i].1
    ·rw [if_pos c4, decide_eq_false (by omega), if_pos rfl, if_pos (by decide)]
    rw [if_neg c4, decide_eq_true (by omega), if_neg (show ¬ true = false by decide)]
    by_cases c3 : hasE d.2.2.2.2.2.2.1 l[i + 1].1
    ·rw [if_pos c3, if_pos c3, if_pos (by decide)]
    ·rw [if_neg c3, if_neg c3]
 ·simp only
  rw [cnd_f (ilt_f (by simp only [len]; omega))]
 ·rw [List.take_zero, List.drop_zero]
  by_cases hc : errL (cmtRnd d) [] l ≠ 0
  ·rw [if_pos hc]
  ·rw [if_neg hc]
   have hc : errL (cmtRnd d) [] l = 0 := by simpa using hc
   rw [hc]
theorem comment_eq {d : Doc} (hg : goodD d) (h64 : d.2.2.2.2.2.2.2.length ≤ 64) {i : Nat} (hi : i < d.2.2.2.2.2.2.2.length) : q85 fuelH (d, (i : Int)) = some (cmtRnd d (d.2.2.2.2.2.2.2.take i) d.2.2.2.2.2.2.2[i]) := by
 unfold q85
 simp only
 have hfind := fun k => find_eq (d := d) (by have := hg.2.1; omega) k
 have hv := hg.2.2 _ (List.getElem_mem hi)
 have hlen := fun k => evAt_len (k := k) hg
 rw [grd_t (inb_t (by simp only [len]; omega)), lget_i hi]
 generalize hl : d.2.2.2.2.2.2.2 = l at hi hv h64 ⊢
 rw [cnd_ilt, cnd_ilt]
 unfold cmtRnd
 by_cases c1 : l[i].1 < 1
 ·rw [if_pos c1, if_pos c1]
 rw [if_neg c1, if_neg c1]
 by_cases c2 : d.2.2.2.2.1 < l[i].1
 ·rw [if_pos c2, if_pos c2]
 rw [if_neg c2, if_neg c2]
 refine Eq.trans (jn_u (X := some (if hasE d.2.2.2.2.2.2.1 l[i].1 then 7 else tailE d l[i])) ?_ _) ?_
 ·skip
  rw [hfind, bnd_some', cnd_ile]
  by_cases c3 : hasE d.2.2.2.2.2.2.1 l[i].1
  ·rw [if_pos (hlen _ c3).2.1, if_pos c3]
  rw [if_neg (by rw [findE_no _ _ _ c3]; decide), if_neg c3]
  unfold tailE ancE
  rw [cnd_ilt, cnd_ilt]
  by_cases a1 : l[i].2.1 < 1
  ·rw [if_pos a1, if_pos a1, if_pos (by decide)]
  rw [if_neg a1, if_neg a1]
  by_cases a2 : d.2.2.2.2.1 < l[i].2.1
  ·rw [if_pos a2, if_pos a2, if_pos (by decide)]
  rw [if_neg a2, if_neg a2]
  refine Eq.trans (jn_u (X := some (endE l[i])) ?_ _) ?_
  ·skip
   rw [r07_name, bnd_some']
   unfold endE
   by_cases c2 : nm l[i].2.2.2.2.1 = false
   ·rw [cnd_t (by rw [c2]; rfl), if_pos c2]
   rw [cnd_f (by rw [← Bool.not_eq_true, bnot_t]; exact c2), if_neg c2, r08_valid _ hv, bnd_some']
   by_cases c3 : vld l[i].2.2.2.2.2.1 = false
   ·rw [cnd_t (by rw [c3]; rfl), if_pos c3]
   rw [cnd_f (by rw [← Bool.not_eq_true, bnot_t]; exact c3), if_neg c3]
   by_cases c4 : l[i].2.2.2.2.2.1 = []
   ·rw [cnd_t (by rw [seq_t]; exact c4), if_pos c4]
   rw [cnd_f (by rw [← Bool.not_eq_true, seq_t]; exact c4), if_neg c4]
   by_cases c5 : 400 < l[i].2.2.2.2.2.1.length
   ·rw [cnd_t (ilt_t (by simp only [len]; omega)), if_pos c5]
   ·rw [cnd_f (ilt_f (by simp only [len]; omega)), if_neg c5]
  ·simp only
   by_cases c3 : l[i].2.2.2.2.2.2.2 = true
   ·rw [cnd_t c3, if_pos c3, cnd_ine, cnd_ine]
    by_cases c4 : l[i].2.2.1 ≠ 0
    ·rw [if_pos c4, if_pos c4, if_pos (by decide)]
    rw [if_neg c4, if_neg c4]
    by_cases c5 : l[i].2.2.2.1 ≠ 0
    ·rw [if_pos c5, if_pos c5, if_pos (by decide)]
    ·rw [if_neg c5, if_neg c5, if_neg (by decide)]
   ·rw [cnd_f (by simpa using c3), if_neg c3, hfind, bnd_some', cnd_ilt]
    by_cases c4 : hasE d.2.2.2.2.2.2.1 l[i].2.1
    ·obtain ⟨q1, q2, q3, q4⟩ := hlen _ c4
     rw [if_neg (by omega), if_neg (not_not_intro c4), cnd_ilt]
     by_cases c5 : l[i].2.2.1 < 0
     ·rw [if_pos c5, if_pos c5, if_pos (by decide)]
     rw [if_neg c5, if_neg c5, cnd_ile]
     by_cases c6 : l[i].2.2.2.1 ≤ l[i].2.2.1
     ·rw [if_pos c6, if_pos c6, if_pos (by decide)]
     rw [if_neg c6, if_neg c6, grd_t q1]
     refine Eq.trans (bnd_s (show r11_Len fuelH (lget d.2.2.2.2.2.2.1 (toN (findE 0 d.2.2.2.2.2.2.1 l[i].2.1)) evZ) = _ from q4)) ?_
     rw [cnd_ilt]
     by_cases c7 : evLen (evAt d.2.2.2.2.2.2.1 l[i].2.1) < l[i].2.2.2.1
     ·rw [if_pos c7, if_pos c7, if_pos (by decide)]
     ·rw [if_neg c7, if_neg c7, if_neg (by decide)]
    ·rw [if_pos (by rw [findE_no _ _ _ c4]; decide), if_pos c4, if_pos (by decide)]
 ·simp only
  cases i with
  | zero =>
   rw [cnd_f (by rfl)]
   have e0 : cOrd (l.take 0).getLast? l[0] = true := rfl
   rw [e0, if_neg (show ¬ true = false by decide)]
  | succ i =>
   rw [cnd_t (ilt_t (by omega)), w64_back (by omega), grd_t (inb_t (by simp only [len]; omega)), lget_i (show i < l.length by omega), cnd_ile]
   have e0 : cOrd (l.take (i + 1)).getLast? l[i + 1] = decide (l[i].1 < l[i + 1].1) := by rw [last_take (show i < l.length by omega)]; rfl
   rw [e0]
   by_cases c4 : l[i + 1].1 ≤ l[i].1
   ·rw [if_pos c4, decide_eq_false (by omega), if_pos rfl]
   ·rw [if_neg c4, decide_eq_true (by omega), if_neg (show ¬ true = false by decide)]
end
end Go.Mo
end
section
/-
 Plain facts: the check of a document is the specified one.
-/
namespace Go.Mo
open Go Go.W Go.Lib
set_option maxRecDepth 100000
noncomputable section
def docChk (d : Doc) : Int :=
 if headChk d ≠ 0 then headChk d else if regsChk d.2.2.2.2.2.1 ≠ 0 then regsChk d.2.2.2.2.2.1 else
 if 400 < d.2.2.2.2.2.2.1.length then 9 else if evsChk d ≠ 0 then evsChk d else cmtsChk d
def smallD (d : Doc) : Prop := d.1.length ≤ 4000000 ∧ d.2.2.2.2.2.1.length ≤ 4000000 ∧ (∀ x ∈ d.2.2.2.2.2.2.1, smallL x.2.2.2.2.2) ∧ ∀ c ∈ d.2.2.2.2.2.2.2, c.2.2.2.2.2.1.length ≤ 4000000
theorem good_of {d : Doc} (hs : smallD d) (hn : d.2.2.2.2.2.2.1.length ≤ 400) (h : ∀ j (h : j < d.2.2.2.2.2.2.1.length), evRnd d.2.2.2.2.2.1 d.2.2.2.2.1 (d.2.2.2.2.2.2.1.take j) d.2.2.2.2.2.2.1[j] = 0) : goodD d := by
 refine ⟨fun x hx => ?_, hn, hs.2.2.2⟩
 obtain ⟨j, hj, rfl⟩ := List.mem_iff_getElem.1 hx
 obtain ⟨h1, _⟩ := evRnd_ok (h j hj)
 obtain ⟨_, _, _, _, h4, h5, _⟩ := ev_ok h1
 exact ⟨fun r hr => rowE_ok (hs.2.2.1 _ hx r hr) (h5 r hr), h4⟩
theorem mput_take {l : List Ev} {i : Nat} (hi : i < l.length) (hn : ¬ hasE (l.take i) l[i].1) : mput ieq (mapE 0 (l.take i)) l[i].1 (i : Int) = mapE 0 (l.take (i + 1)) := by
 rw [mput_new _ (by rw [mhas_mapE, decide_eq_false hn]), List.take_succ_eq_append_getElem hi, mapE_app]
 have : (l.take i).length = i := by rw [List.length_take]; omega
 rw [this, Nat.zero_add]
 rfl
theorem document_check {d : Doc} (hs : smallD d) : q48 fuelH d = some (docChk d) := by
 unfold q48 docChk
 rw [bnd_s (header_eq hs.1)]
 by_cases c1 : headChk d ≠ 0
 ·rw [cnd_t (ine_t c1), if_pos c1]
 rw [cnd_f (ine_f (by simpa using c1)), if_neg c1, bnd_s (region_list _)]
 by_cases c2 : regsChk d.2.2.2.2.2.1 ≠ 0
 ·rw [cnd_t (ine_t c2), if_pos c2]
 rw [cnd_f (ine_f (by simpa using c2)), if_neg c2]
 by_cases c3 : 400 < d.2.2.2.2.2.2.1.length
 ·rw [cnd_t (ilt_t (by simp only [len]; omega)), if_pos c3]
 rw [cnd_f (ilt_f (by simp only [len]; omega)), if_neg c3, jn_e]
 have hgood := @good_of d hs (by omega)
 have hcm := @comments_eq d
 unfold evsChk
 have hev := hs.2.2.1
 generalize hl : d.2.2.2.2.2.2.1 = l at c3 hgood hcm hev ⊢
 refine Eq.trans (loop_err (l := l) (fun (a : List (Int × Int)) (p : Nat) => ((p : Int), a)) (fun pre => mapE 0 pre) (evRnd d.2.2.2.2.2.1 d.2.2.2.2.1) (fun e => e) (some (cmtsChk d)) (fun self i hi => ?_) (fun hz self => ?_) fuelH 0 (Nat.zero_le _) (by have := fuelH_eq; omega) (fun j _ hj => by omega)) ?_
 ·have hin : inb (i : Int) (len l) = true := inb_t (by simp only [len]; omega)
  have hx := hev _ (List.getElem_mem hi)
  simp only
  rw [cnd_t (ilt_t (by simp only [len]; omega)), grd_t hin, lget_i hi, bnd_s (event_check_eq hx hs.2.1), cnd_ilt, w64_succ hi (by omega)]
  unfold evRnd
  by_cases e1 : evChk l[i] d.2.2.2.2.2.1 ≠ 0
  ·rw [if_pos e1, if_pos e1, cnd_t (ine_t e1)]
  rw [if_neg e1, cnd_f (ine_f (by simpa using e1))]
  by_cases e2 : d.2.2.2.2.1 < l[i].1
  ·rw [if_pos e2, if_pos e2, if_pos (by decide)]
  rw [if_neg e2, if_neg e2]
  have hput := fun h => mput_take hi h
  cases i with
  | zero =>
   rw [cnd_f (by rfl), mhas_mapE, cnd_dec]
   have e0 : ordB (l.take 0).getLast? l[0] = true := rfl
   rw [e0, if_neg (show ¬ true = false by decide)]
   by_cases e3 : hasE (l.take 0) l[0].1
   ·rw [if_pos e3, if_pos e3, if_pos (by decide)]
   ·rw [if_neg e3, if_neg e3, hput e3, if_neg (by decide)]
  | succ i =>
   rw [cnd_t (ilt_t (by omega)), w64_back (by omega), grd_t (inb_t (by simp only [len]; omega)), lget_i (show i < l.length by omega), bnd_s (event_less _ _), mhas_mapE, cnd_dec, cnd_bnot]
   have e0 : ordB (l.take (i + 1)).getLast? l[i + 1] = decide (lessE l[i] l[i + 1]) := by rw [last_take (show i < l.length by omega)]; rfl
   rw [e0]
   by_cases e4 : lessE l[i] l[i + 1]
   ·rw [if_pos e4, decide_eq_true e4, if_neg (show ¬ true = false by decide)]
    by_cases e3 : hasE (l.take (i + 1)) l[i + 1].1
    ·rw [if_pos e3, if_pos e3, if_pos (by decide)]
    ·rw [if_neg e3, if_neg e3, hput e3, if_neg (by decide)]
   ·rw [if_neg e4, decide_eq_false e4, if_pos rfl, if_pos (by decide)]
 ·simp only
  rw [cnd_f (ilt_f (by simp only [len]; omega)), bnd_s (hcm (hgood hz))]
 ·rw [List.take_zero, List.drop_zero]
  split <;> rfl
theorem r12_check {d : Doc} (hs : smallD d) : q86 fuelH d = some (docChk d) := by
 unfold q86 docChk
 rw [bnd_s (checkHead_eq hs.1)]
 by_cases c1 : headChk d ≠ 0
 ·rw [cnd_t (ine_t c1), if_pos c1]
 rw [cnd_f (ine_f (by simpa using c1)), if_neg c1, bnd_s (r10_list _)]
 by_cases c2 : regsChk d.2.2.2.2.2.1 ≠ 0
 ·rw [cnd_t (ine_t c2), if_pos c2]
 rw [cnd_f (ine_f (by simpa using c2)), if_neg c2]
 by_cases c3 : 400 < d.2.2.2.2.2.2.1.length
 ·rw [cnd_t (ilt_t (by simp only [len]; omega)), if_pos c3]
 rw [cnd_f (ilt_f (by simp only [len]; omega)), if_neg c3, jn_e]
 have hgood := @good_of d hs (by omega)
 have hcm := @comment_eq d
 have hfind := fun k => find_eq (d := d) (by omega) k
 unfold evsChk
 have hev := hs.2.2.1
 generalize hl : d.2.2.2.2.2.2.1 = l at c3 hgood hfind hev ⊢
 refine Eq.trans (loop_err (l := l) (fun (_ : Unit) (p : Nat) => (p : Int)) (fun _ => ()) (evRnd d.2.2.2.2.2.1 d.2.2.2.2.1) (fun e => e) (some (cmtsChk d)) (fun self i hi => ?_) (fun hz self => ?_) fuelH 0 (Nat.zero_le _) (by have := fuelH_eq; omega) (fun j _ hj => by omega)) ?_
 ·have hin : inb (i : Int) (len l) = true := inb_t (by simp only [len]; omega)
  have hx := hev _ (List.getElem_mem hi)
  have hat := findE_at hi
  rw [cnd_t (ilt_t (by simp only [len]; omega)), grd_t hin, lget_i hi, bnd_s (r11_check_eq hx hs.2.1), cnd_ilt, w64_succ hi (by omega)]
  unfold evRnd
  by_cases e1 : evChk l[i] d.2.2.2.2.2.1 ≠ 0
  ·rw [if_pos e1, if_pos e1, cnd_t (ine_t e1)]
  rw [if_neg e1, cnd_f (ine_f (by simpa using e1))]
  by_cases e2 : d.2.2.2.2.1 < l[i].1
  ·rw [if_pos e2, if_pos e2, if_pos (by decide)]
  rw [if_neg e2, if_neg e2]
  cases i with
  | zero =>
   rw [cnd_f (by rfl), hfind, bnd_some', cnd_ine]
   have e0 : ordB (l.take 0).getLast? l[0] = true := rfl
   rw [e0, if_neg (show ¬ true = false by decide)]
   by_cases e3 : hasE (l.take 0) l[0].1
   ·rw [if_pos (fun e => hat.1 e e3), if_pos e3, if_pos (by decide)]
   ·rw [if_neg (not_not_intro (hat.2 e3)), if_neg e3, if_neg (by decide)]
  | succ i =>
   rw [cnd_t (ilt_t (by omega)), w64_back (by omega), grd_t (inb_t (by simp only [len]; omega)), lget_i (show i < l.length by omega), bnd_s (r11_less _ _ _), hfind, bnd_some', cnd_ine, cnd_bnot]
   have e0 : ordB (l.take (i + 1)).getLast? l[i + 1] = decide (lessE l[i] l[i + 1]) := by rw [last_take (show i < l.length by omega)]; rfl
   rw [e0]
   by_cases e4 : lessE l[i] l[i + 1]
   ·rw [if_pos e4, decide_eq_true e4, if_neg (show ¬ true = false by decide)]
    by_cases e3 : hasE (l.take (i + 1)) l[i + 1].1
    ·rw [if_pos (fun e => hat.1 e e3), if_pos e3, if_pos (by decide)]
    ·rw [if_neg (not_not_intro (hat.2 e3)), if_neg e3, if_neg (by decide)]
   ·rw [if_neg e4, decide_eq_false e4, if_pos rfl, if_pos (by decide)]
 ·rw [cnd_f (ilt_f (by simp only [len]; omega))]
  have hg := hgood hz
  unfold cmtsChk
  by_cases h64 : 64 < d.2.2.2.2.2.2.2.length
  ·rw [cnd_t (ilt_t (by simp only [len]; omega)), if_pos h64]
  rw [cnd_f (ilt_f (by simp only [len]; omega)), if_neg h64, jn_e]
  have hcm := @hcm hg (by omega)
  generalize hm : d.2.2.2.2.2.2.2 = m at h64 hcm ⊢
  refine Eq.trans (loop_err (l := m) (fun (_ : Unit) (p : Nat) => (p : Int)) (fun _ => ()) (cmtRnd d) (fun e => e) (some 0) (fun self i hi => ?_) (fun _ self => ?_) fuelH 0 (Nat.zero_le _) (by have := fuelH_eq; omega) (fun j _ hj => by omega)) ?_
  ·rw [cnd_t (ilt_t (by simp only [len]; omega)), hcm hi, bnd_some', cnd_ine, w64_succ hi (by omega)]
  ·rw [cnd_f (ilt_f (by simp only [len]; omega))]
  ·rw [List.take_zero, List.drop_zero]
   by_cases hc : errL (cmtRnd d) [] m ≠ 0
   ·rw [if_pos hc]
   ·rw [if_neg hc]
    have hc : errL (cmtRnd d) [] m = 0 := by simpa using hc
    rw [hc]
 ·rw [List.take_zero, List.drop_zero]
  split <;> rfl
end
end Go.Mo
end
section
/-
 Plain facts: the place of a good event, and its region.
-/
namespace Go.Mo
open Go Go.W Go.Lib
set_option maxRecDepth 100000
noncomputable section
end
end Go.Mo
end
section
/-
 Plain facts: the document as the form carries it, on both sides.
-/
namespace Go.Mo
open Go Go.W Go.Lib
set_option maxRecDepth 100000
noncomputable section
end
end Go.Mo
end
section
/-
 Plain facts: a document is the same as itself; StlAccepts returns true.
-/
namespace Go.Mo
open Go Go.W Go.Lib
set_option maxRecDepth 100000
noncomputable section
theorem regs_self {l : List Reg} (hl : l.length ≤ 1000000) : q121 fuelH (l, l) = some true := by
 unfold q121
 simp only
 rw [cnd_f (ine_f rfl), jn_e]
 refine loop_inv (n := l.length) (fun (_ : Unit) (i : Nat) => (i : Int)) (fun _ _ => True) _ (fun self a i hi _ => ⟨(), ?_, trivial⟩) (fun self a _ => ?_) fuelH 0 () (Nat.zero_le _) (by have := fuelH_eq; omega) trivial
 ·have hin : inb (i : Int) (len l) = true := inb_t (by simp only [len]; omega)
  rw [cnd_t (ilt_t (by simp only [len]; omega)), grd_t hin, grd_t hin, lget_i hi, w64_succ hi (by omega), cnd_f]
  rw [← Bool.not_eq_true, bnot_t, Bool.eq_false_iff]
  intro h
  refine h ?_
  simp only [band_tt, seq_t, ieq_tt, beqb_t]
  simp
 ·rw [cnd_f (ilt_f (by simp only [len]; omega))]
theorem ev_self {x : Ev} (h1 : x.2.2.2.2.2.length ≤ 4000000) (h2 : ∀ r ∈ x.2.2.2.2.2, r.length ≤ 4000000) : q126 fuelH (x, x) = some true := by
 unfold q126
 simp only
 rw [cnd_t (ieq_t rfl), cnd_t (by simp [band_tt, ieq_tt]), cnd_t (by rw [seq_t]), cnd_t (ieq_t rfl), cnd_t (by rw [seq_t]), same_rows _ _ h1 h2, bnd_some']
 simp
theorem evs_self {l : List Ev} (hl : l.length ≤ 1000000) (h : ∀ x ∈ l, x.2.2.2.2.2.length ≤ 4000000 ∧ ∀ r ∈ x.2.2.2.2.2, r.length ≤ 4000000) : q127 fuelH (l, l) = some true := by
 unfold q127
 simp only
 rw [cnd_f (ine_f rfl), jn_e]
 refine loop_inv (n := l.length) (fun (_ : Unit) (i : Nat) => (i : Int)) (fun _ _ => True) _ (fun self a i hi _ => ⟨(), ?_, trivial⟩) (fun self a _ => ?_) fuelH 0 () (Nat.zero_le _) (by have := fuelH_eq; omega) trivial
 ·have hin : inb (i : Int) (len l) = true := inb_t (by simp only [len]; omega)
  obtain ⟨h1, h2⟩ := h _ (List.getElem_mem hi)
  rw [cnd_t (ilt_t (by simp only [len]; omega)), grd_t hin, grd_t hin, lget_i hi, w64_succ hi (by omega), bnd_s (ev_self h1 h2), cnd_f (by rfl)]
 ·rw [cnd_f (ilt_f (by simp only [len]; omega))]
theorem doc_self {d : Doc} (h1 : d.2.2.2.2.2.1.length ≤ 1000000) (h2 : d.2.2.2.2.2.2.1.length ≤ 1000000) (h3 : ∀ x ∈ d.2.2.2.2.2.2.1, x.2.2.2.2.2.length ≤ 4000000 ∧ ∀ r ∈ x.2.2.2.2.2, r.length ≤ 4000000) (h4 : d.2.2.2.2.2.2.2 = []) : q129 fuelH (d, d) = some true := by
 unfold q129
 have hh : q120 fuelH d = some (d.1, d.2.1, d.2.2.1, d.2.2.2.1, d.2.2.2.2.1) := rfl
 simp only
 rw [hh, bnd_some', bnd_some', cnd_t (by simp [band_tt, ieq_tt, seq_t, beqb_t]), regs_self h1, bnd_some', cnd_t rfl, evs_self h2 h3, bnd_some', cnd_t rfl, h4]
 have : q128 fuelH ([], []) = some true := by kernel_rfl
 rw [this]
 rfl
end
end Go.Mo
end
section
/-
 Plain facts: StlAccepts returns true.
-/
namespace Go.Mo
open Go Go.W Go.Lib
set_option maxRecDepth 100000
noncomputable section
def wtG (r : Reg) : Nat := r.1.length + 1 + (1 + (1 + (1 + (1 + (1 + 1)))))
def wtX (x : Ev) : Nat := 1 + (1 + 1 + (x.2.2.1.length + 1 + (1 + (x.2.2.2.2.1.length + 1 + (bkL wtR x.2.2.2.2.2 + 1)))))
def wtC (c : Cmt) : Nat := 1 + (1 + (1 + (1 + (c.2.2.2.2.1.length + 1 + (c.2.2.2.2.2.1.length + 1 + (1 + 1))))))
def wtD (d : Doc) : Nat := d.1.length + 1 + (d.2.1.length + 1 + (1 + (1 + (1 + (bkL wtG d.2.2.2.2.2.1 + 1 + (bkL wtX d.2.2.2.2.2.2.1 + 1 + (bkL wtC d.2.2.2.2.2.2.2 + 1)))))))
end
end Go.Mo
end
section
/-
 Plain facts: texts that are joined; the normal form of a row that is good.
-/
namespace Go.Mo
open Go Go.W Go.Lib
set_option maxRecDepth 100000
noncomputable section
end
end Go.Mo
end
section
/-
 Plain facts: the regions of a reduced document; its events stand where they stood.
-/
namespace Go.Mo
open Go Go.W Go.Lib
set_option maxRecDepth 100000
noncomputable section
end
end Go.Mo
end
section
/-
 Plain facts: a reduced document is good; StlReduced returns true.
-/
namespace Go.Mo
open Go Go.W Go.Lib
set_option maxRecDepth 100000
noncomputable section
theorem doc_parts {d : Doc} (h : docChk d = 0) : headChk d = 0 ∧ d.2.2.2.2.2.2.1.length ≤ 400 ∧ evsChk d = 0 := by
 unfold docChk at h
 split at h
 ·rename_i hc; exact absurd h hc
 rename_i c1
 split at h
 ·rename_i hc; exact absurd h hc
 split at h
 ·cases h
 rename_i hn
 split at h
 ·rename_i hc; exact absurd h hc
 rename_i hc
 exact ⟨by simpa using c1, by omega, by simpa using hc⟩
end
end Go.Mo
end
section
/-
 Plain facts: digits and the bytes of a header.
-/
namespace Go.Mo
open Go Go.W Go.Lib
set_option maxRecDepth 100000
end Go.Mo
end
section
/-
 Plain facts: what the check of a header lets through; the bytes of a header.
-/
namespace Go.Mo
open Go Go.W Go.Lib
set_option maxRecDepth 100000
noncomputable section
def lblOk (l : Lbl) : Prop := (0 ≤ l.1 ∧ l.1 ≤ 23) ∧ (0 ≤ l.2.1 ∧ l.2.1 ≤ 59) ∧ (0 ≤ l.2.2.1 ∧ l.2.2.1 ≤ 59) ∧ (0 ≤ l.2.2.2.1 ∧ l.2.2.2.1 ≤ 59)
structure HdrOk (h : Hdr) : Prop where
 rate : h.1 = 3 ∨ h.1 = 5
 lang : h.2.1 = [] ∨ nm h.2.1 = true
 ttl : vld h.2.2.1 = true
 ttlL : h.2.2.1.length ≤ 400
 blocks : 0 ≤ h.2.2.2.1 ∧ h.2.2.2.1 ≤ 99999
 groups : 0 ≤ h.2.2.2.2.1 ∧ h.2.2.2.2.1 ≤ 99999
 start : lblOk h.2.2.2.2.2.1
 first : lblOk h.2.2.2.2.2.2.1
 rows : 0 ≤ h.2.2.2.2.2.2.2.1 ∧ h.2.2.2.2.2.2.2.1 ≤ 99
 cols : 0 ≤ h.2.2.2.2.2.2.2.2 ∧ h.2.2.2.2.2.2.2.2 ≤ 99
 d1 : h.2.2.2.2.2.1.2.2.2.2 = false
 d2 : h.2.2.2.2.2.2.1.2.2.2.2 = false
end
end Go.Mo
end
section
/-
 Plain facts: numbers and names read back.
-/
namespace Go.Mo
open Go Go.W Go.Lib
set_option maxRecDepth 100000
noncomputable section
end
end Go.Mo
end
section
/-
 Plain facts: a header read back; TapeHeaders.
-/
namespace Go.Mo
open Go Go.W Go.Lib
set_option maxRecDepth 100000
noncomputable section
def hz : Hdr := ((0 : UInt8), ([] : List UInt8), ([] : List UInt8), (0 : Int), (0 : Int), ((0 : Int), (0 : Int), (0 : Int), (0 : Int), false), ((0 : Int), (0 : Int), (0 : Int), (0 : Int), false), (0 : Int), (0 : Int))
end
end Go.Mo
end
section
/-
 Plain facts: rows that are read are small; a subtitle that is read, both sides.
-/
namespace Go.Mo
open Go Go.W Go.Lib
set_option maxRecDepth 100000
noncomputable section
end
end Go.Mo
end
section
/-
 Plain facts: events in document order, both sides.
-/
namespace Go.Mo
open Go Go.W Go.Lib
set_option maxRecDepth 100000
noncomputable section
def tinyE (x : Ev) : Prop := x.2.2.2.2.2.length ≤ 1000000 ∧ ∀ r ∈ x.2.2.2.2.2, r.length ≤ 1000000
theorem clone_run {l : Row} (h : l.length ≤ 4000000) : q111 fuelH l = some l := by
 have h1 : grd (room (iadd (len ([] : Row)) (len l)) 40) (some (lapp ([] : Row) l)) = some l := by
  rw [grd_t (room_t (by simp only [iadd, len, List.length_nil]; omega))]; rfl
 unfold q111
 cases l with
 | nil =>
  rw [cnd_f (by rfl)]
  exact univ_of rfl h1
 | cons r l =>
  rw [cnd_t (ine_t (by simp only [len, List.length_cons]; omega))]
  exact h1
theorem style_clone {l : List Row} (hl : l.length ≤ 1000000) (h : ∀ r ∈ l, r.length ≤ 1000000) : q112 fuelH l = some l := by
 unfold q112
 rw [clone_rows (by omega), bnd_some', jn_e]
 refine loop_inv (n := l.length) (fun (a : List Row) (i : Nat) => ((i : Int), a)) (fun _ a => a = l) _ (fun self a i hi hI => ?_) (fun self a hI => ?_) fuelH 0 l (Nat.zero_le _) (by have := fuelH_eq; omega) rfl
 ·subst hI
  have hin : inb (i : Int) (len a) = true := inb_t (by simp only [len]; omega)
  have hr := h _ (List.getElem_mem hi)
  refine ⟨a, ?_, rfl⟩
  have ht : toN (i : Int) = i := by simp [toN]
  simp only
  rw [cnd_t (ilt_t (by simp only [len]; omega)), grd_t hin, lget_i hi, clone_run (by omega), bnd_some', grd_t hin, w64_succ hi (by omega), ht]
  unfold lset
  rw [List.set_getElem_self]
 ·simp only
  rw [cnd_f (ilt_f (by simp only [len]; omega)), hI]
theorem ref_clone {l : List Row} (hl : l.length ≤ 1000000) (h : ∀ r ∈ l, r.length ≤ 1000000) : q116 fuelH l = some l := by
 unfold q116
 rw [jn_e]
 refine loop_inv (n := l.length) (fun (a : List Row) (i : Nat) => (a, (i : Int))) (fun i a => a = l.take i) _ (fun self a i hi hI => ?_) (fun self a hI => ?_) fuelH 0 [] (Nat.zero_le _) (by have := fuelH_eq; omega) rfl
 ·have hr := h _ (List.getElem_mem hi)
  have ha : a.length ≤ i := by rw [hI, List.length_take]; omega
  refine ⟨a ++ [l[i]], ?_, by rw [hI, List.take_succ_eq_append_getElem hi]⟩
  simp only
  rw [cnd_t (ilt_t (by simp only [len]; omega)), grd_t (inb_t (by simp only [len]; omega)), lget_i hi, grd_t (room_t (by simp only [iadd, len, List.length_nil]; omega)), grd_t (room_t (by simp only [iadd, len, List.length_singleton]; omega)), w64_succ hi (by omega)]
  rfl
 ·simp only
  rw [cnd_f (ilt_f (by simp only [len]; omega)), hI, List.take_length]
theorem event_clone {x : Ev} (h : tinyE x) : q113 fuelH x = some x := by
 unfold q113
 rw [style_clone h.1 h.2]
 rfl
theorem r11_clone {x : Ev} (h : tinyE x) : q117 fuelH x = some x := by
 unfold q117
 rw [ref_clone h.1 h.2]
 rfl
end
end Go.Mo
end
section
/-
 Plain facts: the program's sorting of few events.
-/
namespace Go.Mo
open Go Go.W Go.Lib
set_option maxRecDepth 100000
noncomputable section
end
end Go.Mo
end
section
/-
 Plain facts: what is read is a valid document that the form carries; StlValid returns true.
-/
namespace Go.Mo
open Go Go.W Go.Lib
set_option maxRecDepth 100000
noncomputable section
end
end Go.Mo
end
section
/-
 Plain facts: the blocks of a subtitle lead back to it.
-/
namespace Go.Mo
open Go Go.W Go.Lib
set_option maxRecDepth 100000
noncomputable section
end
end Go.Mo
end
section
/-
 Plain facts: the file of an accepted document is read as the reduced document; StlCarries returns true.
-/
namespace Go.Mo
open Go Go.W Go.Lib
set_option maxRecDepth 100000
noncomputable section
end
end Go.Mo
end
end

section
/-
  Plain facts: loops over a text; letters; the escaped text, both sides.
-/
set_option linter.all false
namespace Go.Mo
open Go Go.W Go.Lib
set_option maxRecDepth 100000
noncomputable section
theorem drop_loop {V R σ α : Type} {F : (V → Option R) → V → Option R} {s : List α} (st : σ → Nat → V) (spec : σ → List α → Option R) (I : Nat → σ → Prop)
  (hstep : ∀ self a i, i ≤ s.length → I i a → (∀ a' j, i < j → j ≤ s.length → I j a' → self (st a' j) = spec a' (s.drop j)) → F self (st a i) = spec a (s.drop i)) :
  ∀ (fuel i : Nat) (a : σ), s.length - i < fuel → i ≤ s.length → I i a → fixN F fuel (st a i) = spec a (s.drop i)
 | 0, i, a, h, _, _ => by omega
 | fuel + 1, i, a, h, hi, hI => by
  rw [fixN_s]
  exact hstep _ a i hi hI fun a' j hj hj2 hI2 => drop_loop st spec I hstep fuel j a' (by omega) hj2 hI2
theorem fuelH_len {α : Type} {s : List α} (h : s.length ≤ 4000000) (i : Nat) : s.length - i < fuelH := by have := fuelH_eq; omega
def letB (x : UInt8) : Bool := (decide (97 ≤ x.toNat) && decide (x.toNat ≤ 122)) || (decide (65 ≤ x.toNat) && decide (x.toNat ≤ 90))
def digB (x : UInt8) : Bool := decide (48 ≤ x.toNat) && decide (x.toNat ≤ 57)
def namB (x : UInt8) : Bool := letB x || digB x || x == 45
def wsB (x : UInt8) : Bool := x == 9 || x == 10 || x == 13 || x == 32
theorem letters_tab : ((List.range 256).all fun n => decide (q57 0 (UInt8.ofNat n) = some (letB (UInt8.ofNat n)) ∧ q95 0 (UInt8.ofNat n) = some (letB (UInt8.ofNat n)) ∧ q58 0 (UInt8.ofNat n) = some (namB (UInt8.ofNat n)) ∧ q96 0 (UInt8.ofNat n) = some (digB (UInt8.ofNat n)) ∧ q130 0 (UInt8.ofNat n) = some (wsB (UInt8.ofNat n)))) = true := by kernel_rfl
theorem letters (x : UInt8) : q57 0 x = some (letB x) ∧ q95 0 x = some (letB x) ∧ q58 0 x = some (namB x) ∧ q96 0 x = some (digB x) ∧ q130 0 x = some (wsB x) :=
 of_decide_eq_true (all_u8 (P := fun x => decide (q57 0 x = some (letB x) ∧ q95 0 x = some (letB x) ∧ q58 0 x = some (namB x) ∧ q96 0 x = some (digB x) ∧ q130 0 x = some (wsB x))) letters_tab x)
theorem letter_eq (N : Nat) (x : UInt8) : q57 N x = some (letB x) := (letters x).1
theorem rletter_eq (N : Nat) (x : UInt8) : q95 N x = some (letB x) := (letters x).2.1
theorem namb_eq (N : Nat) (x : UInt8) : q58 N x = some (namB x) := (letters x).2.2.1
theorem rdigit_eq (N : Nat) (x : UInt8) : q96 N x = some (digB x) := (letters x).2.2.2.1
theorem rall_eq {s : List UInt8} (hs : s.length ≤ 600000000) (c : UInt8) (r : List UInt8) (hr : r ≠ [c]) (hr2 : r.length ≤ 6) : q62 fuelH (s, [c], r) = some (s.flatMap (sub1 c r)) := by
 have h1 : q62 fuelH (s, [c], r) = grd (decide (s.length < 4294967281)) (grd (decide (1 ≤ ([c] : List UInt8).length)) (grd (decide (s.length + Lib.count s [c] * r.length ≤ 140737488355328)) (some (Lib.replace s [c] r (-1))))) := by
  unfold q62 strings_Replace hand_strings_Replace
  generalize hX : grd _ _ = X
  cases X <;> rfl
 have hc := Lib.count_le s [c]
 have hm : Lib.count s [c] * r.length ≤ (s.length + 1) * 6 := Nat.mul_le_mul hc hr2
 rw [h1, grd_t (decide_eq_true (by omega)), grd_t (by rfl), grd_t (decide_eq_true (by omega)), replace_flat c r s hr]
theorem escN (N : Nat) (x : List UInt8) : q63 (N + 10) x = bnd (q62 (N + 10) (x, [38], [38, 97, 109, 112, 59])) fun a => bnd (q62 (N + 10) (a, [60], [38, 108, 116, 59])) fun b => bnd (q62 (N + 10) (b, [62], [38, 103, 116, 59])) fun c => bnd (q62 (N + 10) (c, [34], [38, 113, 117, 111, 116, 59])) fun d => bnd (q62 (N + 10) (d, [39], [38, 97, 112, 111, 115, 59])) fun e => some e := by kernel_rfl
theorem sub1_len (c : UInt8) {r : List UInt8} {k : Nat} (hr : r.length ≤ k) (hk : 1 ≤ k) (b : UInt8) : (sub1 c r b).length ≤ k := by
 unfold sub1
 split
 ·exact hr
 ·exact hk
theorem esc_eq {s : List UInt8} (hs : s.length ≤ 1100000) : q63 fuelH s = some (esc s) := by
 have h0 := escN (fuelM + 4990) s
 have l1 := flat_len (sub1_len 38 (r := [38, 97, 109, 112, 59]) (k := 5) (by decide) (by decide)) s
 have l2 := flat_len (sub1_len 60 (r := [38, 108, 116, 59]) (k := 4) (by decide) (by decide)) (s.flatMap (sub1 38 [38, 97, 109, 112, 59]))
 have l3 := flat_len (sub1_len 62 (r := [38, 103, 116, 59]) (k := 4) (by decide) (by decide)) ((s.flatMap (sub1 38 [38, 97, 109, 112, 59])).flatMap (sub1 60 [38, 108, 116, 59]))
 have l4 := flat_len (sub1_len 34 (r := [38, 113, 117, 111, 116, 59]) (k := 6) (by decide) (by decide)) (((s.flatMap (sub1 38 [38, 97, 109, 112, 59])).flatMap (sub1 60 [38, 108, 116, 59])).flatMap (sub1 62 [38, 103, 116, 59]))
 show q63 (fuelM + 4990 + 10) s = _
 rw [h0]
 show (bnd (q62 fuelH _) _) = _
 rw [rall_eq (by omega) 38 _ (by decide) (by decide), bnd_some']
 show (bnd (q62 fuelH _) _) = _
 rw [rall_eq (by omega) 60 _ (by decide) (by decide), bnd_some']
 show (bnd (q62 fuelH _) _) = _
 rw [rall_eq (by omega) 62 _ (by decide) (by decide), bnd_some']
 show (bnd (q62 fuelH _) _) = _
 rw [rall_eq (by omega) 34 _ (by decide) (by decide), bnd_some']
 show (bnd (q62 fuelH _) _) = _
 rw [rall_eq (by omega) 39 _ (by decide) (by decide), bnd_some', esc_five]
theorem esc_cons (b : UInt8) (l : List UInt8) : esc (b :: l) = escB b ++ esc l := by unfold esc; rw [List.flatMap_cons]
theorem resc_eq {s : List UInt8} (hs : s.length ≤ 1100000) : q100 fuelH s = some (esc s) := by
 unfold q100
 rw [jn_e]
 have h := drop_loop (s := s) (fun (a : List UInt8) (i : Nat) => (a, (i : Int))) (fun a l => some (a ++ esc l)) (fun i a => a.length ≤ 6 * i)
  (F := fun v2 (v3 : (List UInt8) × Int) =>
  cnd (ilt v3.2 (len s))
   (jn (fun (v4 : List UInt8) =>
    v2 (v4, w64 (iadd v3.2 (1 : Int))))
   fun v5 =>
   grd (inb v3.2 (len s)) <|
   cnd (ieq (n8 (lget s (toN v3.2) (0 : UInt8))) (n8 (38 : UInt8)))
    (grd (catOk (iadd (len v3.1) (len ([38, 97, 109, 112, 59] : List UInt8))))
     (v5 (lapp v3.1 ([38, 97, 109, 112, 59] : List UInt8))))
    (cnd (ieq (n8 (lget s (toN v3.2) (0 : UInt8))) (n8 (60 : UInt8)))
     (grd (catOk (iadd (len v3.1) (len ([38, 108, 116, 59] : List UInt8))))
      (v5 (lapp v3.1 ([38, 108, 116, 59] : List UInt8))))
     (cnd (ieq (n8 (lget s (toN v3.2) (0 : UInt8))) (n8 (62 : UInt8)))
      (grd (catOk (iadd (len v3.1) (len ([38, 103, 116, 59] : List UInt8))))
       (v5 (lapp v3.1 ([38, 103, 116, 59] : List UInt8))))
      (cnd (ieq (n8 (lget s (toN v3.2) (0 : UInt8))) (n8 (34 : UInt8)))
       (grd (catOk (iadd (len v3.1) (len ([38, 113, 117, 111, 116, 59] : List UInt8))))
        (v5 (lapp v3.1 ([38, 113, 117, 111, 116, 59] : List UInt8))))
       (cnd (ieq (n8 (lget s (toN v3.2) (0 : UInt8))) (n8 (39 : UInt8)))
        (grd (catOk (iadd (len v3.1) (len ([38, 97, 112, 111, 115, 59] : List UInt8))))
         (v5 (lapp v3.1 ([38, 97, 112, 111, 115, 59] : List UInt8))))
        (grd (in3 v3.2 (w64 (iadd v3.2 (1 : Int))) (len s))
         (grd (catOk (iadd (len v3.1) (len (ldrop (toN v3.2) (ltake (toN (w64 (iadd v3.2 (1 : Int)))) s)))))
          (v5 (lapp v3.1 (ldrop (toN v3.2) (ltake (toN (w64 (iadd v3.2 (1 : Int)))) s)))))))))))
   (some v3.1)) ?_ fuelH 0 [] (fuelH_len (by omega) 0) (Nat.zero_le _) (by simp)
 ·exact h
 ·intro self a i hi hI hself
  by_cases hl : i < s.length
  ·have g : lget s (toN (i : Int)) (0 : UInt8) = s[i] := lget_i hl
   have hw : w64 (iadd (i : Int) 1) = ((i + 1 : Nat) : Int) := w64_succ hl (by omega)
   have hsl : ldrop (toN (i : Int)) (ltake (toN ((i + 1 : Nat) : Int)) s) = [s[i]] := by
    simp only [ldrop, ltake, toN, Int.toNat_natCast]
    rw [List.take_succ_eq_append_getElem hl, List.drop_left' (by simp; omega)]
   have he := hself (a ++ escB s[i]) (i + 1) (by omega) (by omega) (by have := (escB_len s[i]).2; simp; omega)
   have hb := (escB_len s[i]).2
   rw [List.drop_eq_getElem_cons hl, esc_cons, ← List.append_assoc, ← he]
   show cnd (ilt (i : Int) (len s)) _ _ = _
   rw [cnd_t (ilt_t (by simp only [len]; omega)), jn_e, grd_t (inb_t (by simp only [len]; omega))]
   simp only [g, hw, hsl, cnd_ieq, n8_eq]
   unfold escB at *
   have hin : in3 (i : Int) ((i + 1 : Nat) : Int) (len s) = true := decide_eq_true (by simp only [len]; omega)
   repeat' split
   all_goals (try rw [grd_t hin])
   all_goals (rw [grd_t (catOk_t (by simp only [len, iadd, List.length_cons, List.length_nil]; omega))]; rfl)
  ·obtain rfl : i = s.length := by omega
   show cnd (ilt (s.length : Int) (len s)) _ _ = _
   rw [cnd_f (ilt_f (by simp only [len]; omega)), List.drop_length]
   simp [esc]
end
end Go.Mo
end

section
/-
  Plain facts: what references mean and the text that is meant, both sides.
-/
set_option linter.all false
namespace Go.Mo
open Go Go.W Go.Lib
set_option maxRecDepth 100000
noncomputable section
theorem scan {R : Type} {F : (Int → Option R) → Int → Option R} {s : List UInt8} (P : UInt8 → Bool) (K : Int → Option R)
  (hin : ∀ self i (h : i < s.length), F self (i : Int) = if P s[i] = true then self ((i + 1 : Nat) : Int) else K i) (hend : ∀ self, F self (s.length : Int) = K s.length) :
  ∀ (fuel i : Nat), s.length - i < fuel → i ≤ s.length → fixN F fuel (i : Int) = K ((i + ((s.drop i).takeWhile P).length : Nat) : Int)
 | 0, i, h, _ => by omega
 | fuel + 1, i, h, hi => by
  rw [fixN_s]
  by_cases hl : i < s.length
  ·rw [hin _ i hl, List.drop_eq_getElem_cons hl, List.takeWhile_cons]
   by_cases hp : P s[i] = true
   ·rw [if_pos hp, if_pos hp, scan P K hin hend fuel (i + 1) (by omega) (by omega), List.length_cons]
    congr 2
    omega
   ·rw [if_neg hp, if_neg hp]
    rfl
  ·obtain rfl : i = s.length := by omega
   rw [hend, List.drop_length]
   rfl
def kv (v : Int) : Option (List UInt8 × Int) := cnd (ilt v (0 : Int)) (some (([] : List UInt8), (4 : Int))) (bnd (q68 fuelH (wr .i32 v)) fun v2 => cnd (ilt v2 (0 : Int)) (some (([] : List UInt8), (10 : Int))) (bnd (r08_Of fuelH ([wr .i32 v] : List Int)) fun v3 => some (v3, (0 : Int))))
def v8 (x : List UInt8) (b : Bool) : Option (List UInt8 × Int) := cnd b (grd (in2 (2 : Int) (len x)) (bnd (r20_code fuelH (ldrop (toN (2 : Int)) x, (16 : Int), (5 : Int))) kv))
 (cnd (ilt (0 : Int) (len x)) (grd (inb (0 : Int) (len x)) (cnd (ieq (n8 (lget x (toN (0 : Int)) (0 : UInt8))) (n8 (35 : UInt8))) (grd (in2 (1 : Int) (len x)) (bnd (r20_code fuelH (ldrop (toN (1 : Int)) x, (10 : Int), (6 : Int))) kv)) (kv (-1 : Int)))) (kv (-1 : Int)))
def k2N (N : Nat) (s : List UInt8) (at' : Int) (most : Int) (v2 : Int × Int) : Option (List UInt8 × Int × Int) :=
    cnd (ieq v2.1 at')
     (some (([] : List UInt8), (0 : Int), (4 : Int)))
     (cnd (ilt most (w64 (isub v2.1 at')))
      (some (([] : List UInt8), (0 : Int), (4 : Int)))
      (cnd (ieq v2.1 (len s))
       (some (([] : List UInt8), (0 : Int), (4 : Int)))
       (grd (inb v2.1 (len s))
        (cnd (ine (n8 (lget s (toN v2.1) (0 : UInt8))) (n8 (59 : UInt8)))
         (some (([] : List UInt8), (0 : Int), (4 : Int)))
         (bnd (q12 N (wr .i32 v2.2)) fun v3 =>
         cnd (ilt v3 (0 : Int))
          (some (([] : List UInt8), (0 : Int), (10 : Int)))
          (some (enc (wr .i32 v2.2), w64 (iadd v2.1 (1 : Int)), (0 : Int))))))))
def k2 (s : List UInt8) (at' : Int) (most : Int) (v2 : Int × Int) : Option (List UInt8 × Int × Int) := k2N fuelH s at' most v2
theorem all_tw {P : UInt8 → Bool} : ∀ l : List UInt8, (l.takeWhile P).all P = true
 | [] => rfl
 | b :: l => by
  rw [List.takeWhile_cons]
  split
  ·rename_i h
   rw [List.all_cons, h, all_tw l]
   rfl
  ·rfl
end
end Go.Mo
end

section
/-
  Plain facts: the text that is meant, names, both sides; XmlEscapes and XmlUnescapes return true.
-/
set_option linter.all false
namespace Go.Mo
open Go Go.W Go.Lib
set_option maxRecDepth 100000
noncomputable section
theorem tw_len {P : UInt8 → Bool} (l : List UInt8) : (l.takeWhile P).length ≤ l.length := (List.takeWhile_prefix P).length_le
theorem wstr_eq (a t : List UInt8) (h : a.length + t.length ≤ 100000000) : q31 fuelH (((), a), t) = some (len t, false, (), a ++ t) := by
 unfold q31 strings_Builder_copyCheck hand_strings_Builder_copyCheck
 rw [bnd_some', grd_t (room_t (by simp only [len, iadd]; omega))]
 rfl
theorem tw_take (P : UInt8 → Bool) : ∀ l : List UInt8, l.take (l.takeWhile P).length = l.takeWhile P
 | [] => rfl
 | b :: l => by
  rw [List.takeWhile_cons]
  split
  ·rw [List.length_cons, List.take_succ_cons, tw_take P l]
  ·rfl
def nmX (s : List UInt8) : Bool := decide (1 ≤ s.length) && decide (s.length ≤ 32) && letB (s.getD 0 0) && s.all namB
theorem let_nam {x : UInt8} (h : letB x = true) : namB x = true := by unfold namB; rw [h]; rfl
def namP : List UInt8 → List UInt8
 | [] => []
 | b :: l => if letB b = true then b :: l.takeWhile namB else []
theorem namP_cons (b : UInt8) (l : List UInt8) : namP (b :: l) = if letB b = true then b :: l.takeWhile namB else [] := rfl
theorem nmX_eq (s : List UInt8) : nmX s = (decide (s ≠ []) && decide (s.length ≤ 32) && decide (namP s = s)) := by
 unfold nmX
 match s with
 | [] => rfl
 | b :: l =>
  have h0 : (b :: l).getD 0 0 = b := rfl
  rw [h0, List.all_cons]
  have h1 : decide (1 ≤ (b :: l).length) = true := decide_eq_true (by simp)
  have h2 : decide (b :: l ≠ []) = true := decide_eq_true (by simp)
  rw [h1, h2, Bool.and_assoc (true && decide ((b :: l).length ≤ 32))]
  congr 1
  rw [namP_cons]
  by_cases h : letB b = true
  ·rw [h, let_nam h, if_pos rfl, Bool.true_and, Bool.true_and]
   rw [Bool.eq_iff_iff, decide_eq_true_eq]
   refine ⟨fun k => ?_, fun k => ?_⟩
   ·have := List.takeWhile_append_of_pos (p := namB) (l₁ := l) (l₂ := []) (by simpa using k)
    simp at this
    rw [this]
   ·injection k with _ k
    rw [← k]
    exact all_tw l
  ·have : letB b = false := by simpa using h
   rw [this, if_neg (by decide), decide_eq_false (show ¬ (([] : List UInt8) = b :: l) by simp)]
   simp
theorem name_loop {s : List UInt8} (hs : s.length ≤ 4000000) : ∀ (fuel i : Nat), s.length - i < fuel → i ≤ s.length →
  fixN (fun v3 (v4 : Int) => cnd (ilt v4 (len s)) (grd (inb v4 (len s)) (bnd (q58 fuelH (lget s (toN v4) (0 : UInt8))) fun v5 => cnd (bnot v5) (some false) (v3 (w64 (iadd v4 (1 : Int)))))) (some true)) fuel (i : Int) = some ((s.drop i).all namB)
 | 0, i, h, _ => by omega
 | fuel + 1, i, h, hi => by
  rw [fixN_s]
  by_cases hl : i < s.length
  ·rw [cnd_t (ilt_t (by simp only [len]; omega)), grd_t (inb_t (by simp only [len]; omega)), lget_i hl, namb_eq, bnd_some', w64_succ hl (by omega), name_loop hs fuel (i + 1) (by omega) (by omega), List.drop_eq_getElem_cons hl, List.all_cons]
   cases namB s[i] <;> rfl
  ·obtain rfl : i = s.length := by omega
   rw [cnd_f (ilt_f (by simp only [len]; omega)), List.drop_length]
   rfl
theorem name_eq (s : List UInt8) : xml_Name fuelH s = some (nmX s) := by
 unfold xml_Name nmX
 by_cases h0 : 1 ≤ s.length
 ·rw [cnd_f (ilt_f (by simp only [len]; omega)), decide_eq_true h0]
  by_cases h1 : s.length ≤ 32
  ·have hg : lget s (toN (0 : Int)) (0 : UInt8) = s.getD 0 0 := rfl
   rw [cnd_f (ilt_f (by simp only [len]; omega)), decide_eq_true h1, grd_t (inb_t (by simp only [len]; omega)), letter_eq, bnd_some', hg]
   by_cases h2 : letB (s.getD 0 0) = true
   ·rw [h2, cnd_f (by rfl), jn_e]
    exact name_loop (by omega) fuelH 0 (fuelH_len (by omega) 0) (Nat.zero_le _)
   ·have h2 : letB (s.getD 0 0) = false := by simpa using h2
    rw [h2, cnd_t (by rfl)]
    rfl
  ·rw [cnd_t (ilt_t (by simp only [len]; omega)), decide_eq_false h1]
   rfl
 ·rw [cnd_t (ilt_t (by simp only [len]; omega)), decide_eq_false h0]
  rfl
theorem rnamb (x : UInt8) (X Y : Option (List UInt8)) (N : Nat) (s : List UInt8) (v : Int) (hv : inb v (len s) = true) (hx : lget s (toN v) 0 = x) :
  (bnd (q95 N x) fun v5 => cnd v5 X (grd (inb v (len s)) (bnd (q96 N x) fun v6 => cnd v6 X (grd (inb v (len s)) (cnd (ieq (n8 x) (n8 (45 : UInt8))) X Y))))) = if namB x = true then X else Y := by
 rw [rletter_eq, bnd_some', grd_t hv, rdigit_eq, bnd_some', grd_t hv]
 unfold namB
 cases letB x with
 | true => rfl
 | false =>
  rw [cnd_f (by rfl)]
  cases digB x with
  | true => rfl
  | false =>
   rw [cnd_f (by rfl)]
   by_cases h : x = 45
   ·subst h; rfl
   ·rw [cnd_f (ieq_f (fun k => h (n8_inj k))), if_neg (by simpa using h)]
theorem namep_eq {s : List UInt8} (hs : s.length ≤ 4000000) : q97 fuelH s = some (namP s) := by
 unfold q97
 match s with
 | [] => rfl
 | b :: l =>
  rw [cnd_f (by rfl), grd_t (inb_t (by simp only [len, List.length_cons]; omega))]
  show (bnd (q95 fuelH b) _) = _
  rw [rletter_eq, bnd_some', namP_cons]
  by_cases h : letB b = true
  ·rw [h, cnd_f (by rfl), jn_e, if_pos rfl]
   have hb : (1 : Nat) ≤ (b :: l).length := by simp
   refine Eq.trans (scan (s := b :: l) namB (fun v1 => grd (in2 v1 (len (b :: l))) (some (ltake (toN v1) (b :: l)))) (fun self k hk => ?_) (fun self => ?_) fuelH 1 (fuelH_len hs 1) hb) ?_
   ·show cnd (ilt (k : Int) (len (b :: l))) _ _ = _
    have hv : inb (k : Int) (len (b :: l)) = true := inb_t (by simp only [len]; omega)
    rw [cnd_t (ilt_t (by simp only [len]; omega)), grd_t hv, w64_succ hk (by omega)]
    have hx := lget_i (l := b :: l) (d := (0 : UInt8)) hk
    rw [hx]
    exact rnamb _ _ _ _ _ _ hv hx
   ·show cnd (ilt ((b :: l).length : Int) (len (b :: l))) _ _ = _
    rw [cnd_f (ilt_f (by simp only [len]; omega))]
   ·have ht := tw_len (P := namB) l
    show grd (in2 ((1 + (l.takeWhile namB).length : Nat) : Int) (len (b :: l))) _ = _
    rw [grd_t (in2_t (by simp only [len, List.length_cons]; omega))]
    simp only [ltake, toN, Int.toNat_natCast]
    rw [Nat.add_comm, List.take_succ_cons]
    exact congrArg (fun x => some (b :: x)) (tw_take namB l)
  ·have h : letB b = false := by simpa using h
   rw [h, cnd_t (by rfl)]
   rfl
theorem rname_eq {s : List UInt8} (hs : s.length ≤ 4000000) : r20_Name fuelH s = some (nmX s) := by
 unfold r20_Name
 rw [nmX_eq]
 by_cases h0 : s = []
 ·subst h0; rfl
 rw [cnd_t (by unfold sne; simpa using h0)]
 by_cases h1 : s.length ≤ 32
 ·rw [cnd_t (ile_t (by simp only [len]; omega)), namep_eq hs, bnd_some', seq_dec, decide_eq_true h0, decide_eq_true h1]
  rfl
 ·rw [cnd_f (ile_f (by simp only [len]; omega)), decide_eq_false h1]
  simp
theorem esc_len (s : List UInt8) : (esc s).length ≤ 6 * s.length := flat_len (fun b => (escB_len b).2) s
end
end Go.Mo
end

section
/-
  Plain facts: attributes and children; XmlLooks returns true.
-/
set_option linter.all false
namespace Go.Mo
open Go Go.W Go.Lib
set_option maxRecDepth 100000
noncomputable section
abbrev Ln := List UInt8
abbrev At := List UInt8 × List UInt8
abbrev Nd := List UInt8 × List UInt8 × List At × Int
def ndz : Nd := ([], ([], ([], (0 : Int))))
def dep (n : Nd) : Int := n.2.2.2
def i64 (x : Int) : Prop := -9223372036854775808 ≤ x ∧ x ≤ 9223372036854775807
theorem lgetn {l : List Nd} {i : Nat} (h : i < l.length) : lget l (toN (i : Int)) ([], ([], ([], (0 : Int)))) = l[i] := lget_i h
def chS (d : Int) : Nat → List Nd → List Int
 | _, [] => []
 | k, n :: r => if d < dep n then (if dep n = d + 1 then (k : Int) :: chS d (k + 1) r else chS d (k + 1) r) else []
def kids (l : List Nd) (i : Int) : List Int := if i < 0 ∨ (l.length : Int) ≤ i then [] else chS (dep (l.getD i.toNat ndz)) (i.toNat + 1) (l.drop (i.toNat + 1))
theorem kids_loop {l : List Nd} (hl : l.length ≤ 1000000) (hd : ∀ n ∈ l, i64 (dep n)) {i : Nat} (hi : i < l.length) (T : Int → Int → Bool) (hT : ∀ a d, i64 a → i64 d → d < a → T a d = ieq a (d + 1)) :
  fixN (fun v2 (v3 : (List Int) × Int) =>
    cnd (ilt v3.2 (len l))
     (grd (inb v3.2 (len l))
      (grd (inb (i : Int) (len l))
       (cnd (ilt (lget l (toN (i : Int)) ([], ([], ([], (0 : Int))))).2.2.2 (lget l (toN v3.2) ([], ([], ([], (0 : Int))))).2.2.2)
        (grd (inb v3.2 (len l))
         (grd (inb (i : Int) (len l))
          (cnd (T (lget l (toN v3.2) ([], ([], ([], (0 : Int))))).2.2.2 (lget l (toN (i : Int)) ([], ([], ([], (0 : Int))))).2.2.2)
           (grd (room (iadd (len v3.1) (len ([v3.2] : List Int))) 8)
            (v2 (lapp v3.1 ([v3.2] : List Int), w64 (iadd v3.2 (1 : Int)))))
           (v2 (v3.1, w64 (iadd v3.2 (1 : Int)))))))
        (some v3.1))))
     (some v3.1)) fuelH (([] : List Int), ((i + 1 : Nat) : Int)) = some (chS (dep l[i]) (i + 1) (l.drop (i + 1))) := by
 have h := drop_loop (s := l) (fun (a : List Int) (k : Nat) => (a, (k : Int))) (fun a r => some (a ++ chS (dep l[i]) (l.length - r.length) r)) (fun k a => a.length ≤ k)
  (F := fun v2 (v3 : (List Int) × Int) =>
    cnd (ilt v3.2 (len l))
     (grd (inb v3.2 (len l))
      (grd (inb (i : Int) (len l))
       (cnd (ilt (lget l (toN (i : Int)) ([], ([], ([], (0 : Int))))).2.2.2 (lget l (toN v3.2) ([], ([], ([], (0 : Int))))).2.2.2)
        (grd (inb v3.2 (len l))
         (grd (inb (i : Int) (len l))
          (cnd (T (lget l (toN v3.2) ([], ([], ([], (0 : Int))))).2.2.2 (lget l (toN (i : Int)) ([], ([], ([], (0 : Int))))).2.2.2)
           (grd (room (iadd (len v3.1) (len ([v3.2] : List Int))) 8)
            (v2 (lapp v3.1 ([v3.2] : List Int), w64 (iadd v3.2 (1 : Int)))))
           (v2 (v3.1, w64 (iadd v3.2 (1 : Int)))))))
        (some v3.1))))
     (some v3.1)) ?_ fuelH (i + 1) [] (fuelH_len (by omega) _) (by omega) (by simp)
 ·refine Eq.trans h ?_
  rw [List.length_drop, show l.length - (l.length - (i + 1)) = i + 1 by omega]
  rfl
 ·intro self a k hk hI hself
  by_cases hkl : k < l.length
  ·have hw : w64 (iadd (k : Int) 1) = ((k + 1 : Nat) : Int) := w64_succ hkl (by omega)
   have hdi := hd _ (List.getElem_mem hi)
   have hdk := hd _ (List.getElem_mem hkl)
   have hrl : l.length - (l.drop k).length = k := by rw [List.length_drop]; omega
   have hrl2 : l.length - (l.drop (k + 1)).length = k + 1 := by rw [List.length_drop]; omega
   rw [hrl, List.drop_eq_getElem_cons hkl]
   have e : chS (dep l[i]) k (l[k] :: l.drop (k + 1)) = if dep l[i] < dep l[k] then (if dep l[k] = dep l[i] + 1 then (k : Int) :: chS (dep l[i]) (k + 1) (l.drop (k + 1)) else chS (dep l[i]) (k + 1) (l.drop (k + 1))) else [] := rfl
   rw [e]
   show cnd (ilt (k : Int) (len l)) _ _ = _
   rw [cnd_t (ilt_t (by simp only [len]; omega)), grd_t (inb_t (by simp only [len]; omega)), grd_t (inb_t (by simp only [len]; omega)), grd_t (inb_t (by simp only [len]; omega)), grd_t (inb_t (by simp only [len]; omega)), lgetn hi]
   show cnd (ilt (l[i].2.2.2) (lget l (toN (k : Int)) _).2.2.2) _ _ = _
   rw [lgetn hkl]
   show cnd (ilt (dep l[i]) (dep l[k])) (cnd (T (dep l[k]) (dep l[i])) _ _) _ = _
   by_cases h1 : dep l[i] < dep l[k]
   ·rw [cnd_t (ilt_t h1), if_pos h1, hT _ _ hdk hdi h1]
    by_cases h2 : dep l[k] = dep l[i] + 1
    ·rw [cnd_t (ieq_t h2), if_pos h2, grd_t (room_t (by simp only [len, iadd, List.length_cons, List.length_nil]; omega))]
     show self (lapp a [(k : Int)], w64 (iadd (k : Int) 1)) = _
     rw [hw]
     refine Eq.trans (hself (a ++ [(k : Int)]) (k + 1) (by omega) (by omega) (by simp; omega)) ?_
     rw [hrl2]
     simp
    ·rw [cnd_f (ieq_f h2), if_neg h2]
     show self (a, w64 (iadd (k : Int) 1)) = _
     rw [hw]
     refine Eq.trans (hself a (k + 1) (by omega) (by omega) (by omega)) ?_
     rw [hrl2]
   ·rw [cnd_f (ilt_f h1), if_neg h1, List.append_nil]
  ·obtain rfl : k = l.length := by omega
   show cnd (ilt (l.length : Int) (len l)) _ _ = _
   rw [cnd_f (ilt_f (by simp only [len]; omega)), List.drop_length]
   simp [chS]
theorem kids_eq {l : List Nd} (hl : l.length ≤ 1000000) (hd : ∀ n ∈ l, i64 (dep n)) (i : Int) : True ∧ q101 fuelH (l, i) = some (kids l i) := by
 refine ⟨trivial, ?_⟩
 unfold q101 kids
 have hlen : len l = (l.length : Int) := rfl
 show cnd (ilt i 0) _ (cnd (ile (len l) i) _ _) = _
 rw [hlen]
 by_cases h0 : i < 0
 ·rw [cnd_t (ilt_t h0), if_pos (Or.inl h0)]
 rw [cnd_f (ilt_f h0)]
 by_cases h1 : (l.length : Int) ≤ i
 ·rw [cnd_t (ile_t h1), if_pos (Or.inr h1)]
 rw [cnd_f (ile_f h1), if_neg (by omega), jn_e]
 obtain ⟨k, rfl⟩ : ∃ k : Nat, i = (k : Int) := ⟨i.toNat, by omega⟩
 have hk : k < l.length := by omega
 have hw : w64 (iadd (k : Int) 1) = ((k + 1 : Nat) : Int) := w64_succ hk (by omega)
 have hg : l.getD k ndz = l[k] := by simp [List.getD, hk]
 rw [Int.toNat_natCast, hg, hw]
 refine kids_loop hl hd hk (fun a d => ieq (w64 (isub a 1)) d) fun a d ha hd' h => ?_
 have h1 := ha.2
 have h2 := hd'.1
 simp only [isub]
 rw [w64_id (by omega)]
 by_cases e : a = d + 1
 ·rw [ieq_t e, ieq_t (by omega)]
 ·rw [ieq_f e, ieq_f (by omega)]
def wtA (a : At) : Nat := a.1.length + 1 + (a.2.length + 1)
def wtN (n : Nd) : Nat := n.1.length + 1 + (n.2.1.length + 1 + (bkL wtA n.2.2.1 + 1 + 1))
structure smN (n : Nd) : Prop where
 nm : n.1.length ≤ 1090000
 tx : n.2.1.length ≤ 1090000
 asz : n.2.2.1.length ≤ 1090000
 an : ∀ a ∈ n.2.2.1, a.1.length ≤ 1090000 ∧ a.2.length ≤ 1090000
theorem sm_of {l : List Nd} (h : bkL wtN l ≤ 1090000) : ∀ n ∈ l, smN n := fun n hn => by
 have h1 : n.1.length + 1 + (n.2.1.length + 1 + (bkL wtA n.2.2.1 + 1 + 1)) ≤ bkL wtN l := bk_mem (f := wtN) hn
 have h2 := bk_len (f := wtA) (fun a => by unfold wtA; omega) n.2.2.1
 refine ⟨by omega, by omega, by omega, fun a ha => ?_⟩
 have h3 : a.1.length + 1 + (a.2.length + 1) ≤ bkL wtA n.2.2.1 := bk_mem (f := wtA) ha
 omega
theorem chS_len (d : Int) : ∀ (k : Nat) (r : List Nd), (chS d k r).length ≤ r.length
 | _, [] => Nat.le_refl _
 | k, n :: r => by
  have := chS_len d (k + 1) r
  unfold chS
  split
  ·split
   ·simp; omega
   ·simp; omega
  ·simp
end
end Go.Mo
end

section
/-
  Plain facts: loops that push; numbers in decimal, both sides; attributes; one element.
-/
set_option linter.all false
namespace Go.Mo
open Go Go.W Go.Lib
set_option maxRecDepth 100000
noncomputable section
theorem push_loop {V R α β : Type} {F : (V → Option R) → V → Option R} {l : List α} (st : List β → Nat → V) (g : α → List β) (K : List β → Option R) (a0 : List β) {fuel : Nat} (hf : l.length < fuel)
  (hstep : ∀ self a i (h : i < l.length), (a ++ g l[i]).length ≤ (a0 ++ l.flatMap g).length → F self (st a i) = self (st (a ++ g l[i]) (i + 1)))
  (hend : ∀ self a, F self (st a l.length) = K a) : fixN F fuel (st a0 0) = K (a0 ++ l.flatMap g) := by
 refine loop_inv (n := l.length) st (fun i a => a = a0 ++ (l.take i).flatMap g) _ (fun self a i h hI => ?_) (fun self a hI => ?_) fuel 0 a0 (Nat.zero_le _) (by omega) (by simp)
 ·have e : a ++ g l[i] = a0 ++ (l.take (i + 1)).flatMap g := by
   rw [hI, List.take_succ_eq_append_getElem h, List.flatMap_append]
   simp
  refine ⟨_, hstep self a i h ?_, e⟩
  rw [e]
  have : l = l.take (i + 1) ++ l.drop (i + 1) := (List.take_append_drop _ _).symm
  conv => rhs; rw [this, List.flatMap_append, ← List.append_assoc, List.length_append]
  omega
 ·rw [hend, hI, List.take_length]
theorem dec_prog {n : Int} (h0 : 0 ≤ n) (h1 : n ≤ 9223372036854775807) : q52 fuelH n = some (itoa10 n) := by
 have e : q52 fuelH n = bnd (bnd (istrconv_FormatInt fuelH (n, 10)) fun v0 => some v0) fun v0 => some v0 := rfl
 have e2 : istrconv_FormatInt fuelH (n, 10) = some (itoa10 n) := by
  show hand_istrconv_FormatInt fuelH (n, 10) = _
  unfold hand_istrconv_FormatInt
  rw [grd_t (by rfl), grd_t (ile_t (by omega)), grd_t (ile_t (by omega))]
 rw [e, e2]
 rfl
theorem wrU {n : Nat} (h : n < 18446744073709551616) : wr .u64 (n : Int) = n := by
 show IntKind.wrap .u64 (n : Int) = _
 unfold IntKind.wrap
 simp only [IntKind.bits, IntKind.signed, Bool.false_and, show (2 : Int) ^ 64 = 18446744073709551616 from rfl]
 rw [if_neg (by decide)]
 omega
theorem dig_cut {k : Nat} (h : k < 10) : ldrop (toN (k : Int)) (ltake (toN (wr .u64 (iadd (k : Int) 1))) [48, 49, 50, 51, 52, 53, 54, 55, 56, 57]) = [UInt8.ofNat (48 + k)] := by
 have : iadd (k : Int) 1 = ((k + 1 : Nat) : Int) := by simp [iadd]
 rw [this, wrU (by omega)]
 have ht : ((List.range 10).all fun k => decide (ldrop (toN (k : Int)) (ltake (toN (((k + 1 : Nat)) : Int)) [48, 49, 50, 51, 52, 53, 54, 55, 56, 57]) = [UInt8.ofNat (48 + k)])) = true := by kernel_rfl
 exact of_decide_eq_true (List.all_eq_true.1 ht k (List.mem_range.2 h))
theorem dec_loop {R : Type} {F : (Int × List UInt8 → Option R) → Int × List UInt8 → Option R} (K : Int × List UInt8 → Option R)
  (hF : ∀ self (n : Nat) (acc : List UInt8), n < 18446744073709551616 → acc.length ≤ 100 → F self ((n : Int), acc) = if 10 ≤ n then self (((n / 10 : Nat) : Int), UInt8.ofNat (48 + n % 10) :: acc) else K ((n : Int), acc)) :
  ∀ (k fuel n : Nat) (acc : List UInt8), k ≤ fuel → n < 10 ^ k → n < 18446744073709551616 → acc.length + k ≤ 100 → 0 < k → ∃ (u : Nat) (r : List UInt8), u < 10 ∧ r.length ≤ 100 ∧ fixN F fuel ((n : Int), acc) = K ((u : Int), r) ∧ dig10 k n acc = UInt8.ofNat (48 + u) :: r
 | k + 1, fuel, n, acc, hk, hn, h64, hl, _ => by
  obtain ⟨f, rfl⟩ : ∃ f, fuel = f + 1 := ⟨fuel - 1, by omega⟩
  rw [fixN_s, hF _ n acc h64 (by omega)]
  by_cases h10 : 10 ≤ n
  ·rw [if_pos h10]
   have hk0 : 0 < k := by
    rcases Nat.eq_zero_or_pos k with rfl | h
    ·simp at hn; omega
    ·exact h
   obtain ⟨u, r, q1, q2, q3, q4⟩ := dec_loop K hF k f (n / 10) (UInt8.ofNat (48 + n % 10) :: acc) (by omega) (by rw [Nat.div_lt_iff_lt_mul (by omega)]; rw [Nat.pow_succ] at hn; exact hn) (by omega) (by simp; omega) hk0
   refine ⟨u, r, q1, q2, q3, ?_⟩
   rw [← q4]
   conv => lhs; unfold dig10
   rw [show Nat.ble 10 n = true from by rw [Nat.ble_eq]; exact h10]
   rfl
  ·rw [if_neg h10]
   refine ⟨n, acc, by omega, by omega, rfl, ?_⟩
   unfold dig10
   rw [show Nat.ble 10 n = false from by rw [← Bool.not_eq_true, Nat.ble_eq]; exact h10]
   rfl
theorem dec_ref {n : Int} (h0 : 0 ≤ n) (h1 : n ≤ 9223372036854775807) : q87 fuelH n = some (itoa10 n) := by
 obtain ⟨m, rfl⟩ : ∃ m : Nat, n = m := ⟨n.toNat, by omega⟩
 unfold q87
 rw [jn_e, cnd_f (ilt_f (by omega))]
 simp only
 rw [jn_e, wrU (by omega)]
 have hK : ∀ (u : Nat) (r : List UInt8), u < 10 → r.length ≤ 100 → (grd (in3 (u : Int) (wr .u64 (iadd (u : Int) (1 : Int))) (len ([48, 49, 50, 51, 52, 53, 54, 55, 56, 57] : List UInt8)))
    (grd (catOk (iadd (len ([] : List UInt8)) (len (ldrop (toN (u : Int)) (ltake (toN (wr .u64 (iadd (u : Int) (1 : Int)))) ([48, 49, 50, 51, 52, 53, 54, 55, 56, 57] : List UInt8))))))
    (grd (catOk (iadd (len (lapp ([] : List UInt8) (ldrop (toN (u : Int)) (ltake (toN (wr .u64 (iadd (u : Int) (1 : Int)))) ([48, 49, 50, 51, 52, 53, 54, 55, 56, 57] : List UInt8))))) (len r)))
    (some (lapp (lapp ([] : List UInt8) (ldrop (toN (u : Int)) (ltake (toN (wr .u64 (iadd (u : Int) (1 : Int)))) ([48, 49, 50, 51, 52, 53, 54, 55, 56, 57] : List UInt8)))) r))))) = some (UInt8.ofNat (48 + u) :: r) := fun u r hu hr => by
  have e1 : iadd (u : Int) 1 = ((u + 1 : Nat) : Int) := by simp [iadd]
  rw [dig_cut hu, grd_t (by rw [e1, wrU (by omega)]; exact decide_eq_true (by simp only [len, List.length_cons, List.length_nil]; omega)), grd_t (by rfl), grd_t (by exact decide_eq_true (by simp only [lapp, iadd, len, List.nil_append, List.length_cons, List.length_nil]; omega))]
  rfl
 obtain ⟨u, r, q1, q2, q3, q4⟩ := dec_loop (F := fun v3 v4 => cnd (ile (10 : Int) v4.1)
    (grd (in3 (imod v4.1 (10 : Int)) (wr .u64 (iadd (imod v4.1 (10 : Int)) (1 : Int))) (len ([48, 49, 50, 51, 52, 53, 54, 55, 56, 57] : List UInt8)))
     (grd (catOk (iadd (len (ldrop (toN (imod v4.1 (10 : Int))) (ltake (toN (wr .u64 (iadd (imod v4.1 (10 : Int)) (1 : Int)))) ([48, 49, 50, 51, 52, 53, 54, 55, 56, 57] : List UInt8)))) (len v4.2)))
      (v3 (wr .u64 (idiv v4.1 (10 : Int)), lapp (ldrop (toN (imod v4.1 (10 : Int))) (ltake (toN (wr .u64 (iadd (imod v4.1 (10 : Int)) (1 : Int)))) ([48, 49, 50, 51, 52, 53, 54, 55, 56, 57] : List UInt8))) v4.2))))
    (grd (in3 v4.1 (wr .u64 (iadd v4.1 (1 : Int))) (len ([48, 49, 50, 51, 52, 53, 54, 55, 56, 57] : List UInt8)))
    (grd (catOk (iadd (len ([] : List UInt8)) (len (ldrop (toN v4.1) (ltake (toN (wr .u64 (iadd v4.1 (1 : Int)))) ([48, 49, 50, 51, 52, 53, 54, 55, 56, 57] : List UInt8))))))
    (grd (catOk (iadd (len (lapp ([] : List UInt8) (ldrop (toN v4.1) (ltake (toN (wr .u64 (iadd v4.1 (1 : Int)))) ([48, 49, 50, 51, 52, 53, 54, 55, 56, 57] : List UInt8))))) (len v4.2)))
    (some (lapp (lapp ([] : List UInt8) (ldrop (toN v4.1) (ltake (toN (wr .u64 (iadd v4.1 (1 : Int)))) ([48, 49, 50, 51, 52, 53, 54, 55, 56, 57] : List UInt8)))) v4.2))))))
  (fun v => (grd (in3 v.1 (wr .u64 (iadd v.1 (1 : Int))) (len ([48, 49, 50, 51, 52, 53, 54, 55, 56, 57] : List UInt8)))
    (grd (catOk (iadd (len ([] : List UInt8)) (len (ldrop (toN v.1) (ltake (toN (wr .u64 (iadd v.1 (1 : Int)))) ([48, 49, 50, 51, 52, 53, 54, 55, 56, 57] : List UInt8))))))
    (grd (catOk (iadd (len (lapp ([] : List UInt8) (ldrop (toN v.1) (ltake (toN (wr .u64 (iadd v.1 (1 : Int)))) ([48, 49, 50, 51, 52, 53, 54, 55, 56, 57] : List UInt8))))) (len v.2)))
    (some (lapp (lapp ([] : List UInt8) (ldrop (toN v.1) (ltake (toN (wr .u64 (iadd v.1 (1 : Int)))) ([48, 49, 50, 51, 52, 53, 54, 55, 56, 57] : List UInt8)))) v.2))))))
  (fun self n acc hn hacc => by
   by_cases h10 : 10 ≤ n
   ·have e1 : imod (n : Int) 10 = ((n % 10 : Nat) : Int) := by show (n : Int).tmod 10 = _; rw [Int.tmod_eq_emod_of_nonneg (by omega)]; omega
    have e2 : idiv (n : Int) 10 = ((n / 10 : Nat) : Int) := by show (n : Int).tdiv 10 = _; rw [Int.tdiv_eq_ediv_of_nonneg (by omega)]; omega
    have e3 : iadd ((n % 10 : Nat) : Int) 1 = ((n % 10 + 1 : Nat) : Int) := by simp [iadd]
    have hm : n % 10 < 10 := Nat.mod_lt _ (by omega)
    rw [if_pos h10, cnd_t (ile_t (by omega))]
    simp only
    rw [e1, dig_cut hm, e2, wrU (n := n / 10) (by omega), grd_t (by rw [e3, wrU (by omega)]; exact decide_eq_true (by simp only [len, List.length_cons, List.length_nil]; omega)), grd_t (show catOk _ = true from decide_eq_true (by simp only [iadd, len, List.length_cons, List.length_nil]; omega))]
    rfl
   ·rw [if_neg h10, cnd_f (ile_f (by omega))]) 20 fuelH m [] (by have := fuelH_eq; omega) (by omega) (by omega) (by simp) (by omega)
 refine Eq.trans q3 ?_
 rw [hK u r q1 q2]
 show _ = some (dig10 20 m [])
 rw [q4]
def someQ (a : At) : List At := if a.2 = [] then [] else [a]
def keepQ (l : List At) : List At := l.flatMap someQ
theorem some_eq (N : Nat) (a : At) : r21_some N a = some (someQ a) := by
 unfold r21_some someQ
 by_cases h : a.2 = []
 ·rw [cnd_t (by rw [seq_t]; exact h), if_pos h]
 ·rw [cnd_f (by rw [← Bool.not_eq_true, seq_t]; exact h), if_neg h]
def oneQ (b : Bool) : List UInt8 := if b then [49] else []
theorem one_eq (N : Nat) (b : Bool) : r21_one N b = some (oneQ b) := by cases b <;> rfl
theorem flag_eq (N : Nat) (n : List UInt8) (b : Bool) : q50 N (n, b) = some (n, oneQ b) := by cases b <;> rfl
theorem number_eq {n : List UInt8} {k : Int} (h0 : 0 ≤ k) (h1 : k ≤ 9223372036854775807) : q53 fuelH (n, k) = some (n, itoa10 k) := by
 unfold q53
 rw [bnd_s (dec_prog h0 h1)]
theorem decimal_eq {n : List UInt8} {k : Int} (h0 : 0 ≤ k) (h1 : k ≤ 9223372036854775807) : q88 fuelH (n, k) = some (someQ (n, itoa10 k)) := by
 unfold q88
 rw [bnd_s (dec_ref h0 h1), bnd_s (some_eq _ _)]
theorem attrs_eq {l : List (List At)} (h : l.length ≤ 1000) (h2 : l.flatten.length ≤ 1000) : q89 fuelH l = some l.flatten := by
 unfold q89
 rw [jn_e]
 have e : l.flatten = [] ++ l.flatMap id := by simp [List.flatMap_id]
 rw [e]
 rw [e] at h2
 refine push_loop (fun a i => (a, (i : Int))) id (fun a => some a) [] (by have := fuelH_eq; omega) (fun self a i hi hl => ?_) (fun self a => ?_)
 ·have hle : (a ++ l[i]).length ≤ 1000 := Nat.le_trans hl h2
  rw [List.length_append] at hle
  simp only
  rw [cnd_t (ilt_t (by simp only [len]; omega)), grd_t (inb_t (by simp only [len]; omega)), lget_i hi, grd_t (room_t (by simp only [iadd, len]; omega)), w64_succ hi (by omega)]
  rfl
 ·simp only
  rw [cnd_f (ilt_f (by simp only [len]; omega))]
def elQ (depth : Int) (name : List UInt8) (l : List At) : Nd := (name, [], keepQ l, depth)
theorem keep_len (l : List At) : (keepQ l).length ≤ l.length := by
 unfold keepQ
 induction l with
 | nil => simp
 | cons a l ih =>
  rw [List.flatMap_cons, List.length_append, List.length_cons]
  have : (someQ a).length ≤ 1 := by unfold someQ; split <;> simp
  omega
theorem element_eq {t : List Nd} {depth : Int} {name : List UInt8} {l : List At} (ht : t.length ≤ 1000000) (hl : l.length ≤ 1000) : q54 fuelH (t, depth, name, l) = some (t ++ [elQ depth name l]) := by
 unfold q54
 rw [jn_e]
 have hk := keep_len l
 refine Eq.trans (push_loop (l := l) (fun a i => ((i : Int), name, ([] : List UInt8), a, depth)) someQ (fun a => some (t ++ [(name, [], a, depth)])) [] (by have := fuelH_eq; omega) (fun self a i hi hle => ?_) (fun self a => ?_)) ?_
 ·have h2 : (a ++ someQ l[i]).length ≤ 1000 := Nat.le_trans hle (by simpa [keepQ] using Nat.le_trans hk hl)
  rw [List.length_append] at h2
  simp only
  rw [cnd_t (ilt_t (by simp only [len]; omega)), grd_t (inb_t (by simp only [len]; omega)), lget_i hi]
  unfold someQ at h2 ⊢
  by_cases hv : l[i].2 = []
  ·rw [cnd_f (by rw [hv]; rfl), if_pos hv, List.append_nil, w64_succ hi (by omega)]
  ·rw [cnd_t (by simp [sne, hv]), if_neg hv, grd_t (room_t (by rw [if_neg hv] at h2; simp only [iadd, len, List.length_cons, List.length_nil] at h2 ⊢; omega)), w64_succ hi (by omega)]
   rfl
 ·simp only
  rw [cnd_f (ilt_f (by simp only [len]; omega)), grd_t (room_t (by simp only [iadd, len, List.length_cons, List.length_nil]; omega))]
  rfl
 ·rfl
end
end Go.Mo
end

section
/-
  Plain facts: the tree of a document, both sides.
-/
set_option linter.all false
namespace Go.Mo
open Go Go.W Go.Lib
set_option maxRecDepth 100000
noncomputable section
def colQ (c : UInt8) : List UInt8 := if c = 0 then [] else lget gl1 c.toNat []
def kndQ (k : UInt8) : List UInt8 := if k = 1 then [68, 73, 65, 76, 79, 71, 85, 69] else if k = 2 then [83, 79, 85, 78, 68] else if k = 3 then [84, 73, 84, 76, 69] else if k = 4 then [77, 85, 83, 73, 67] else []
def ratQ (r : UInt8) : List UInt8 := if r = 1 then [50, 51, 46, 57, 55, 54] else if r = 2 then [50, 52] else if r = 3 then [50, 53] else if r = 4 then [50, 57, 46, 57, 55] else if r = 5 then [51, 48] else if r = 6 then [53, 48] else if r = 7 then [53, 57, 46, 57, 52] else []
def aliQ (a : UInt8) : List UInt8 := if a = 1 then [76, 69, 70, 84] else if a = 2 then [67, 69, 78, 84, 69, 82] else [82, 73, 71, 72, 84]
theorem names_tab : ((List.range 256).all fun n => decide (q27 0 (UInt8.ofNat n) = some (kndQ (UInt8.ofNat n)) ∧ q92 0 (UInt8.ofNat n) = some (kndQ (UInt8.ofNat n)) ∧ q49 0 (UInt8.ofNat n) = some (ratQ (UInt8.ofNat n)) ∧ r02_Name 0 (UInt8.ofNat n) = some (ratQ (UInt8.ofNat n)))) = true := by kernel_rfl
theorem names_eq (x : UInt8) : q27 0 x = some (kndQ x) ∧ q92 0 x = some (kndQ x) ∧ q49 0 x = some (ratQ x) ∧ r02_Name 0 x = some (ratQ x) :=
 of_decide_eq_true (all_u8 (P := fun x => decide (q27 0 x = some (kndQ x) ∧ q92 0 x = some (kndQ x) ∧ q49 0 x = some (ratQ x) ∧ r02_Name 0 x = some (ratQ x))) names_tab x)
theorem kind_eq (N : Nat) (x : UInt8) : q27 N x = some (kndQ x) := (names_eq x).1
theorem rkind_eq (N : Nat) (x : UInt8) : q92 N x = some (kndQ x) := (names_eq x).2.1
theorem rname_eq2 (N : Nat) (x : UInt8) : q49 N x = some (ratQ x) := (names_eq x).2.2.1
theorem rrname_eq (N : Nat) (x : UInt8) : r02_Name N x = some (ratQ x) := (names_eq x).2.2.2
def runA (u : Run) : List At := [([99, 111, 108, 111, 114], colQ u.2.1.1), ([105, 116, 97, 108, 105, 99], oneQ u.2.1.2.1), ([117, 110, 100, 101, 114, 108, 105, 110, 101], oneQ u.2.1.2.2), ([114, 117, 98, 121], u.2.2)]
def runN (u : Run) : List Nd := [elQ 3 [114, 117, 110] (runA u), ([], u.1, [], 4)]
def rowN (r : Row) : List Nd := elQ 2 [114, 111, 119] [] :: r.flatMap runN
def evA (e : Ev) : List At := [([105, 100], itoa10 e.1), ([105, 110], itoa10 e.2.1.1 ++ [102]), ([111, 117, 116], itoa10 e.2.1.2 ++ [102]), ([114, 101, 103, 105, 111, 110], e.2.2.1), ([107, 105, 110, 100], kndQ e.2.2.2.1), ([115, 112, 101, 97, 107, 101, 114], e.2.2.2.2.1)]
def evN (e : Ev) : List Nd := elQ 1 [112] (evA e) :: e.2.2.2.2.2.flatMap rowN
def regA (r : Reg) : List At := [([110, 97, 109, 101], r.1), ([116, 111, 112], itoa10 r.2.1), ([104, 101, 105, 103, 104, 116], itoa10 r.2.2.1), ([108, 101, 102, 116], itoa10 r.2.2.2.1), ([119, 105, 100, 116, 104], itoa10 r.2.2.2.2.1), ([97, 108, 105, 103, 110], aliQ r.2.2.2.2.2.1), ([97, 110, 99, 104, 111, 114], if r.2.2.2.2.2.2 then [66, 79, 84, 84, 79, 77] else [84, 79, 80])]
def regN (r : Reg) : List Nd := [elQ 1 [114, 101, 103, 105, 111, 110] (regA r)]
def docA (d : Doc) : List At := [([116, 105, 116, 108, 101], d.1), ([108, 97, 110, 103], d.2.1), ([114, 97, 116, 101], ratQ d.2.2.1), ([100, 114, 111, 112], oneQ d.2.2.2.1), ([108, 97, 115, 116], itoa10 d.2.2.2.2.1)]
def docN (d : Doc) : List Nd := [elQ 0 [116, 116] (docA d)] ++ d.2.2.2.2.2.1.flatMap regN ++ d.2.2.2.2.2.2.1.flatMap evN
structure NodOk (d : Doc) : Prop where
 last : 0 ≤ d.2.2.2.2.1 ∧ d.2.2.2.2.1 ≤ 1099511627776
 nreg : d.2.2.2.2.2.1.length ≤ 16
 reg : ∀ r ∈ d.2.2.2.2.2.1, regChk r = 0
 nev : d.2.2.2.2.2.2.1.length ≤ 400
 ev : ∀ e ∈ d.2.2.2.2.2.2.1, 1 ≤ e.1 ∧ e.1 ≤ 1099511627776 ∧ (0 ≤ e.2.1.1 ∧ e.2.1.1 < e.2.1.2 ∧ e.2.1.2 ≤ 5184000) ∧ e.2.2.2.2.2.length ≤ 4 ∧ ∀ l ∈ e.2.2.2.2.2, l.length ≤ 16 ∧ ∀ u ∈ l, n8 u.2.1.1 ≤ 6
theorem chkRegs_all : ∀ (l : List Reg) (p : Option Reg), chkRegs p l = 0 → ∀ r ∈ l, regChk r = 0
 | [], _, _, r, hr => by cases hr
 | x :: l, p, h, r, hr => by
  simp only [chkRegs] at h
  split at h
  ·rename_i hc; exact absurd h hc
  ·rename_i hc
   have hx : regChk x = 0 := by simpa using hc
   have tl : chkRegs (some x) l = 0 := by
    cases p with
    | none => exact h
    | some q =>
     simp only at h
     split at h
     ·cases h
     ·split at h
      ·cases h
      ·exact h
   rcases List.mem_cons.1 hr with rfl | hr
   ·exact hx
   ·exact chkRegs_all l _ tl r hr
theorem regChk_ok {r : Reg} (h : regChk r = 0) : nm r.1 = true ∧ (0 ≤ r.2.1 ∧ r.2.1 ≤ 14) ∧ (1 ≤ r.2.2.1 ∧ r.2.2.1 ≤ 15 - r.2.1) ∧ (0 ≤ r.2.2.2.1 ∧ r.2.2.2.1 ≤ 31) ∧ (1 ≤ r.2.2.2.2.1 ∧ r.2.2.2.2.1 ≤ 32 - r.2.2.2.1) ∧ (1 ≤ n8 r.2.2.2.2.2.1 ∧ n8 r.2.2.2.2.2.1 ≤ 3) := by
 unfold regChk at h
 split at h
 ·cases h
 rename_i c1
 split at h
 ·cases h
 rename_i c2
 split at h
 ·cases h
 rename_i c3
 split at h
 ·cases h
 rename_i c4
 split at h
 ·cases h
 rename_i c5
 split at h
 ·cases h
 rename_i c6
 exact ⟨by simpa using c1, Decidable.of_not_not c2, Decidable.of_not_not c3, Decidable.of_not_not c4, Decidable.of_not_not c5, Decidable.of_not_not c6⟩
theorem rowE_row {l : Row} (h : rowE l = 0) : rowChk l = 0 := by
 unfold rowE at h
 split at h
 ·rename_i hc; exact absurd h hc
 ·rename_i hc; simpa using hc
theorem doc_regs {d : Doc} (h : docChk d = 0) : regsChk d.2.2.2.2.2.1 = 0 := by
 unfold docChk at h
 split at h
 ·rename_i hc; exact absurd h hc
 split at h
 ·rename_i hc; exact absurd h hc
 ·rename_i hc; simpa using hc
theorem doc_last {d : Doc} (h : docChk d = 0) : 0 ≤ d.2.2.2.2.1 ∧ d.2.2.2.2.1 ≤ 1099511627776 := by
 have h := (doc_parts h).1
 unfold headChk at h
 split at h
 ·cases h
 split at h
 ·cases h
 split at h
 ·cases h
 split at h
 ·cases h
 split at h
 ·cases h
 split at h
 ·cases h
 omega
theorem evs_all {d : Doc} (h : evsChk d = 0) : ∀ e ∈ d.2.2.2.2.2.2.1, evChk e d.2.2.2.2.2.1 = 0 := by
 intro e he
 obtain ⟨j, hj, rfl⟩ := List.mem_iff_getElem.1 he
 exact (evRnd_ok (errL_zero _ [] h j hj)).1
theorem nodOk {d : Doc} (h : docChk d = 0) : NodOk d := by
 obtain ⟨h1, h2, h3⟩ := doc_parts h
 have h4 := doc_regs h
 refine ⟨doc_last h, ?_, ?_, h2, fun e he => ?_⟩
 ·unfold regsChk at h4
  split at h4
  ·cases h4
  ·omega
 ·unfold regsChk at h4
  split at h4
  ·cases h4
  ·exact chkRegs_all _ _ h4
 ·obtain ⟨q1, q2, q3, _, q4, q5, _⟩ := ev_ok (evs_all h3 e he)
  refine ⟨q1, q2, q3, q4, fun l hl => ?_⟩
  obtain ⟨r1, r2⟩ := rowChk_ok (rowE_row (q5 l hl))
  exact ⟨r1, fun u hu => (r2 u hu).2.2.1⟩
theorem flatMap_le {α β : Type} {g : α → List β} {c : Nat} : ∀ (l : List α), (∀ x ∈ l, (g x).length ≤ c) → (l.flatMap g).length ≤ l.length * c
 | [], _ => by simp
 | x :: l, h => by
  rw [List.flatMap_cons, List.length_append, List.length_cons, Nat.add_mul, Nat.one_mul]
  have := h x List.mem_cons_self
  have := flatMap_le l fun y hy => h y (List.mem_cons_of_mem _ hy)
  omega
theorem rowN_len {r : Row} (h : r.length ≤ 16) : (rowN r).length ≤ 33 := by
 have := flatMap_le (g := runN) (c := 2) r (fun _ _ => Nat.le_refl _)
 simp only [rowN, List.length_cons]
 omega
theorem evN_len {e : Ev} (h1 : e.2.2.2.2.2.length ≤ 4) (h2 : ∀ l ∈ e.2.2.2.2.2, l.length ≤ 16) : (evN e).length ≤ 133 := by
 have := flatMap_le (g := rowN) (c := 33) e.2.2.2.2.2 (fun l hl => rowN_len (h2 l hl))
 simp only [evN, List.length_cons]
 omega
theorem docN_len {d : Doc} (h : NodOk d) : (docN d).length ≤ 53217 := by
 have h1 := flatMap_le (g := regN) (c := 1) d.2.2.2.2.2.1 (fun _ _ => Nat.le_refl _)
 have h2 := flatMap_le (g := evN) (c := 133) d.2.2.2.2.2.2.1 (fun e he => evN_len (h.ev e he).2.2.2.1 fun l hl => ((h.ev e he).2.2.2.2 l hl).1)
 have := h.nreg
 have := h.nev
 simp only [docN, List.length_append, List.length_cons, List.length_nil]
 omega
theorem align_tab : ((List.range 256).all fun n => !(decide (1 ≤ n) && decide (n ≤ 3)) || (decide (inb (n8 (b8 (isub (n8 (UInt8.ofNat n)) (n8 (1 : UInt8))))) (ofN 3) = true) && decide (lget gl0 (toN (n8 (b8 (isub (n8 (UInt8.ofNat n)) (n8 (1 : UInt8)))))) [] = aliQ (UInt8.ofNat n)) && decide (lget [[], [76, 69, 70, 84], [67, 69, 78, 84, 69, 82], [82, 73, 71, 72, 84]] (toN (n8 (UInt8.ofNat n))) [] = aliQ (UInt8.ofNat n)))) = true := by kernel_rfl
theorem align_eq {a : UInt8} (h1 : 1 ≤ n8 a) (h2 : n8 a ≤ 3) : inb (n8 (b8 (isub (n8 a) (n8 (1 : UInt8))))) (ofN 3) = true ∧ lget gl0 (toN (n8 (b8 (isub (n8 a) (n8 (1 : UInt8)))))) [] = aliQ a ∧ lget [[], [76, 69, 70, 84], [67, 69, 78, 84, 69, 82], [82, 73, 71, 72, 84]] (toN (n8 a)) [] = aliQ a := by
 have h := List.all_eq_true.1 align_tab a.toNat (List.mem_range.2 a.toNat_lt)
 have e : UInt8.ofNat a.toNat = a := UInt8.ofNat_toNat
 rw [e] at h
 unfold n8 at h1 h2
 have c1 : decide (1 ≤ a.toNat) = true := decide_eq_true (by omega)
 have c2 : decide (a.toNat ≤ 3) = true := decide_eq_true (by omega)
 rw [c1, c2] at h
 simp only [Bool.and_self, Bool.not_true, Bool.false_or, Bool.and_eq_true, decide_eq_true_eq] at h
 exact ⟨h.1.1, h.1.2, h.2⟩
theorem itoa_len {n : Int} (h0 : 0 ≤ n) : (itoa10 n).length ≤ 20 := by
 obtain ⟨m, rfl⟩ : ∃ m : Nat, n = m := ⟨n.toNat, by omega⟩
 have key : ∀ (k u : Nat) (l : List UInt8), (dig10 k u l).length ≤ k + l.length := by
  intro k
  induction k with
  | zero => intro u l; simp [dig10]
  | succ k ih =>
   intro u l
   unfold dig10 bsel
   split
   ·have := ih (u / 10) (UInt8.ofNat (48 + u % 10) :: l)
    simp only [List.length_cons] at this
    omega
   ·simp only [List.length_cons]; omega
 have := key 20 m []
 exact this
theorem col_prog {c : UInt8} (h : n8 c ≤ 6) {R : Type} (K : List UInt8 → Option R) : (jn K fun v => cnd (ine (n8 c) (n8 (0 : UInt8))) (grd (inb (n8 c) (ofN 7)) (v (lget gl1 (toN (n8 c)) []))) (v [])) = K (colQ c) := by
 rw [jn_e]
 by_cases hc : c = 0
 ·subst hc
  rw [cnd_f (by rfl)]
  rfl
 ·have hn : n8 c ≠ 0 := fun e => hc (n8_inj (by rw [e]; rfl))
  rw [cnd_t (ine_t (show n8 c ≠ n8 0 from hn)), grd_t (inb_t (by have := n8_rng c; simp only [ofN]; omega))]
  unfold colQ
  rw [if_neg hc]
  rfl
theorem col_ref {c : UInt8} {R : Type} (K : List UInt8 → Option R) : (jn K fun v => cnd (ieq (n8 c) (n8 (0 : UInt8))) (v []) (v (lget [[119, 104, 105, 116, 101], [103, 114, 101, 101, 110], [98, 108, 117, 101], [99, 121, 97, 110], [114, 101, 100], [121, 101, 108, 108, 111, 119], [109, 97, 103, 101, 110, 116, 97]] (toN (n8 c)) []))) = K (colQ c) := by
 rw [jn_e]
 by_cases hc : c = 0
 ·subst hc
  rw [cnd_t (by rfl)]
  rfl
 ·have hn : n8 c ≠ 0 := fun e => hc (n8_inj (by rw [e]; rfl))
  rw [cnd_f (ieq_f (show n8 c ≠ n8 0 from hn))]
  unfold colQ
  rw [if_neg hc]
  rfl
end
end Go.Mo
end

section
/-
  Plain facts: Nodes, both sides.
-/
set_option linter.all false
namespace Go.Mo
open Go Go.W Go.Lib
set_option maxRecDepth 100000
noncomputable section
def nodV (d : Doc) : List Nd × Int := if 8192 < (docN d).length then ([], 9) else (docN d, 0)
theorem nodes_prog {d : Doc} (hd : NodOk d) (hc : q48 fuelH d = some 0) : q55 fuelH d = some (nodV d) := by
 have hN := docN_len hd
 have hfu := fuelH_eq
 have hl := hd.last
 unfold q55
 rw [bnd_s hc, cnd_f (by rfl), bnd_s (rname_eq2 _ _), bnd_s (flag_eq _ _ _), bnd_s (number_eq hl.1 (by omega)), bnd_s (element_eq (t := []) (by simp) (by simp)), jn_e]
 refine (push_loop (l := d.2.2.2.2.2.1) (fun a i => ((i : Int), a)) regN ?K [elQ 0 [116, 116] (docA d)] (by have := hd.nreg; omega) ?hs ?he).trans ?_
 case he =>
  intro self a
  dsimp only
  rw [cnd_f (ilt_f (by simp only [len]; omega))]
 case hs =>
  intro self a i hi hle
  have hr := regChk_ok (hd.reg _ (List.getElem_mem hi))
  have ha : (a ++ regN (d.2.2.2.2.2.1)[i]).length ≤ 53217 := by
   refine Nat.le_trans hle (Nat.le_trans ?_ hN)
   unfold docN
   simp only [List.length_append]
   omega
  rw [List.length_append] at ha
  have hnr := hd.nreg
  dsimp only
  rw [cnd_t (ilt_t (by simp only [len]; omega)), grd_t (inb_t (by simp only [len]; omega)), lget_i hi]
  obtain ⟨al1, al2, _⟩ := align_eq hr.2.2.2.2.2.1 hr.2.2.2.2.2.2
  have key : ∀ an : List UInt8, (if (d.2.2.2.2.2.1)[i].2.2.2.2.2.2 then [66, 79, 84, 84, 79, 77] else [84, 79, 80]) = an →
   (bnd (q53 fuelH ([116, 111, 112], (d.2.2.2.2.2.1)[i].2.1)) fun v33 => bnd (q53 fuelH ([104, 101, 105, 103, 104, 116], (d.2.2.2.2.2.1)[i].2.2.1)) fun v34 => bnd (q53 fuelH ([108, 101, 102, 116], (d.2.2.2.2.2.1)[i].2.2.2.1)) fun v35 => bnd (q53 fuelH ([119, 105, 100, 116, 104], (d.2.2.2.2.2.1)[i].2.2.2.2.1)) fun v36 =>
    grd (inb (n8 (b8 (isub (n8 (d.2.2.2.2.2.1)[i].2.2.2.2.2.1) (n8 (1 : UInt8))))) (ofN 3)) (bnd (q54 fuelH (a, (1 : Int), [114, 101, 103, 105, 111, 110], [([110, 97, 109, 101], (d.2.2.2.2.2.1)[i].1), v33, v34, v35, v36, ([97, 108, 105, 103, 110], lget gl0 (toN (n8 (b8 (isub (n8 (d.2.2.2.2.2.1)[i].2.2.2.2.2.1) (n8 (1 : UInt8)))))) []), ([97, 110, 99, 104, 111, 114], an)])) fun v37 => self (w64 (iadd (i : Int) 1), v37))) = self (((i + 1 : Nat) : Int), a ++ regN (d.2.2.2.2.2.1)[i]) := fun an han => by
   rw [bnd_s (number_eq hr.2.1.1 (by omega)), bnd_s (number_eq (by omega) (by omega)), bnd_s (number_eq hr.2.2.2.1.1 (by omega)), bnd_s (number_eq (by omega) (by omega)), grd_t al1, al2, bnd_s (element_eq (by omega) (by simp)), w64_succ hi (by omega), ← han]
   rfl
  rw [jn_e]
  cases hb : (d.2.2.2.2.2.1)[i].2.2.2.2.2.2 with
  | true => exact key _ (by rw [hb]; rfl)
  | false => exact key _ (by rw [hb]; rfl)
 rw [jn_e]
 refine (push_loop (l := d.2.2.2.2.2.2.1) (fun a i => ((i : Int), a)) evN ?K2 _ (by have := hd.nev; omega) ?hs2 ?he2).trans ?_
 case he2 =>
  intro self a
  dsimp only
  rw [cnd_f (ilt_f (by simp only [len]; omega))]
 case hs2 =>
  intro self a i hi hle
  obtain ⟨q1, q2, q3, q4, q5⟩ := hd.ev _ (List.getElem_mem hi)
  have ha : (a ++ evN (d.2.2.2.2.2.2.1)[i]).length ≤ 53217 := Nat.le_trans hle hN
  rw [List.length_append] at ha
  have hnr := hd.nev
  have hL1 := itoa_len q3.1
  have hL2 := itoa_len (n := (d.2.2.2.2.2.2.1)[i].2.1.2) (by omega)
  dsimp only
  rw [cnd_t (ilt_t (by simp only [len]; omega)), jn_e, grd_t (inb_t (by simp only [len]; omega)), lget_i hi,
   bnd_s (number_eq (by omega) (by omega)), bnd_s (dec_prog q3.1 (by omega)), grd_t (catOk_t (by simp only [iadd, len, List.length_cons, List.length_nil]; omega)), bnd_s (dec_prog (by omega) (by omega)), grd_t (catOk_t (by simp only [iadd, len, List.length_cons, List.length_nil]; omega)), bnd_s (kind_eq _ _), bnd_s (element_eq (by omega) (by simp))]
  generalize hx : (d.2.2.2.2.2.2.1)[i] = x at *
  refine (push_loop (l := x.2.2.2.2.2) (fun a i => ((i : Int), a)) rowN ?K3 _ (by omega) ?hs3 ?he3).trans ?_
  case he3 =>
   intro self2 a2
   dsimp only
   rw [cnd_f (ilt_f (by simp only [len]; omega))]
  case hs3 =>
   intro self2 a2 i2 hi2 hle2
   obtain ⟨r1, r2⟩ := q5 _ (List.getElem_mem hi2)
   have ha2 : (a2 ++ rowN (x.2.2.2.2.2)[i2]).length ≤ 53217 := by
    refine Nat.le_trans hle2 (Nat.le_trans ?_ ha)
    simp only [evN, List.length_append, List.length_cons, List.length_nil]
    omega
   rw [List.length_append] at ha2
   dsimp only
   rw [cnd_t (ilt_t (by simp only [len]; omega)), jn_e, grd_t (inb_t (by simp only [len]; omega)), bnd_s (element_eq (by omega) (by simp)), lget_i hi2]
   generalize hy : (x.2.2.2.2.2)[i2] = y at *
   refine (push_loop (l := y) (fun a i => ((i : Int), a)) runN ?K4 _ (by omega) ?hs4 ?he4).trans ?_
   case he4 =>
    intro self3 a3
    dsimp only
    rw [cnd_f (ilt_f (by simp only [len]; omega))]
   case hs4 =>
    intro self3 a3 i3 hi3 hle3
    have hu := r2 _ (List.getElem_mem hi3)
    have ha3 : (a3 ++ runN y[i3]).length ≤ 53217 := by
     refine Nat.le_trans hle3 (Nat.le_trans ?_ ha2)
     simp only [rowN, List.length_append, List.length_cons, List.length_nil]
     omega
    rw [List.length_append] at ha3
    dsimp only
    rw [cnd_t (ilt_t (by simp only [len]; omega)), grd_t (inb_t (by simp only [len]; omega)), lget_i hi3, col_prog hu]
    have hlen : ∀ e : Nd, (a3 ++ [e]).length = a3.length + 1 := fun e => by simp
    rw [bnd_s (flag_eq _ _ _), bnd_s (flag_eq _ _ _), bnd_s (element_eq (by omega) (by simp)), grd_t (room_t (by simp only [iadd, len, hlen, List.length_cons, List.length_nil]; omega)), w64_succ hi3 (by omega)]
    show self3 (_, (a3 ++ [elQ 3 [114, 117, 110] (runA y[i3])]) ++ [([], y[i3].1, [], 4)]) = _
    rw [List.append_assoc]
    rfl
   rw [w64_succ hi2 (by omega), List.append_assoc]
   rfl
  rw [w64_succ hi (by omega), List.append_assoc]
  rfl
 show cnd (ilt 8192 (len (docN d))) _ _ = _
 unfold nodV
 by_cases h8 : 8192 < (docN d).length
 ·rw [cnd_t (ilt_t (by simp only [len]; omega)), if_pos h8]
 ·rw [cnd_f (ilt_f (by simp only [len]; omega)), if_neg h8]
  rfl
theorem nodes_ref {d : Doc} (hd : NodOk d) (hc : q86 fuelH d = some 0) : q94 fuelH d = some (nodV d) := by
 have hN := docN_len hd
 have hfu := fuelH_eq
 have hl := hd.last
 have flat : ∀ l : List At, (l.map someQ).flatten = keepQ l := fun l => rfl
 have one : ∀ a : At, (someQ a).length ≤ 1 := fun a => by unfold someQ; split <;> simp
 have fl : ∀ l : List At, l.length ≤ 100 → (l.map someQ).flatten.length ≤ 1000 := fun l h => by rw [flat]; have := keep_len l; omega
 unfold q94
 rw [bnd_s hc, cnd_f (by rfl), bnd_s (some_eq _ _), bnd_s (some_eq _ _), bnd_s (rrname_eq _ _), bnd_s (some_eq _ _), bnd_s (one_eq _ _), bnd_s (some_eq _ _), bnd_s (decimal_eq hl.1 (by omega)),
  show [someQ ([116, 105, 116, 108, 101], d.1), someQ ([108, 97, 110, 103], d.2.1), someQ ([114, 97, 116, 101], ratQ d.2.2.1), someQ ([100, 114, 111, 112], oneQ d.2.2.2.1), someQ ([108, 97, 115, 116], itoa10 d.2.2.2.2.1)] = (docA d).map someQ from rfl,
  bnd_s (attrs_eq (by simp [docA]) (fl _ (by simp [docA]))), jn_e]
 refine (push_loop (l := d.2.2.2.2.2.1) (fun a i => (a, (i : Int))) regN ?K [elQ 0 [116, 116] (docA d)] (by have := hd.nreg; omega) ?hs ?he).trans ?_
 case he =>
  intro self a
  dsimp only
  rw [cnd_f (ilt_f (by simp only [len]; omega))]
 case hs =>
  intro self a i hi hle
  have hr := regChk_ok (hd.reg _ (List.getElem_mem hi))
  have ha : (a ++ regN (d.2.2.2.2.2.1)[i]).length ≤ 53217 := by
   refine Nat.le_trans hle (Nat.le_trans ?_ hN)
   unfold docN
   simp only [List.length_append]
   omega
  rw [List.length_append] at ha
  have hnr := hd.nreg
  dsimp only
  rw [cnd_t (ilt_t (by simp only [len]; omega)), grd_t (inb_t (by simp only [len]; omega)), lget_i hi]
  obtain ⟨_, _, al3⟩ := align_eq hr.2.2.2.2.2.1 hr.2.2.2.2.2.2
  have hal := hr.2.2.2.2.2
  generalize hx : (d.2.2.2.2.2.1)[i] = x at *
  have key : ∀ an : List UInt8, (if x.2.2.2.2.2.2 then [66, 79, 84, 84, 79, 77] else [84, 79, 80]) = an →
   (bnd (r21_some fuelH ([110, 97, 109, 101], x.1)) fun v46 => bnd (q88 fuelH ([116, 111, 112], x.2.1)) fun v47 => bnd (q88 fuelH ([104, 101, 105, 103, 104, 116], x.2.2.1)) fun v48 => bnd (q88 fuelH ([108, 101, 102, 116], x.2.2.2.1)) fun v49 => bnd (q88 fuelH ([119, 105, 100, 116, 104], x.2.2.2.2.1)) fun v50 =>
    bnd (q90 fuelH ()) fun v51 => grd (inb (n8 x.2.2.2.2.2.1) (len v51)) (bnd (r21_some fuelH ([97, 108, 105, 103, 110], lget v51 (toN (n8 x.2.2.2.2.2.1)) [])) fun v52 => bnd (r21_some fuelH ([97, 110, 99, 104, 111, 114], an)) fun v53 => bnd (q89 fuelH [v46, v47, v48, v49, v50, v52, v53]) fun v54 =>
    grd (room (iadd (len a) (len [([114, 101, 103, 105, 111, 110], ([] : List UInt8), v54, (1 : Int))])) 64) (self (lapp a [([114, 101, 103, 105, 111, 110], ([] : List UInt8), v54, (1 : Int))], w64 (iadd (i : Int) 1))))) = self (a ++ regN x, ((i + 1 : Nat) : Int)) := fun an han => by
   rw [bnd_s (some_eq _ _), bnd_s (decimal_eq hr.2.1.1 (by omega)), bnd_s (decimal_eq (by omega) (by omega)), bnd_s (decimal_eq hr.2.2.2.1.1 (by omega)), bnd_s (decimal_eq (by omega) (by omega)), bnd_s (show q90 fuelH () = some [[], [76, 69, 70, 84], [67, 69, 78, 84, 69, 82], [82, 73, 71, 72, 84]] from rfl),
    grd_t (inb_t (by simp only [len, List.length_cons, List.length_nil]; omega)), al3, bnd_s (some_eq _ _), bnd_s (some_eq _ _), ← han,
    show [someQ ([110, 97, 109, 101], x.1), someQ ([116, 111, 112], itoa10 x.2.1), someQ ([104, 101, 105, 103, 104, 116], itoa10 x.2.2.1), someQ ([108, 101, 102, 116], itoa10 x.2.2.2.1), someQ ([119, 105, 100, 116, 104], itoa10 x.2.2.2.2.1), someQ ([97, 108, 105, 103, 110], aliQ x.2.2.2.2.2.1), someQ ([97, 110, 99, 104, 111, 114], if x.2.2.2.2.2.2 then [66, 79, 84, 84, 79, 77] else [84, 79, 80])] = (regA x).map someQ from rfl,
    bnd_s (attrs_eq (by simp [regA]) (fl _ (by simp [regA]))), grd_t (room_t (by simp only [iadd, len, List.length_cons, List.length_nil]; omega)), w64_succ hi (by omega)]
   rfl
  rw [jn_e]
  cases hb : x.2.2.2.2.2.2 with
  | true => exact key _ (by rw [hb]; rfl)
  | false => exact key _ (by rw [hb]; rfl)
 rw [jn_e]
 refine (push_loop (l := d.2.2.2.2.2.2.1) (fun a i => (a, (i : Int))) evN ?K2 _ (by have := hd.nev; omega) ?hs2 ?he2).trans ?_
 case he2 =>
  intro self a
  dsimp only
  rw [cnd_f (ilt_f (by simp only [len]; omega))]
 case hs2 =>
  intro self a i hi hle
  obtain ⟨q1, q2, q3, q4, q5⟩ := hd.ev _ (List.getElem_mem hi)
  have ha : (a ++ evN (d.2.2.2.2.2.2.1)[i]).length ≤ 53217 := Nat.le_trans hle hN
  rw [List.length_append] at ha
  have hnr := hd.nev
  have hL1 := itoa_len q3.1
  have hL2 := itoa_len (n := (d.2.2.2.2.2.2.1)[i].2.1.2) (by omega)
  dsimp only
  rw [cnd_t (ilt_t (by simp only [len]; omega)), jn_e, grd_t (inb_t (by simp only [len]; omega)), lget_i hi]
  generalize hx : (d.2.2.2.2.2.2.1)[i] = x at *
  rw [bnd_s (decimal_eq (by omega) (by omega)), bnd_s (dec_ref q3.1 (by omega)), grd_t (catOk_t (by simp only [iadd, len, List.length_cons, List.length_nil]; omega)), bnd_s (some_eq _ _), bnd_s (dec_ref (by omega) (by omega)), grd_t (catOk_t (by simp only [iadd, len, List.length_cons, List.length_nil]; omega)), bnd_s (some_eq _ _), bnd_s (some_eq _ _), bnd_s (rkind_eq _ _), bnd_s (some_eq _ _), bnd_s (some_eq _ _),
   show [someQ ([105, 100], itoa10 x.1), someQ ([105, 110], lapp (itoa10 x.2.1.1) [102]), someQ ([111, 117, 116], lapp (itoa10 x.2.1.2) [102]), someQ ([114, 101, 103, 105, 111, 110], x.2.2.1), someQ ([107, 105, 110, 100], kndQ x.2.2.2.1), someQ ([115, 112, 101, 97, 107, 101, 114], x.2.2.2.2.1)] = (evA x).map someQ from rfl,
   bnd_s (attrs_eq (by simp [evA]) (fl _ (by simp [evA]))), grd_t (room_t (by simp only [iadd, len, List.length_cons, List.length_nil]; omega))]
  refine (push_loop (l := x.2.2.2.2.2) (fun a i => (a, (i : Int))) rowN ?K3 _ (by omega) ?hs3 ?he3).trans ?_
  case he3 =>
   intro self2 a2
   dsimp only
   rw [cnd_f (ilt_f (by simp only [len]; omega))]
  case hs3 =>
   intro self2 a2 i2 hi2 hle2
   obtain ⟨r1, r2⟩ := q5 _ (List.getElem_mem hi2)
   have ha2 : (a2 ++ rowN (x.2.2.2.2.2)[i2]).length ≤ 53217 := by
    refine Nat.le_trans hle2 (Nat.le_trans ?_ ha)
    simp only [evN, lapp, List.length_append, List.length_cons, List.length_nil]
    omega
   rw [List.length_append] at ha2
   dsimp only
   rw [cnd_t (ilt_t (by simp only [len]; omega)), jn_e, grd_t (inb_t (by simp only [len]; omega)), grd_t (room_t (by simp only [iadd, len, List.length_cons, List.length_nil]; omega)), lget_i hi2]
   generalize hy : (x.2.2.2.2.2)[i2] = y at *
   refine (push_loop (l := y) (fun a i => (a, (i : Int))) runN ?K4 _ (by omega) ?hs4 ?he4).trans ?_
   case he4 =>
    intro self3 a3
    dsimp only
    rw [cnd_f (ilt_f (by simp only [len]; omega))]
   case hs4 =>
    intro self3 a3 i3 hi3 hle3
    have hu := r2 _ (List.getElem_mem hi3)
    have ha3 : (a3 ++ runN y[i3]).length ≤ 53217 := by
     refine Nat.le_trans hle3 (Nat.le_trans ?_ ha2)
     simp only [rowN, lapp, List.length_append, List.length_cons, List.length_nil]
     omega
    rw [List.length_append] at ha3
    have hur := n8_rng y[i3].2.1.1
    dsimp only
    rw [cnd_t (ilt_t (by simp only [len]; omega)), grd_t (inb_t (by simp only [len]; omega)), lget_i hi3, bnd_s (show q93 fuelH () = some [[119, 104, 105, 116, 101], [103, 114, 101, 101, 110], [98, 108, 117, 101], [99, 121, 97, 110], [114, 101, 100], [121, 101, 108, 108, 111, 119], [109, 97, 103, 101, 110, 116, 97]] from rfl), grd_t (inb_t (by simp only [len, List.length_cons, List.length_nil]; omega)), col_ref]
    generalize hz : y[i3] = z at *
    rw [bnd_s (some_eq _ _), bnd_s (one_eq _ _), bnd_s (some_eq _ _), bnd_s (one_eq _ _), bnd_s (some_eq _ _), bnd_s (some_eq _ _),
     show [someQ ([99, 111, 108, 111, 114], colQ z.2.1.1), someQ ([105, 116, 97, 108, 105, 99], oneQ z.2.1.2.1), someQ ([117, 110, 100, 101, 114, 108, 105, 110, 101], oneQ z.2.1.2.2), someQ ([114, 117, 98, 121], z.2.2)] = (runA z).map someQ from rfl,
     bnd_s (attrs_eq (by simp [runA]) (fl _ (by simp [runA]))), grd_t (room_t (by simp only [iadd, len, List.length_cons, List.length_nil]; omega)), w64_succ hi3 (by omega)]
    rfl
   rw [w64_succ hi2 (by omega)]
   show self2 ((a2 ++ [elQ 2 [114, 111, 119] []]) ++ y.flatMap runN, _) = _
   rw [List.append_assoc]
   rfl
  rw [w64_succ hi (by omega)]
  show self ((a ++ [elQ 1 [112] (evA x)]) ++ x.2.2.2.2.2.flatMap rowN, _) = _
  rw [List.append_assoc]
  rfl
 show cnd (ilt 8192 (len (docN d))) _ _ = _
 unfold nodV
 by_cases h8 : 8192 < (docN d).length
 ·rw [cnd_t (ilt_t (by simp only [len]; omega)), if_pos h8]
 ·rw [cnd_f (ilt_f (by simp only [len]; omega)), if_neg h8]
  rfl
end
end Go.Mo
end

section
/-
  Plain facts: the check of nodes.
-/
set_option linter.all false
namespace Go.Mo
open Go Go.W Go.Lib
set_option maxRecDepth 100000
noncomputable section
def atE : List Ln → List At → Int
 | _, [] => 0
 | seen, a :: r => if nmX a.1 = false then 5 else if a.1 ∈ seen then 7 else if vld a.2 = false then 10 else atE (seen ++ [a.1]) r
def elE (n : Nd) : Int := if nmX n.1 = false then 5 else if n.2.1 ≠ [] then 4 else if 16 < n.2.2.1.length then 9 else atE [] n.2.2.1
def depE (p : Option Nd) (n : Nd) : Int := match p with
 | none => if dep n ≠ 0 then 8 else 0
 | some q => if dep n < 1 then 8 else if (if q.1 ≠ [] then dep q + 1 else dep q) < dep n then 8 else if 15 < dep n then 9 else 0
def txP (p : Option Nd) (n : Nd) : Bool := match p with
 | none => true
 | some q => decide (q.1 = [] ∧ dep q = dep n)
def txE (p : Option Nd) (n : Nd) : Int :=
 if txP p n = true then 8 else if n.2.1 = [] then 4 else if 0 < n.2.2.1.length then 4 else if vld n.2.1 = false then 10 else 0
def ndE (p : Option Nd) (n : Nd) : Int := if depE p n ≠ 0 then depE p n else if n.1 ≠ [] then elE n else txE p n
def ckE : Option Nd → List Nd → Int
 | _, [] => 0
 | p, n :: r => if ndE p n ≠ 0 then ndE p n else ckE (some n) r
def chkE (l : List Nd) : Int := if l.length = 0 then 6 else if 8192 < l.length then 9 else ckE none l
theorem mget_names {m : List (Ln × Bool)} (h : ∀ x ∈ m, x.2 = true) (k : Ln) : mget seq false m k = decide (k ∈ m.map Prod.fst) := by
 induction m with
 | nil => rfl
 | cons x m ih =>
  have ih := ih fun y hy => h y (List.mem_cons_of_mem _ hy)
  have hx := h x List.mem_cons_self
  unfold mget
  rw [ih, hx, seq_dec]
  by_cases e : k = x.1
  ·subst e; simp
  ·simp [e]
theorem mput_names {m : List (Ln × Bool)} {k : Ln} (h : k ∉ m.map Prod.fst) : mput seq m k true = m ++ [(k, true)] := by
 induction m with
 | nil => rfl
 | cons x m ih =>
  simp only [List.map_cons, List.mem_cons, not_or] at h
  unfold mput
  have : seq k x.1 = false := by rw [seq_dec]; simpa using h.1
  rw [this, ih h.2]
  rfl
theorem elem_eq {n : Nd} (hs : smN n) : q59 fuelH n = some (elE n) := by
 unfold q59 elE
 rw [name_eq, bnd_some']
 by_cases h1 : nmX n.1 = true
 ·rw [h1, cnd_f (by rfl), if_neg (by decide)]
  by_cases h2 : n.2.1 = []
  ·rw [cnd_f (by unfold sne; simpa using h2), if_neg (by simpa using h2)]
   by_cases h3 : 16 < n.2.2.1.length
   ·rw [cnd_t (ilt_t (by simp only [len]; omega)), if_pos h3]
   rw [cnd_f (ilt_f (by simp only [len]; omega)), if_neg h3, jn_e]
   generalize ha : n.2.2.1 = l at *
   have h := drop_loop (s := l) (fun (m : List (Ln × Bool)) (j : Nat) => ((j : Int), m)) (fun m r => some (atE (m.map Prod.fst) r)) (fun _ m => ∀ x ∈ m, x.2 = true)
    (F := fun v3 (v4 : Int × List ((List UInt8) × Bool)) =>
     cnd (ilt v4.1 (len l))
      (grd (inb v4.1 (len l))
       (bnd (xml_Name fuelH (lget l (toN v4.1) ([], [])).1) fun v5 =>
       cnd (bnot v5)
        (some (5 : Int))
        (cnd (mget seq false v4.2 (lget l (toN v4.1) ([], [])).1)
         (some (7 : Int))
         (bnd (q13 fuelH (lget l (toN v4.1) ([], [])).2) fun v6 =>
         cnd (bnot v6)
          (some (10 : Int))
          (v3 (w64 (iadd v4.1 (1 : Int)), mput seq v4.2 (lget l (toN v4.1) ([], [])).1 true))))))
      (some (0 : Int))) ?_ fuelH 0 [] (fuelH_len (by omega) _) (Nat.zero_le _) (by simp)
   ·exact h
   ·intro self m j hj hI hself
    by_cases hjl : j < l.length
    ·have hw : w64 (iadd (j : Int) 1) = ((j + 1 : Nat) : Int) := w64_succ hjl (by omega)
     have hsa := hs.an l[j] (by rw [ha]; exact List.getElem_mem hjl)
     rw [List.drop_eq_getElem_cons hjl]
     show cnd (ilt (j : Int) (len l)) _ _ = some (if nmX (l[j]).1 = false then _ else _)
     rw [cnd_t (ilt_t (by simp only [len]; omega)), grd_t (inb_t (by simp only [len]; omega)), lget_i hjl, name_eq, bnd_some', hw]
     by_cases e1 : nmX (l[j]).1 = true
     ·rw [e1, cnd_f (by rfl), if_neg (by decide), mget_names hI]
      by_cases e2 : (l[j]).1 ∈ m.map Prod.fst
      ·rw [cnd_t (by simpa using e2), if_pos e2]
      ·rw [cnd_f (by simpa using e2), if_neg e2, ch_valid _ (by omega), bnd_some']
       by_cases e3 : vld (l[j]).2 = true
       ·rw [e3, cnd_f (by rfl), if_neg (by decide), mput_names e2]
        refine Eq.trans (hself (m ++ [((l[j]).1, true)]) (j + 1) (by omega) (by omega) ?_) ?_
        ·intro x hx
         rcases List.mem_append.1 hx with hx | hx
         ·exact hI x hx
         ·simp at hx; rw [hx]
        ·simp
       ·have e3 : vld (l[j]).2 = false := by simpa using e3
        rw [e3, cnd_t (by rfl), if_pos rfl]
     ·have e1 : nmX (l[j]).1 = false := by simpa using e1
      rw [e1, cnd_t (by rfl), if_pos rfl]
    ·obtain rfl : j = l.length := by omega
     show cnd (ilt (l.length : Int) (len l)) _ _ = _
     rw [cnd_f (ilt_f (by simp only [len]; omega)), List.drop_length]
     rfl
  ·rw [cnd_t (by unfold sne; simpa using h2), if_pos h2]
 ·have h1 : nmX n.1 = false := by simpa using h1
  rw [h1, cnd_t (by rfl), if_pos rfl]
def prv (l : List Nd) (i : Nat) : Option Nd := if i = 0 then none else l[i - 1]?
theorem prv_succ {l : List Nd} {i : Nat} (hi : i < l.length) : prv l (i + 1) = some l[i] := by
 unfold prv
 rw [if_neg (by omega)]
 simp [hi]
theorem depth_eq {l : List Nd} (hl : l.length ≤ 4000000) {i : Nat} (hi : i < l.length) (hp : ∀ q, prv l i = some q → 0 ≤ dep q ∧ dep q ≤ 15) : q56 fuelH (l, (i : Int)) = some (depE (prv l i) l[i]) := by
 unfold q56
 show grd (inb (i : Int) (len l)) (cnd (ieq (i : Int) 0) (cnd (ine (lget l (toN (i : Int)) ([], ([], ([], (0 : Int))))).2.2.2 0) _ _) _) = _
 rw [grd_t (inb_t (by simp only [len]; omega)), lgetn hi]
 by_cases h0 : i = 0
 ·subst h0
  rw [cnd_t (by rfl)]
  show cnd (ine (dep l[0]) 0) _ _ = some (if dep l[0] ≠ 0 then (8 : Int) else 0)
  by_cases e : dep l[0] = 0
  ·rw [cnd_f (ine_f e), if_neg (by simpa using e)]
  ·rw [cnd_t (ine_t e), if_pos e]
 ·obtain ⟨k, rfl⟩ : ∃ k, i = k + 1 := ⟨i - 1, by omega⟩
  have hq := hp _ (prv_succ (by omega))
  rw [cnd_f (ieq_f (by omega)), prv_succ (by omega)]
  have hb : w64 (isub ((k + 1 : Nat) : Int) 1) = (k : Int) := w64_back (by omega)
  dsimp only
  have hg : inb (k : Int) (len l) = true := inb_t (by simp only [len]; omega)
  rw [hb, lgetn (show k < l.length by omega), grd_t hg, jn_e, grd_t hg]
  show cnd (sne l[k].1 []) (cnd (ilt (dep l[k + 1]) 1) (some 8) (cnd (ilt (w64 (iadd (dep l[k]) 1)) (dep l[k + 1])) (some 8) (cnd (ilt 15 (dep l[k + 1])) (some 9) (some 0)))) (cnd (ilt (dep l[k + 1]) 1) (some 8) (cnd (ilt (dep l[k]) (dep l[k + 1])) (some 8) (cnd (ilt 15 (dep l[k + 1])) (some 9) (some 0)))) =
   some (if dep l[k + 1] < 1 then (8 : Int) else if (if l[k].1 ≠ [] then dep l[k] + 1 else dep l[k]) < dep l[k + 1] then 8 else if 15 < dep l[k + 1] then 9 else 0)
  have hw : w64 (iadd (dep l[k]) 1) = dep l[k] + 1 := by
   simp only [iadd]
   rw [w64_id (by omega)]
  rw [hw]
  simp only [cnd_ilt]
  by_cases e : l[k].1 = []
  ·rw [cnd_f (by unfold sne; simpa using e)]
   simp only [e, ne_eq, not_true, if_false]
   repeat' split
   all_goals rfl
  ·rw [cnd_t (by unfold sne; simpa using e)]
   simp only [e, ne_eq, not_false_eq_true, if_true]
   repeat' split
   all_goals rfl
theorem text_eq {l : List Nd} (hl : l.length ≤ 4000000) {i : Nat} (hi : i < l.length) (hs : smN l[i]) : q60 fuelH (l, (i : Int)) = some (txE (prv l i) l[i]) := by
 have fin : ∀ b : Bool, (cnd b (some (8 : Int)) (cnd (seq l[i].2.1 []) (some (4 : Int)) (cnd (ilt 0 (len l[i].2.2.1)) (some (4 : Int)) (bnd (q13 fuelH l[i].2.1) fun v1 => cnd (bnot v1) (some (10 : Int)) (some (0 : Int)))))) =
   some (if b = true then 8 else if l[i].2.1 = [] then 4 else if 0 < l[i].2.2.1.length then 4 else if vld l[i].2.1 = false then 10 else 0) := fun b => by
  cases b with
  | true => rfl
  | false =>
   rw [cnd_f (by rfl), if_neg (by decide)]
   by_cases h1 : l[i].2.1 = []
   ·rw [cnd_t (by rw [seq_t]; exact h1), if_pos h1]
   rw [cnd_f (by rw [seq_dec]; simpa using h1), if_neg h1]
   by_cases h2 : 0 < l[i].2.2.1.length
   ·rw [cnd_t (ilt_t (by simp only [len]; omega)), if_pos h2]
   rw [cnd_f (ilt_f (by simp only [len]; omega)), if_neg h2, ch_valid _ (by have := hs.tx; omega), bnd_some']
   cases vld l[i].2.1 <;> rfl
 unfold q60
 dsimp only
 rw [grd_t (inb_t (by simp only [len]; omega)), jn_e]
 simp only [lgetn hi]
 by_cases h0 : i = 0
 ·subst h0
  rw [cnd_t (by rfl)]
  refine Eq.trans (fin true) ?_
  rfl
 ·obtain ⟨k, rfl⟩ : ∃ k, i = k + 1 := ⟨i - 1, by omega⟩
  have hb : w64 (isub ((k + 1 : Nat) : Int) 1) = (k : Int) := w64_back (by omega)
  have hg : inb (k : Int) (len l) = true := inb_t (by simp only [len]; omega)
  rw [cnd_f (ieq_f (by omega)), prv_succ (by omega), hb, grd_t hg, grd_t hg, lgetn (show k < l.length by omega)]
  unfold txE
  by_cases e : l[k].1 = []
  ·rw [cnd_t (by rw [seq_t]; exact e)]
   refine Eq.trans (fin _) ?_
   have hc : ieq l[k].2.2.2 l[k + 1].2.2.2 = txP (some l[k]) l[k + 1] := by
    unfold txP
    rw [Bool.eq_iff_iff, ieq_tt, decide_eq_true_eq]
    exact ⟨fun h => ⟨e, h⟩, fun h => h.2⟩
   rw [hc]
  ·rw [cnd_f (by rw [seq_dec]; simpa using e)]
   refine Eq.trans (fin _) ?_
   have hc : txP (some l[k]) l[k + 1] = false := by
    unfold txP
    exact decide_eq_false fun h => e h.1
   rw [hc]
theorem depE_ok {p : Option Nd} {n : Nd} (h : depE p n = 0) : 0 ≤ dep n ∧ dep n ≤ 15 := by
 unfold depE at h
 cases p with
 | none =>
  simp only at h
  split at h
  ·cases h
  ·rename_i k; simp at k; omega
 | some q =>
  simp only at h
  repeat' split at h
  all_goals (first | (cases h; done) | omega)
theorem ndE_dep {p : Option Nd} {n : Nd} (h : ndE p n = 0) : depE p n = 0 := by
 unfold ndE at h
 by_cases e : depE p n = 0
 ·exact e
 ·rw [if_pos e] at h
  exact h
theorem check_eq {l : List Nd} (hl : l.length ≤ 4000000) (hs : ∀ n ∈ l, smN n) : q61 fuelH l = some (chkE l) := by
 unfold q61 chkE
 by_cases h0 : l.length = 0
 ·rw [cnd_t (ieq_t (by simp only [len]; omega)), if_pos h0]
 rw [cnd_f (ieq_f (by simp only [len]; omega)), if_neg h0]
 by_cases h1 : 8192 < l.length
 ·rw [cnd_t (ilt_t (by simp only [len]; omega)), if_pos h1]
 rw [cnd_f (ilt_f (by simp only [len]; omega)), if_neg h1, jn_e]
 have h := drop_loop (s := l) (fun (_ : Unit) (j : Nat) => (j : Int)) (fun _ r => some (ckE (prv l (l.length - r.length)) r)) (fun j _ => ∀ q, prv l j = some q → 0 ≤ dep q ∧ dep q ≤ 15)
  (F := fun v2 (v3 : Int) =>
    cnd (ilt v3 (len l))
     (grd (inb v3 (len l))
      (bnd (q56 fuelH (l, v3)) fun v4 =>
      cnd (ine v4 (0 : Int))
       (some v4)
       (cnd (sne (lget l (toN v3) ([], ([], ([], (0 : Int))))).1 ([] : List UInt8))
        (bnd (q59 fuelH (lget l (toN v3) ([], ([], ([], (0 : Int)))))) fun v5 =>
        cnd (ine v5 (0 : Int))
         (some v5)
         (v2 (w64 (iadd v3 (1 : Int)))))
        (bnd (q60 fuelH (l, v3)) fun v6 =>
        cnd (ine v6 (0 : Int))
         (some v6)
         (v2 (w64 (iadd v3 (1 : Int))))))))
     (some (0 : Int))) ?_ fuelH 0 () (fuelH_len hl _) (Nat.zero_le _) (fun q hq => by simp [prv] at hq)
 ·refine Eq.trans h ?_
  rw [List.drop_zero, Nat.sub_self]
  rfl
 ·intro self a j hj hI hself
  by_cases hjl : j < l.length
  ·have hw : w64 (iadd (j : Int) 1) = ((j + 1 : Nat) : Int) := w64_succ hjl (by omega)
   have hrl : l.length - (l.drop j).length = j := by rw [List.length_drop]; omega
   have hrl2 : l.length - (l.drop (j + 1)).length = j + 1 := by rw [List.length_drop]; omega
   have hsm := hs _ (List.getElem_mem hjl)
   have hgo : depE (prv l j) l[j] = 0 → self ((j + 1 : Nat) : Int) = some (ckE (some l[j]) (l.drop (j + 1))) := fun hd => by
    refine Eq.trans (hself () (j + 1) (by omega) (by omega) (fun q hq => ?_)) ?_
    ·rw [prv_succ hjl] at hq
     injection hq with hq
     rw [← hq]
     exact depE_ok hd
    ·rw [hrl2, prv_succ hjl]
   rw [hrl, List.drop_eq_getElem_cons hjl]
   show cnd (ilt (j : Int) (len l)) _ _ = some (if ndE (prv l j) l[j] ≠ 0 then ndE (prv l j) l[j] else ckE (some l[j]) (l.drop (j + 1)))
   rw [cnd_t (ilt_t (by simp only [len]; omega)), grd_t (inb_t (by simp only [len]; omega)), depth_eq hl hjl hI, bnd_some', lgetn hjl, elem_eq hsm, text_eq hl hjl hsm, bnd_some', bnd_some', hw]
   unfold ndE
   by_cases e1 : depE (prv l j) l[j] = 0
   ·rw [cnd_f (ine_f e1), if_neg (show ¬ depE (prv l j) l[j] ≠ 0 from fun k => k e1)]
    by_cases e2 : l[j].1 = []
    ·rw [cnd_f (by unfold sne; simpa using e2), if_neg (show ¬ l[j].1 ≠ [] from fun k => k e2)]
     by_cases e3 : txE (prv l j) l[j] = 0
     ·rw [cnd_f (ine_f e3), if_neg (fun k => k e3)]
      exact hgo e1
     ·rw [cnd_t (ine_t e3), if_pos e3]
    ·rw [cnd_t (by unfold sne; simpa using e2), if_pos e2]
     by_cases e3 : elE l[j] = 0
     ·rw [cnd_f (ine_f e3), if_neg (fun k => k e3)]
      exact hgo e1
     ·rw [cnd_t (ine_t e3), if_pos e3]
   ·rw [cnd_t (ine_t e1), if_pos e1, if_pos e1]
  ·obtain rfl : j = l.length := by omega
   show cnd (ilt (l.length : Int) (len l)) _ _ = _
   rw [cnd_f (ilt_f (by simp only [len]; omega)), List.drop_length]
   rfl
end
end Go.Mo
end

section
/-
  Plain facts: each node but the root is the child of one element; XmlCovers returns true.
-/
set_option linter.all false
namespace Go.Mo
open Go Go.W Go.Lib
set_option maxRecDepth 100000
noncomputable section
open Classical
theorem ck_at : ∀ (r : List Nd) (p : Option Nd), ckE p r = 0 → ∀ j (h : j < r.length), ndE (if j = 0 then p else r[j - 1]?) r[j] = 0
 | [], _, _, j, h => by simp at h
 | n :: r, p, hc, j, h => by
  have hc' : (if ndE p n ≠ 0 then ndE p n else ckE (some n) r) = 0 := hc
  by_cases e : ndE p n = 0
  ·rw [if_neg (fun k => k e)] at hc'
   cases j with
   | zero => exact e
   | succ j =>
    have := ck_at r (some n) hc' j (by simpa using h)
    rw [if_neg (by omega)]
    cases j with
    | zero => simpa using this
    | succ j => simpa using this
  ·rw [if_pos e] at hc'
   exact absurd hc' e
theorem chk_at {l : List Nd} (h : chkE l = 0) : 0 < l.length ∧ l.length ≤ 8192 ∧ ∀ j (h : j < l.length), ndE (prv l j) l[j] = 0 := by
 unfold chkE at h
 by_cases h0 : l.length = 0
 ·rw [if_pos h0] at h; cases h
 rw [if_neg h0] at h
 by_cases h1 : 8192 < l.length
 ·rw [if_pos h1] at h; cases h
 rw [if_neg h1] at h
 exact ⟨by omega, by omega, fun j hj => ck_at l none h j hj⟩
structure Deep (l : List Nd) : Prop where
 root : ∀ h : 0 < l.length, dep l[0] = 0
 low : ∀ i (h : i + 1 < l.length), 1 ≤ dep l[i + 1] ∧ dep l[i + 1] ≤ dep l[i] + 1 ∧ (dep l[i] < dep l[i + 1] → l[i].1 ≠ [])
 high : ∀ i (h : i < l.length), 0 ≤ dep l[i] ∧ dep l[i] ≤ 15
theorem deep_of {l : List Nd} (h : ∀ j (h : j < l.length), ndE (prv l j) l[j] = 0) : Deep l := by
 refine ⟨fun h0 => ?_, fun i hi => ?_, fun i hi => depE_ok (ndE_dep (h i hi))⟩
 ·have := ndE_dep (h 0 h0)
  have : (if dep l[0] ≠ 0 then (8 : Int) else 0) = 0 := this
  by_cases e : dep l[0] = 0
  ·exact e
  ·rw [if_pos e] at this; cases this
 ·have := ndE_dep (h (i + 1) hi)
  rw [prv_succ (by omega)] at this
  have : (if dep l[i + 1] < 1 then (8 : Int) else if (if l[i].1 ≠ [] then dep l[i] + 1 else dep l[i]) < dep l[i + 1] then 8 else if 15 < dep l[i + 1] then 9 else 0) = 0 := this
  by_cases e1 : dep l[i + 1] < 1
  ·rw [if_pos e1] at this; cases this
  rw [if_neg e1] at this
  by_cases e2 : (if l[i].1 ≠ [] then dep l[i] + 1 else dep l[i]) < dep l[i + 1]
  ·rw [if_pos e2] at this; cases this
  by_cases e3 : l[i].1 = []
  ·rw [if_neg (fun k => k e3)] at e2
   exact ⟨by omega, by omega, fun k => by omega⟩
  ·rw [if_pos e3] at e2
   exact ⟨by omega, by omega, fun _ => e3⟩
end
end Go.Mo
end

section
/-
  Plain facts: tokens of a source.
-/
set_option linter.all false
namespace Go.Mo
open Go Go.W Go.Lib
set_option maxRecDepth 100000
noncomputable section
abbrev Ls := List UInt8
abbrev Aq := List UInt8 × List UInt8
abbrev Tok := Int × List UInt8 × List Aq × List UInt8
end
end Go.Mo
end

section
/-
  Plain facts: the token at the beginning of a source.
-/
set_option linter.all false
namespace Go.Mo
open Go Go.W Go.Lib
set_option maxRecDepth 100000
noncomputable section
end
end Go.Mo
end

section
/-
  Plain facts: the parser takes a token.
-/
set_option linter.all false
namespace Go.Mo
open Go Go.W Go.Lib
set_option maxRecDepth 100000
noncomputable section
abbrev Ps := List Nd × List Ls × Bool
theorem last_of {α : Type} {l : List α} (h : l ≠ []) : ∃ n, l.getLast? = some n ∧ l = l.dropLast ++ [n] ∧ ∃ hl : l.length - 1 < l.length, l[l.length - 1] = n := by
 rcases List.eq_nil_or_concat l with e | ⟨m, n, rfl⟩
 ·exact absurd e h
 ·refine ⟨n, by simp, by simp, by simp, by simp⟩
end
end Go.Mo
end

section
/-
  Plain facts: start tags, tokens taken, the tree of a source.
-/
set_option linter.all false
namespace Go.Mo
open Go Go.W Go.Lib
set_option maxRecDepth 100000
noncomputable section
theorem dup_loop {R : Type} {l : List At} (hl : l.length ≤ 400000) (name : Ls) (bad : Option R) (K : Option R) :
  fixN (fun v12 (v13 : Int) =>
       cnd (ilt v13 (len l))
        (grd (inb v13 (len l))
         (cnd (seq (lget l (toN v13) ([], [])).1 name)
          bad
          (v12 (w64 (iadd v13 (1 : Int))))))
        K) fuelH (0 : Int) = if name ∈ l.map Prod.fst then bad else K := by
 have h := drop_loop (s := l) (fun (_ : Unit) (j : Nat) => (j : Int)) (fun _ r => if name ∈ r.map Prod.fst then bad else K) (fun _ _ => True)
  (F := fun v12 (v13 : Int) =>
       cnd (ilt v13 (len l))
        (grd (inb v13 (len l))
         (cnd (seq (lget l (toN v13) ([], [])).1 name)
          bad
          (v12 (w64 (iadd v13 (1 : Int))))))
        K) ?_ fuelH 0 () (fuelH_len (by omega) _) (Nat.zero_le _) trivial
 ·exact h
 ·intro self a j hj _ hself
  by_cases hjl : j < l.length
  ·have hw : w64 (iadd (j : Int) 1) = ((j + 1 : Nat) : Int) := w64_succ hjl (by omega)
   rw [cnd_t (ilt_t (by simp only [len]; omega)), grd_t (inb_t (by simp only [len]; omega)), lget_i hjl, hw, List.drop_eq_getElem_cons hjl, List.map_cons]
   by_cases e : (l[j]).1 = name
   ·rw [cnd_t (by rw [seq_t]; exact e), if_pos (by rw [e]; exact List.mem_cons_self)]
   ·rw [cnd_f (by rw [seq_dec]; simpa using e)]
    refine Eq.trans (hself () (j + 1) (by omega) (by omega) trivial) ?_
    have : (name ∈ (l[j]).1 :: (l.drop (j + 1)).map Prod.fst) ↔ (name ∈ (l.drop (j + 1)).map Prod.fst) := by
     rw [List.mem_cons]
     exact ⟨fun k => k.resolve_left (fun q => e q.symm), .inr⟩
    simp only [this]
  ·obtain rfl : j = l.length := by omega
   rw [cnd_f (ilt_f (by simp only [len]; omega)), List.drop_length]
   rfl
end
end Go.Mo
end

section
/-
  Plain facts: the tree of a source.
-/
set_option linter.all false
namespace Go.Mo
open Go Go.W Go.Lib
set_option maxRecDepth 100000
noncomputable section
structure TokOk (n : Nat) (t : Tok) : Prop where
 tx : t.2.2.2.length ≤ n
 al : t.2.2.1.length ≤ n
 av : ∀ a ∈ t.2.2.1, a.2.length ≤ n
structure PsOk (i : Nat) (p : Ps) : Prop where
 jn : p.2.2 = true → p.1 ≠ []
 nl : p.1.length ≤ i
 sl : p.2.1.length ≤ i
 tx : ∀ n ∈ p.1, n.2.1.length ≤ 4 * i
end
end Go.Mo
end

section
/-
  Plain facts: printed pieces are read back.
-/
set_option linter.all false
namespace Go.Mo
open Go Go.W Go.Lib
set_option maxRecDepth 100000
noncomputable section
def atT (l : List At) : Ls := l.flatMap fun a => 32 :: (a.1 ++ (61 :: 34 :: (esc a.2 ++ [34])))
theorem atT_cons (a : At) (l : List At) (rest : Ls) : atT (a :: l) ++ rest = 32 :: (a.1 ++ 61 :: (34 :: (esc a.2 ++ 34 :: (atT l ++ rest)))) := by
 unfold atT
 rw [List.flatMap_cons]
 simp
structure AtOk (l : List At) : Prop where
 nm : ∀ a ∈ l, nmX a.1 = true
 vl : ∀ a ∈ l, vld a.2 = true
 nd : (l.map Prod.fst).Nodup
 few : l.length ≤ 16
end
end Go.Mo
end

section
/-
  Plain facts: the text of nodes.
-/
set_option linter.all false
namespace Go.Mo
open Go Go.W Go.Lib
set_option maxRecDepth 100000
noncomputable section
def clT (name : Ls) : Ls := 60 :: 47 :: (name ++ [62])
def cls (st : List Ls) : Ls := st.reverse.flatMap clT
def kid (n : Nd) : List Nd → Bool
 | [] => false
 | m :: _ => decide (dep n < dep m)
def prT : List Ls → List Nd → Ls
 | st, [] => cls st
 | st, n :: r => cls (st.drop (dep n).toNat) ++ (if n.1 = [] then esc n.2.1 ++ prT (st.take (dep n).toNat) r
   else 60 :: (n.1 ++ (atT n.2.2.1 ++ (if kid n r = true then 62 :: prT (st.take (dep n).toNat ++ [n.1]) r else 47 :: 62 :: prT (st.take (dep n).toNat) r))))
def printP (l : List Nd) : Ls × Int := if chkE l ≠ 0 then ([], chkE l) else if 262144 < (prT [] l).length then ([], 9) else (prT [] l, 0)
theorem cls_app (a b : List Ls) : cls (a ++ b) = cls b ++ cls a := by unfold cls; rw [List.reverse_append, List.flatMap_append]
theorem cls_one (n : Ls) : cls [n] = clT n := by unfold cls; simp
theorem cls_nil : cls [] = [] := rfl
theorem cls_split (st : List Ls) (d : Nat) : cls st = cls (st.drop d) ++ cls (st.take d) := by
 rw [← cls_app, List.take_append_drop]
theorem atT_len (l : List At) : (atT l).length ≤ 6 * bkL wtA l := by
 induction l with
 | nil => simp [atT]
 | cons a l ih =>
  have h := atT_cons a l []
  rw [List.append_nil, List.append_nil] at h
  have he := esc_len a.2
  have hb : bkL wtA (a :: l) = a.1.length + 1 + (a.2.length + 1) + bkL wtA l := rfl
  rw [h, hb]
  simp only [List.length_cons, List.length_append]
  omega
theorem prT_len : ∀ (l : List Nd) (st : List Ls), (prT st l).length ≤ (cls st).length + 7 * bkL wtN l
 | [], st => by unfold prT; omega
 | n :: r, st => by
  have hc := congrArg List.length (cls_split st (dep n).toNat)
  rw [List.length_append] at hc
  have i1 := prT_len r (st.take (dep n).toNat)
  have i2 := prT_len r (st.take (dep n).toNat ++ [n.1])
  have h2 : (cls (st.take (dep n).toNat ++ [n.1])).length = n.1.length + 3 + (cls (st.take (dep n).toNat)).length := by
   rw [cls_app, cls_one, List.length_append]
   unfold clT
   simp
  have he := esc_len n.2.1
  have ha := atT_len n.2.2.1
  have hb : bkL wtN (n :: r) = n.1.length + 1 + (n.2.1.length + 1 + (bkL wtA n.2.2.1 + 1 + 1)) + bkL wtN r := rfl
  unfold prT
  rw [hb]
  split
  ·rw [List.length_append, List.length_append]
   omega
  ·rw [List.length_append, List.length_cons, List.length_append, List.length_append]
   split
   ·rw [List.length_cons]
    omega
   ·rw [List.length_cons, List.length_cons]
    omega
theorem pop_take {st : List Ls} (h : st ≠ []) : cutl st 0 (toN ((st.length - 1 : Nat) : Int)) = st.dropLast := by
 simp only [cutl, toN, Int.toNat_natCast, List.drop_zero]
 rw [List.dropLast_eq_take]
theorem pop_loop {R : Type} {d : Int} (hd : 0 ≤ d) (K : List Ls × Unit × Ls → Option R) : ∀ (fuel : Nat) (st : List Ls) (a : Ls), st.length < fuel → st.length ≤ 300000 → a.length + (cls (st.drop d.toNat)).length ≤ 100000000 →
  fixN (fun v27 (v28 : (List (List UInt8)) × Unit × List UInt8) =>
     cnd (ilt d (len v28.1))
      (grd (inb (w64 (isub (len v28.1) (1 : Int))) (len v28.1))
       (grd (catOk (iadd (len ([60, 47] : List UInt8)) (len (lget v28.1 (toN (w64 (isub (len v28.1) (1 : Int)))) []))))
        (grd (catOk (iadd (len (lapp ([60, 47] : List UInt8) (lget v28.1 (toN (w64 (isub (len v28.1) (1 : Int)))) []))) (len ([62] : List UInt8))))
         (bnd (q31 fuelH (((), v28.2.2), lapp (lapp ([60, 47] : List UInt8) (lget v28.1 (toN (w64 (isub (len v28.1) (1 : Int)))) [])) ([62] : List UInt8))) fun v29 =>
         grd (in2 (w64 (isub (len v28.1) (1 : Int))) (ofN (nlen v28.1))) <|
         v27 (cutl v28.1 0 (toN (w64 (isub (len v28.1) (1 : Int)))), (), v29.2.2.2)))))
      (K v28)) fuel (st, (), a) = K (st.take d.toNat, (), a ++ cls (st.drop d.toNat))
 | 0, _, _, h, _, _ => by omega
 | fuel + 1, st, a, h, hl, hb => by
  rw [fixN_s]
  dsimp only
  by_cases e : d.toNat < st.length
  ·have hne : st ≠ [] := fun k => by rw [k] at e; simp at e
   obtain ⟨n, q1, q2, q3, q4⟩ := last_of hne
   have hp : 0 < st.length := List.length_pos_iff.2 hne
   have hw : w64 (isub (len st) 1) = ((st.length - 1 : Nat) : Int) := w64_pred hp (by omega)
   have hg : lget st (toN ((st.length - 1 : Nat) : Int)) [] = n := by rw [lget_i q3, q4]
   have hdl : st.dropLast.length = st.length - 1 := List.length_dropLast
   have hc : cls (st.drop d.toNat) = clT n ++ cls (st.dropLast.drop d.toNat) := by
    conv => lhs; rw [q2]
    rw [List.drop_append_of_le_length (by omega), cls_app, cls_one]
   have hcl := congrArg List.length hc
   rw [List.length_append] at hcl
   have hT : lapp (lapp ([60, 47] : List UInt8) n) ([62] : List UInt8) = clT n := by unfold clT; simp [lapp]
   have hTl : (clT n).length = n.length + 3 := by unfold clT; simp
   rw [cnd_t (ilt_t (by simp only [len]; omega)), hw, hg, grd_t (inb_t (by simp only [len]; omega)), grd_t (catOk_t (by simp only [len, iadd, List.length_cons, List.length_nil]; omega)), grd_t (catOk_t (by simp only [len, iadd, lapp, List.length_append, List.length_cons, List.length_nil]; omega)), hT, wstr_eq _ _ (by show a.length + _ ≤ _; omega), bnd_some', grd_t (in2_t (by simp only [ofN, nlen]; omega)), pop_take hne]
   refine Eq.trans (pop_loop hd K fuel st.dropLast (a ++ clT n) (by omega) (by omega) (by rw [List.length_append]; omega)) ?_
   have ht : st.dropLast.take d.toNat = st.take d.toNat := by
    conv => rhs; rw [q2]
    rw [List.take_append_of_le_length (by omega)]
   rw [ht, hc, List.append_assoc]
  ·rw [cnd_f (ilt_f (by simp only [len]; omega)), List.take_of_length_le (by omega), List.drop_of_length_le (by omega), cls_nil, List.append_nil]
theorem end_loop {R : Type} {st : List Ls} (hl : st.length ≤ 300000) (K : Int × Unit × Ls → Option R) : ∀ (fuel k : Nat) (a : Ls), k < fuel → k ≤ st.length → a.length + (cls (st.take k)).length ≤ 100000000 →
  fixN (fun v5 (v6 : Int × Unit × List UInt8) =>
    cnd (ile (0 : Int) v6.1)
     (grd (inb v6.1 (len st))
      (grd (catOk (iadd (len ([60, 47] : List UInt8)) (len (lget st (toN v6.1) []))))
       (grd (catOk (iadd (len (lapp ([60, 47] : List UInt8) (lget st (toN v6.1) []))) (len ([62] : List UInt8))))
        (bnd (q31 fuelH (((), v6.2.2), lapp (lapp ([60, 47] : List UInt8) (lget st (toN v6.1) [])) ([62] : List UInt8))) fun v7 =>
        v5 (w64 (isub v6.1 (1 : Int)), (), v7.2.2.2)))))
     (K v6)) fuel ((k : Int) - 1, (), a) = K (-1, (), a ++ cls (st.take k))
 | 0, _, _, h, _, _ => by omega
 | fuel + 1, k, a, h, hk, hb => by
  rw [fixN_s]
  dsimp only
  cases k with
  | zero =>
   rw [cnd_f (ile_f (by omega)), List.take_zero, cls_nil, List.append_nil]
   rfl
  | succ k =>
   have hkl : k < st.length := by omega
   have e0 : ((k + 1 : Nat) : Int) - 1 = (k : Int) := by omega
   have e1 : w64 (isub (k : Int) 1) = (k : Int) - 1 := by
    simp only [isub]
    rw [w64_id (by omega)]
   have hc : cls (st.take (k + 1)) = clT st[k] ++ cls (st.take k) := by rw [List.take_succ_eq_append_getElem hkl, cls_app, cls_one]
   have hcl := congrArg List.length hc
   rw [List.length_append] at hcl
   have hT : lapp (lapp ([60, 47] : List UInt8) st[k]) ([62] : List UInt8) = clT st[k] := by unfold clT; simp [lapp]
   have hTl : (clT st[k]).length = st[k].length + 3 := by unfold clT; simp
   rw [e0, cnd_t (ile_t (by omega)), grd_t (inb_t (by simp only [len]; omega)), lget_i hkl, grd_t (catOk_t (by simp only [len, iadd, List.length_cons, List.length_nil]; omega)), grd_t (catOk_t (by simp only [len, iadd, lapp, List.length_append, List.length_cons, List.length_nil]; omega)), hT, wstr_eq _ _ (by show a.length + _ ≤ _; omega), bnd_some', e1]
   refine Eq.trans (end_loop hl K fuel k (a ++ clT st[k]) (by omega) (by omega) (by rw [List.length_append]; omega)) ?_
   rw [hc, List.append_assoc]
theorem attrs_loop {R : Type} {l : List At} (hl : l.length ≤ 1100000) (hv : ∀ a ∈ l, a.1.length ≤ 1090000 ∧ a.2.length ≤ 1090000) (K : Int × Unit × Ls → Option R) (a0 : Ls) (hb : a0.length + (atT l).length ≤ 100000000) :
  fixN (fun v22 (v23 : Int × Unit × List UInt8) =>
        cnd (ilt v23.1 (len l))
         (grd (inb v23.1 (len l))
          (grd (catOk (iadd (len ([32] : List UInt8)) (len (lget l (toN v23.1) ([], [])).1)))
           (grd (catOk (iadd (len (lapp ([32] : List UInt8) (lget l (toN v23.1) ([], [])).1)) (len ([61, 34] : List UInt8))))
            (bnd (q63 fuelH (lget l (toN v23.1) ([], [])).2) fun v24 =>
            grd (catOk (iadd (len (lapp (lapp ([32] : List UInt8) (lget l (toN v23.1) ([], [])).1) ([61, 34] : List UInt8))) (len v24))) <|
            grd (catOk (iadd (len (lapp (lapp (lapp ([32] : List UInt8) (lget l (toN v23.1) ([], [])).1) ([61, 34] : List UInt8)) v24)) (len ([34] : List UInt8)))) <|
            bnd (q31 fuelH (((), v23.2.2), lapp (lapp (lapp (lapp ([32] : List UInt8) (lget l (toN v23.1) ([], [])).1) ([61, 34] : List UInt8)) v24) ([34] : List UInt8))) fun v25 =>
            v22 (w64 (iadd v23.1 (1 : Int)), (), v25.2.2.2)))))
         (K v23)) fuelH ((0 : Int), (), a0) = K ((l.length : Int), (), a0 ++ atT l) := by
 refine drop_loop (s := l) (fun (a : Ls) (j : Nat) => ((j : Int), ((), a))) (fun a r => K ((l.length : Int), ((), a ++ atT r))) (fun j a => a.length + (atT (l.drop j)).length ≤ 100000000) ?_ fuelH 0 a0 (fuelH_len (by omega) _) (Nat.zero_le _) hb
 intro self a j hj hI hself
 dsimp only
 by_cases hjl : j < l.length
 ·have hw : w64 (iadd (j : Int) 1) = ((j + 1 : Nat) : Int) := w64_succ hjl (by omega)
  have hva := hv _ (List.getElem_mem hjl)
  have hel := esc_len (l[j]).2
  have hT : lapp (lapp (lapp (lapp ([32] : List UInt8) (l[j]).1) ([61, 34] : List UInt8)) (esc (l[j]).2)) ([34] : List UInt8) = 32 :: ((l[j]).1 ++ (61 :: 34 :: (esc (l[j]).2 ++ [34]))) := by simp [lapp]
  have hc : atT (l.drop j) = (32 :: ((l[j]).1 ++ (61 :: 34 :: (esc (l[j]).2 ++ [34])))) ++ atT (l.drop (j + 1)) := by
   rw [List.drop_eq_getElem_cons hjl]
   unfold atT
   rw [List.flatMap_cons]
  have hcl := congrArg List.length hc
  rw [List.length_append] at hcl
  rw [cnd_t (ilt_t (by simp only [len]; omega)), grd_t (inb_t (by simp only [len]; omega)), lget_i hjl, grd_t (catOk_t (by simp only [len, iadd, List.length_cons, List.length_nil]; omega)), grd_t (catOk_t (by simp only [len, iadd, lapp, List.length_append, List.length_cons, List.length_nil]; omega)), esc_eq (by omega), bnd_some', grd_t (catOk_t (by simp only [len, iadd, lapp, List.length_append, List.length_cons, List.length_nil]; omega)), grd_t (catOk_t (by simp only [len, iadd, lapp, List.length_append, List.length_cons, List.length_nil]; omega)), hT, wstr_eq _ _ (by show a.length + _ ≤ _; omega), bnd_some', hw]
  refine Eq.trans (hself (a ++ (32 :: ((l[j]).1 ++ (61 :: 34 :: (esc (l[j]).2 ++ [34]))))) (j + 1) (by omega) (by omega) (by rw [List.length_append]; omega)) ?_
  rw [hc, List.append_assoc]
 ·obtain rfl : j = l.length := by omega
  rw [cnd_f (ilt_f (by simp only [len]; omega)), List.drop_length]
  have : a ++ atT [] = a := by simp [atT]
  rw [this]
def finP (s : Ls) : Option (Ls × Int) := some (if 262144 < s.length then ([], 9) else (s, 0))
theorem print_eq {l : List Nd} (hsm : ∀ n ∈ l, smN n) (hs : bkL wtN l ≤ 3000000) : q65 fuelH l = some (printP l) := by
 have hll : l.length ≤ 3000000 := Nat.le_trans (bk_len (f := wtN) (fun n => by unfold wtN; omega) l) hs
 unfold q65 printP
 rw [check_eq (by omega) hsm, bnd_some']
 by_cases hc : chkE l = 0
 ·obtain ⟨h0, h8, hat⟩ := chk_at hc
  have hd := deep_of hat
  have htot := prT_len l []
  have hc0 : (cls []).length = 0 := rfl
  rw [cnd_f (ine_f hc), if_neg (fun k => k hc), jn_e]
  have hfin : ∀ s : Ls, finP s = some (if 262144 < s.length then ([], 9) else (s, 0)) := fun _ => rfl
  have hgoal : (some (if 262144 < (prT [] l).length then (([] : Ls), (9 : Int)) else (prT [] l, 0))) = finP ([] ++ prT [] l) := rfl
  rw [hgoal]
  refine drop_loop (s := l) (fun (p : List Ls × Ls) (i : Nat) => (p.1, ((i : Int), ((), p.2)))) (fun p r => finP (p.2 ++ prT p.1 r)) (fun i p => p.1.length ≤ i ∧ p.2.length + (prT p.1 (l.drop i)).length ≤ 100000000) ?_ fuelH 0 ([], []) (fuelH_len (by omega) _) (Nat.zero_le _) ⟨Nat.zero_le _, by rw [List.drop_zero]; simp; omega⟩
  intro self p i hi hI hself
  obtain ⟨st, a⟩ := p
  dsimp only at hI ⊢
  by_cases hil : i < l.length
  ·have hw : w64 (iadd (i : Int) 1) = ((i + 1 : Nat) : Int) := w64_succ hil (by omega)
   have hin : inb (i : Int) (len l) = true := inb_t (by simp only [len]; omega)
   have hn := hsm _ (List.getElem_mem hil)
   have hdi : 0 ≤ (l[i]).2.2.2 ∧ (l[i]).2.2.2 ≤ 15 := hd.high i hil
   have hb := hI.2
   rw [List.drop_eq_getElem_cons hil] at hb ⊢
   have hpr : prT st (l[i] :: l.drop (i + 1)) = cls (st.drop (dep l[i]).toNat) ++ (if (l[i]).1 = [] then esc (l[i]).2.1 ++ prT (st.take (dep l[i]).toNat) (l.drop (i + 1))
   else 60 :: ((l[i]).1 ++ (atT (l[i]).2.2.1 ++ (if kid l[i] (l.drop (i + 1)) = true then 62 :: prT (st.take (dep l[i]).toNat ++ [(l[i]).1]) (l.drop (i + 1)) else 47 :: 62 :: prT (st.take (dep l[i]).toNat) (l.drop (i + 1)))))) := rfl
   have hbl := hb
   rw [hpr, List.length_append] at hbl
   rw [cnd_t (ilt_t (by simp only [len]; omega)), jn_e, grd_t hin, jn_e]
   simp only [lgetn hil]
   refine Eq.trans (pop_loop hdi.1 _ fuelH st a (by have := fuelH_eq; have := hI.1; omega) (by have := hI.1; omega) (by have : dep l[i] = (l[i]).2.2.2 := rfl; rw [this] at hbl; omega)) ?_
   dsimp only
   have hdd : (l[i]).2.2.2 = dep l[i] := rfl
   rw [hdd, hpr]
   generalize hst : st.take (dep l[i]).toNat = s2 at *
   have hs2 : s2.length ≤ i := by rw [← hst, List.length_take]; have := hI.1; omega
   generalize cls (st.drop (dep l[i]).toNat) = c at *
   by_cases he : (l[i]).1 = []
   ·rw [if_pos he] at hbl ⊢
    rw [List.length_append] at hbl
    rw [cnd_t (by rw [seq_t]; exact he), esc_eq (by have := hn.tx; omega), bnd_some', wstr_eq _ _ (by rw [List.length_append]; omega), bnd_some']
    dsimp only
    rw [hw]
    refine Eq.trans (hself (s2, a ++ c ++ esc (l[i]).2.1) (i + 1) (by omega) (by omega) ⟨by show s2.length ≤ _; omega, ?_⟩) ?_
    ·show (a ++ c ++ esc (l[i]).2.1).length + (prT s2 (l.drop (i + 1))).length ≤ 100000000
     rw [List.length_append, List.length_append]
     omega
    ·show finP (a ++ c ++ esc (l[i]).2.1 ++ prT s2 (l.drop (i + 1))) = _
     rw [List.append_assoc, List.append_assoc]
   ·rw [if_neg he] at hbl ⊢
    rw [List.length_cons, List.length_append, List.length_append] at hbl
    have hnm := hn.nm
    rw [cnd_f (by rw [seq_dec]; simpa using he), grd_t (catOk_t (by simp only [len, iadd, List.length_cons, List.length_nil]; omega))]
    have hl60 : lapp ([60] : List UInt8) (l[i]).1 = 60 :: (l[i]).1 := rfl
    rw [hl60, wstr_eq _ _ (by rw [List.length_append, List.length_cons]; omega), bnd_some', jn_e]
    refine Eq.trans (attrs_loop (by have := hn.asz; omega) hn.an _ _ (by rw [List.length_append, List.length_append, List.length_cons]; omega)) ?_
    dsimp only
    -- whether there are children
    have leaf : kid l[i] (l.drop (i + 1)) = false → (bnd (q31 fuelH (((), a ++ c ++ (60 :: (l[i]).1) ++ atT (l[i]).2.2.1), ([47, 62] : List UInt8))) fun v19 => self (s2, w64 (iadd (i : Int) 1), (), v19.2.2.2)) = finP (a ++ (c ++ (60 :: ((l[i]).1 ++ (atT (l[i]).2.2.1 ++ (if kid l[i] (l.drop (i + 1)) = true then 62 :: prT (s2 ++ [(l[i]).1]) (l.drop (i + 1)) else 47 :: 62 :: prT s2 (l.drop (i + 1)))))))) := fun hk => by
     rw [hk, if_neg (by decide)] at hbl ⊢
     rw [List.length_cons, List.length_cons] at hbl
     rw [wstr_eq _ _ (by rw [List.length_append, List.length_append, List.length_append, List.length_cons, List.length_cons, List.length_cons, List.length_nil]; omega), bnd_some', hw]
     dsimp only
     refine Eq.trans (hself (s2, a ++ c ++ (60 :: (l[i]).1) ++ atT (l[i]).2.2.1 ++ [47, 62]) (i + 1) (by omega) (by omega) ⟨by show s2.length ≤ _; omega, ?_⟩) ?_
     ·show (a ++ c ++ (60 :: (l[i]).1) ++ atT (l[i]).2.2.1 ++ [47, 62]).length + (prT s2 (l.drop (i + 1))).length ≤ 100000000
      rw [List.length_append, List.length_append, List.length_append, List.length_append, List.length_cons, List.length_cons, List.length_cons, List.length_nil]
      omega
     ·show finP (a ++ c ++ (60 :: (l[i]).1) ++ atT (l[i]).2.2.1 ++ [47, 62] ++ prT s2 (l.drop (i + 1))) = _
      congr 1
      simp
    by_cases h1 : i + 1 < l.length
    ·have hin1 : inb ((i + 1 : Nat) : Int) (len l) = true := inb_t (by simp only [len]; omega)
     have hkd : kid l[i] (l.drop (i + 1)) = decide (dep l[i] < dep l[i + 1]) := by
      rw [List.drop_eq_getElem_cons h1]
      rfl
     rw [hw, cnd_t (ilt_t (by simp only [len]; omega)), grd_t hin1, lgetn h1]
     by_cases h2 : dep l[i] < dep l[i + 1]
     ·have hk : kid l[i] (l.drop (i + 1)) = true := by rw [hkd]; exact decide_eq_true h2
      rw [hk, if_pos rfl] at hbl ⊢
      rw [List.length_cons] at hbl
      rw [cnd_t (ilt_t (show dep l[i] < (l[i + 1]).2.2.2 from h2)), wstr_eq _ _ (by rw [List.length_append, List.length_append, List.length_append, List.length_cons, List.length_cons, List.length_nil]; omega), bnd_some', grd_t (room_t (by simp only [len, iadd, List.length_cons, List.length_nil]; omega))]
      dsimp only
      refine Eq.trans (hself (s2 ++ [(l[i]).1], a ++ c ++ (60 :: (l[i]).1) ++ atT (l[i]).2.2.1 ++ [62]) (i + 1) (by omega) (by omega) ⟨by show (s2 ++ [(l[i]).1]).length ≤ _; rw [List.length_append, List.length_cons, List.length_nil]; omega, ?_⟩) ?_
      ·show (a ++ c ++ (60 :: (l[i]).1) ++ atT (l[i]).2.2.1 ++ [62]).length + (prT (s2 ++ [(l[i]).1]) (l.drop (i + 1))).length ≤ 100000000
       rw [List.length_append, List.length_append, List.length_append, List.length_append, List.length_cons, List.length_cons, List.length_nil]
       omega
      ·show finP (a ++ c ++ (60 :: (l[i]).1) ++ atT (l[i]).2.2.1 ++ [62] ++ prT (s2 ++ [(l[i]).1]) (l.drop (i + 1))) = _
       congr 1
       simp
     ·rw [cnd_f (ilt_f (show ¬ dep l[i] < (l[i + 1]).2.2.2 from h2)), ← hw]
      exact leaf (by rw [hkd]; exact decide_eq_false h2)
    ·have hkd : kid l[i] (l.drop (i + 1)) = false := by
      rw [List.drop_of_length_le (by omega)]
      rfl
     rw [cnd_f (ilt_f (by rw [hw]; simp only [len]; omega))]
     exact leaf hkd
  ·obtain rfl : i = l.length := by omega
   have hb := hI.2
   rw [List.drop_length] at hb ⊢
   have hpr : prT st [] = cls st := rfl
   rw [hpr] at hb ⊢
   have e1 : w64 (isub (len st) 1) = (st.length : Int) - 1 := by
    have := hI.1
    simp only [isub, len]
    rw [w64_id (by omega)]
   rw [cnd_f (ilt_f (by simp only [len]; omega)), jn_e, e1]
   refine Eq.trans (end_loop (by have := hI.1; omega) _ fuelH st.length a (by have := fuelH_eq; have := hI.1; omega) (Nat.le_refl _) (by rw [List.take_length]; omega)) ?_
   rw [List.take_length]
   have hlen : q64 fuelH ((), a ++ cls st) = some (len (a ++ cls st), (), a ++ cls st) := rfl
   dsimp only
   rw [hlen, bnd_some']
   unfold finP
   by_cases h9 : 262144 < (a ++ cls st).length
   ·rw [cnd_t (ilt_t (by simp only [len]; omega)), if_pos h9]
   ·rw [cnd_f (ilt_f (by simp only [len]; omega)), if_neg h9]
 ·rw [cnd_t (ine_t hc), if_pos hc]
end
end Go.Mo
end

section
/-
  Plain facts: the text of a tree is read as the tree.
-/
set_option linter.all false
namespace Go.Mo
open Go Go.W Go.Lib
set_option maxRecDepth 100000
noncomputable section
structure BK (p : Ps) (prev : Option Nd) (r : List Nd) : Prop where
 ck : ckE prev r = 0
 nm : ∀ x ∈ p.2.1, nmX x = true
 lo : ∀ m r', r = m :: r' → dep m ≤ (p.2.1.length : Int)
 jn : p.2.2 = true → ∃ q, prev = some q ∧ q.1 = [] ∧ dep q = (p.2.1.length : Int) ∧ 1 ≤ dep q
 no : prev = none → p.1 = [] ∧ p.2.1 = []
 ro : p.1.length + r.length ≤ 8192
end
end Go.Mo
end

section
/-
  Plain facts: the check and the text of nodes, the other side; XmlChecks returns true.
-/
set_option linter.all false
namespace Go.Mo
open Go Go.W Go.Lib
set_option maxRecDepth 100000
noncomputable section
theorem dup_loop2 {R : Type} {l : List At} (hl : l.length ≤ 400000) (name : Ls) (bad : Option R) (K : Option R) :
  fixN (fun v12 (v13 : Int) =>
       cnd (ilt v13 (len l))
        (grd (inb v13 (len l))
         (cnd (seq name (lget l (toN v13) ([], [])).1)
          bad
          (v12 (w64 (iadd v13 (1 : Int))))))
        K) fuelH (0 : Int) = if name ∈ l.map Prod.fst then bad else K := by
 have hs : ∀ a b : Ls, seq a b = seq b a := fun a b => by
  rw [seq_dec, seq_dec]
  exact decide_eq_decide.2 ⟨fun h => h.symm, fun h => h.symm⟩
 simp only [hs name]
 exact dup_loop hl name bad K
theorem relem_eq {n : Nd} (hs : smN n) : q98 fuelH n = some (elE n) := by
 unfold q98 elE
 rw [rname_eq (by have := hs.nm; omega), bnd_some']
 by_cases h1 : nmX n.1 = true
 ·rw [h1, cnd_f (by rfl), if_neg (by decide)]
  by_cases h2 : n.2.1 = []
  ·rw [cnd_f (by unfold sne; simpa using h2), if_neg (by simpa using h2)]
   by_cases h3 : 16 < n.2.2.1.length
   ·rw [cnd_t (ilt_t (by simp only [len]; omega)), if_pos h3]
   rw [cnd_f (ilt_f (by simp only [len]; omega)), if_neg h3, jn_e]
   have han := hs.an
   generalize n.2.2.1 = l at *
   have h := drop_loop (R := Int) (s := l) (fun (_ : Unit) (j : Nat) => (j : Int)) (fun _ r => some (atE ((l.take (l.length - r.length)).map Prod.fst) r)) (fun _ _ => True)
    (F := fun v3 (v4 : Int) =>
     cnd (ilt v4 (len l))
      (jn (fun (v5 : Unit) =>
       v3 (w64 (iadd v4 (1 : Int))))
      fun v6 =>
      grd (inb v4 (len l)) <|
      bnd (r20_Name fuelH (lget l (toN v4) ([], [])).1) fun v7 =>
      cnd (bnot v7)
       (some (5 : Int))
       (jn (fun (v8 : Unit) =>
        bnd (q69 fuelH (lget l (toN v4) ([], [])).2) fun v9 =>
        cnd (bnot v9)
         (some (10 : Int))
         (v6 ()))
       fun v10 =>
       grd (in2 v4 (len l)) <|
       fixN (fun v11 (v12 : Int) =>
        cnd (ilt v12 (len (ltake (toN v4) l)))
         (grd (inb v12 (len (ltake (toN v4) l)))
          (cnd (seq (lget l (toN v4) ([], [])).1 (lget (ltake (toN v4) l) (toN v12) ([], [])).1)
           (some (7 : Int))
           (v11 (w64 (iadd v12 (1 : Int))))))
         (v10 ())) fuelH (0 : Int)))
      (some (0 : Int))) ?_ fuelH 0 () (fuelH_len (by omega) _) (Nat.zero_le _) trivial
   ·refine Eq.trans h ?_
    rw [List.drop_zero, Nat.sub_self]
    rfl
   ·intro self a j hj _ hself
    by_cases hjl : j < l.length
    ·have hw : w64 (iadd (j : Int) 1) = ((j + 1 : Nat) : Int) := w64_succ hjl (by omega)
     have hsa := han l[j] (List.getElem_mem hjl)
     have htk : ltake (toN (j : Int)) l = l.take j := by simp [ltake, toN]
     have hrl : l.length - (l.drop j).length = j := by rw [List.length_drop]; omega
     have hrl2 : l.length - (l.drop (j + 1)).length = j + 1 := by rw [List.length_drop]; omega
     have hat : atE ((l.take j).map Prod.fst) (l[j] :: l.drop (j + 1)) = if nmX (l[j]).1 = false then 5 else if (l[j]).1 ∈ (l.take j).map Prod.fst then 7 else if vld (l[j]).2 = false then 10 else atE ((l.take j).map Prod.fst ++ [(l[j]).1]) (l.drop (j + 1)) := rfl
     rw [cnd_t (ilt_t (by simp only [len]; omega)), jn_e, grd_t (inb_t (by simp only [len]; omega)), lget_i hjl, rname_eq (by omega), bnd_some', htk, hrl, List.drop_eq_getElem_cons hjl, hat]
     by_cases e1 : nmX (l[j]).1 = true
     ·rw [e1, cnd_f (by rfl), jn_e, grd_t (in2_t (by simp only [len]; omega)), if_neg (by decide)]
      refine Eq.trans (dup_loop2 (by rw [List.length_take]; omega) _ _ _) ?_
      by_cases e2 : (l[j]).1 ∈ (l.take j).map Prod.fst
      ·rw [if_pos e2, if_pos e2]
      ·rw [if_neg e2, if_neg e2, r08_valid _ (by omega), bnd_some']
       by_cases e3 : vld (l[j]).2 = true
       ·rw [e3, cnd_f (by rfl), if_neg (by decide), hw]
        refine Eq.trans (hself () (j + 1) (by omega) (by omega) trivial) ?_
        rw [hrl2, List.take_succ_eq_append_getElem hjl, List.map_append]
        rfl
       ·have e3 : vld (l[j]).2 = false := by simpa using e3
        rw [e3, cnd_t (by rfl), if_pos rfl]
     ·have e1 : nmX (l[j]).1 = false := by simpa using e1
      rw [e1, cnd_t (by rfl), if_pos rfl]
    ·obtain rfl : j = l.length := by omega
     rw [cnd_f (ilt_f (by simp only [len]; omega)), List.drop_length]
     rfl
  ·rw [cnd_t (by unfold sne; simpa using h2), if_pos h2]
 ·have h1 : nmX n.1 = false := by simpa using h1
  rw [h1, cnd_t (by rfl), if_pos rfl]
theorem rcheck_eq {l : List Nd} (hl : l.length ≤ 4000000) (hs : ∀ n ∈ l, smN n) : q99 fuelH l = some (chkE l) := by
 unfold q99 chkE
 by_cases h0 : l.length = 0
 ·rw [cnd_t (ieq_t (by simp only [len]; omega)), if_pos h0]
 rw [cnd_f (ieq_f (by simp only [len]; omega)), if_neg h0]
 by_cases h1 : 8192 < l.length
 ·rw [cnd_t (ilt_t (by simp only [len]; omega)), if_pos h1]
 rw [cnd_f (ilt_f (by simp only [len]; omega)), if_neg h1, jn_e]
 have hgoal : some (ckE none l) = some (ckE (prv l (l.length - l.length)) l) := by rw [Nat.sub_self]; rfl
 rw [hgoal]
 refine drop_loop (R := Int) (s := l) (fun (_ : Unit) (j : Nat) => (j : Int)) (fun _ r => some (ckE (prv l (l.length - r.length)) r)) (fun j _ => ∀ q, prv l j = some q → 0 ≤ dep q ∧ dep q ≤ 15) ?_ fuelH 0 () (fuelH_len hl _) (Nat.zero_le _) (fun q hq => by simp [prv] at hq)
 intro self a j hj hI hself
 by_cases hjl : j < l.length
 ·have hw : w64 (iadd (j : Int) 1) = ((j + 1 : Nat) : Int) := w64_succ hjl (by omega)
  have hrl : l.length - (l.drop j).length = j := by rw [List.length_drop]; omega
  have hrl2 : l.length - (l.drop (j + 1)).length = j + 1 := by rw [List.length_drop]; omega
  have hsm := hs _ (List.getElem_mem hjl)
  have hgo : depE (prv l j) l[j] = 0 → self ((j + 1 : Nat) : Int) = some (ckE (some l[j]) (l.drop (j + 1))) := fun hd => by
   refine Eq.trans (hself () (j + 1) (by omega) (by omega) (fun q hq => ?_)) ?_
   ·rw [prv_succ hjl] at hq
    injection hq with hq
    rw [← hq]
    exact depE_ok hd
   ·rw [hrl2, prv_succ hjl]
  dsimp only
  rw [hrl, List.drop_eq_getElem_cons hjl, cnd_t (ilt_t (by simp only [len]; omega)), grd_t (inb_t (by simp only [len]; omega)), jn_e]
  simp only [lgetn hjl]
  have hck : ckE (prv l j) (l[j] :: l.drop (j + 1)) = if ndE (prv l j) l[j] ≠ 0 then ndE (prv l j) l[j] else ckE (some l[j]) (l.drop (j + 1)) := rfl
  rw [hck, jn_e, hw]
  -- what stands behind the depth
  have hX : depE (prv l j) l[j] = 0 →
    (cnd (ilt (15 : Int) (l[j]).2.2.2) (some (9 : Int)) (cnd (sne (l[j]).1 ([] : List UInt8)) (bnd (q98 fuelH l[j]) fun v6 => cnd (ine v6 (0 : Int)) (some v6) (self ((j + 1 : Nat) : Int)))
          (jn (fun (v7 : Bool) =>
           cnd v7
            (some (8 : Int))
            (cnd (seq (l[j]).2.1 ([] : List UInt8))
             (some (4 : Int))
             (cnd (ilt (0 : Int) (len (l[j]).2.2.1))
              (some (4 : Int))
              (bnd (q69 fuelH (l[j]).2.1) fun v8 =>
              cnd (bnot v8)
               (some (10 : Int))
               (self ((j + 1 : Nat) : Int))))))
          fun v9 =>
          cnd (ieq (j : Int) (0 : Int))
           (v9 true)
           (grd (inb (w64 (isub (j : Int) (1 : Int))) (len l))
            (cnd (seq (lget l (toN (w64 (isub (j : Int) (1 : Int)))) ([], ([], ([], (0 : Int))))).1 ([] : List UInt8))
             (grd (inb (w64 (isub (j : Int) (1 : Int))) (len l))
              (v9 (ieq (lget l (toN (w64 (isub (j : Int) (1 : Int)))) ([], ([], ([], (0 : Int))))).2.2.2 (l[j]).2.2.2)))
             (v9 false)))))) =
    some (if ndE (prv l j) l[j] ≠ 0 then ndE (prv l j) l[j] else ckE (some l[j]) (l.drop (j + 1))) := fun hd => by
   have h15 : ¬ 15 < (l[j]).2.2.2 := by have : 0 ≤ (l[j]).2.2.2 ∧ (l[j]).2.2.2 ≤ 15 := depE_ok hd; omega
   rw [cnd_f (ilt_f h15)]
   unfold ndE
   rw [if_neg (show ¬ depE (prv l j) l[j] ≠ 0 from fun k => k hd)]
   by_cases e2 : (l[j]).1 = []
   ·rw [cnd_f (by unfold sne; simpa using e2), if_neg (show ¬ (l[j]).1 ≠ [] from fun k => k e2), jn_e]
    have fin : ∀ b : Bool, b = txP (prv l j) l[j] → (cnd b
            (some (8 : Int))
            (cnd (seq (l[j]).2.1 ([] : List UInt8))
             (some (4 : Int))
             (cnd (ilt (0 : Int) (len (l[j]).2.2.1))
              (some (4 : Int))
              (bnd (q69 fuelH (l[j]).2.1) fun v8 =>
              cnd (bnot v8)
               (some (10 : Int))
               (self ((j + 1 : Nat) : Int)))))) = some (if txE (prv l j) l[j] ≠ 0 then txE (prv l j) l[j] else ckE (some l[j]) (l.drop (j + 1))) := fun b hb => by
     unfold txE
     rw [← hb]
     cases b with
     | true => rfl
     | false =>
      rw [cnd_f (by rfl), if_neg (show ¬ (false = true) by decide)]
      by_cases e3 : (l[j]).2.1 = []
      ·rw [cnd_t (by rw [seq_t]; exact e3), if_pos e3]
       rfl
      rw [cnd_f (by rw [seq_dec]; simpa using e3), if_neg e3]
      by_cases e4 : 0 < (l[j]).2.2.1.length
      ·rw [cnd_t (ilt_t (by simp only [len]; omega)), if_pos e4]
       rfl
      rw [cnd_f (ilt_f (by simp only [len]; omega)), if_neg e4, r08_valid _ (by have := hsm.tx; omega), bnd_some']
      cases hv : vld (l[j]).2.1 with
      | true =>
       rw [cnd_f (by rfl), if_neg (show ¬ (true = false) by decide), if_neg (by simp)]
       exact hgo hd
      | false => rfl
    by_cases h00 : j = 0
    ·subst h00
     rw [cnd_t (by rfl)]
     exact fin true rfl
    ·obtain ⟨k, rfl⟩ : ∃ k, j = k + 1 := ⟨j - 1, by omega⟩
     have hb : w64 (isub ((k + 1 : Nat) : Int) 1) = (k : Int) := w64_back (by omega)
     have hg : inb (k : Int) (len l) = true := inb_t (by simp only [len]; omega)
     rw [cnd_f (ieq_f (by omega)), hb, grd_t hg, grd_t hg, lgetn (show k < l.length by omega)]
     have hpv := prv_succ (l := l) (i := k) (by omega)
     by_cases e : l[k].1 = []
     ·rw [cnd_t (by rw [seq_t]; exact e)]
      refine fin _ ?_
      rw [hpv]
      unfold txP
      rw [Bool.eq_iff_iff, ieq_tt, decide_eq_true_eq]
      exact ⟨fun h => ⟨e, h⟩, fun h => h.2⟩
     ·rw [cnd_f (by rw [seq_dec]; simpa using e)]
      refine fin false ?_
      rw [hpv]
      exact (decide_eq_false fun h => e h.1).symm
   ·rw [cnd_t (by unfold sne; simpa using e2), if_pos e2, relem_eq hsm, bnd_some']
    by_cases e3 : elE l[j] = 0
    ·rw [cnd_f (ine_f e3), if_neg (fun k => k e3)]
     exact hgo hd
    ·rw [cnd_t (ine_t e3), if_pos e3]
  have bad : ∀ e : Int, depE (prv l j) l[j] = e → e ≠ 0 → some e = some (if ndE (prv l j) l[j] ≠ 0 then ndE (prv l j) l[j] else ckE (some l[j]) (l.drop (j + 1))) := fun e he h0 => by
   have : ndE (prv l j) l[j] = e := by
    unfold ndE
    rw [if_pos (by rw [he]; exact h0), he]
   rw [this, if_pos h0]
  by_cases h00 : j = 0
  ·subst h00
   have hdE : depE (prv l 0) l[0] = if dep l[0] ≠ 0 then 8 else 0 := rfl
   rw [cnd_t (by rfl)]
   by_cases e : (l[0]).2.2.2 = 0
   ·rw [cnd_f (ine_f e), cnd_f (by rfl), cnd_f (by rfl)]
    exact hX (by rw [hdE]; exact if_neg (fun k => k e))
   ·rw [cnd_t (ine_t e)]
    exact bad 8 (by rw [hdE]; exact if_pos e) (by decide)
  ·obtain ⟨k, rfl⟩ : ∃ k, j = k + 1 := ⟨j - 1, by omega⟩
   have hb : w64 (isub ((k + 1 : Nat) : Int) 1) = (k : Int) := w64_back (by omega)
   have hg : inb (k : Int) (len l) = true := inb_t (by simp only [len]; omega)
   have hpv := prv_succ (l := l) (i := k) (by omega)
   have hq := hI _ hpv
   have hdE : depE (prv l (k + 1)) l[k + 1] = if dep l[k + 1] < 1 then 8 else if (if l[k].1 ≠ [] then dep l[k] + 1 else dep l[k]) < dep l[k + 1] then 8 else if 15 < dep l[k + 1] then 9 else 0 := by rw [hpv]; rfl
   have hw2 : w64 (iadd (l[k]).2.2.2 1) = (l[k]).2.2.2 + 1 := by
    have : 0 ≤ (l[k]).2.2.2 ∧ (l[k]).2.2.2 ≤ 15 := hq
    simp only [iadd]
    rw [w64_id (by omega)]
   rw [cnd_f (ieq_f (by omega)), cnd_t (ilt_t (by omega))]
   by_cases e1 : (l[k + 1]).2.2.2 < 1
   ·rw [cnd_t (ilt_t e1)]
    exact bad 8 (by rw [hdE]; exact if_pos e1) (by decide)
   have e1' : ¬ dep l[k + 1] < 1 := e1
   rw [if_neg e1'] at hdE
   rw [cnd_f (ilt_f e1), cnd_t (ilt_t (by omega)), hb, grd_t hg, grd_t hg, lgetn (show k < l.length by omega), hw2]
   -- behind 'most'
   rw [hb, lgetn (show k < l.length by omega)] at hX
   by_cases e3 : l[k].1 = []
   ·rw [cnd_f (by unfold sne; simpa using e3)]
    rw [if_neg (show ¬ l[k].1 ≠ [] from fun z => z e3)] at hdE
    by_cases e2 : (l[k]).2.2.2 < (l[k + 1]).2.2.2
    ·rw [cnd_t (ilt_t e2)]
     exact bad 8 (by rw [hdE]; exact if_pos e2) (by decide)
    ·rw [cnd_f (ilt_f e2)]
     rw [if_neg (show ¬ dep l[k] < dep l[k + 1] from e2)] at hdE
     by_cases e15 : 15 < (l[k + 1]).2.2.2
     ·exact Eq.trans (cnd_t (ilt_t e15)) (bad 9 (by rw [hdE]; exact if_pos e15) (by decide))
     ·exact hX (by rw [hdE]; exact if_neg e15)
   ·rw [cnd_t (by unfold sne; simpa using e3)]
    rw [if_pos (show l[k].1 ≠ [] from e3)] at hdE
    by_cases e2 : (l[k]).2.2.2 + 1 < (l[k + 1]).2.2.2
    ·rw [cnd_t (ilt_t e2)]
     exact bad 8 (by rw [hdE]; exact if_pos e2) (by decide)
    ·rw [cnd_f (ilt_f e2)]
     rw [if_neg (show ¬ dep l[k] + 1 < dep l[k + 1] from e2)] at hdE
     by_cases e15 : 15 < (l[k + 1]).2.2.2
     ·exact Eq.trans (cnd_t (ilt_t e15)) (bad 9 (by rw [hdE]; exact if_pos e15) (by decide))
     ·exact hX (by rw [hdE]; exact if_neg e15)
 ·obtain rfl : j = l.length := by omega
  rw [cnd_f (ilt_f (by simp only [len]; omega)), List.drop_length]
  rfl
end
end Go.Mo
end

section
/-
  Plain facts: the text of a node, the other side; XmlChecks returns true.
-/
set_option linter.all false
namespace Go.Mo
open Go Go.W Go.Lib
set_option maxRecDepth 100000
noncomputable section
def endI (d : Int) (k : Nat) (l : List Nd) : Nat := k + ((l.drop k).takeWhile (fun n => decide (d < dep n))).length
theorem endI_in {d : Int} {k : Nat} {l : List Nd} (hk : k < l.length) (h : d < dep l[k]) : endI d k l = endI d (k + 1) l := by
 unfold endI
 rw [List.drop_eq_getElem_cons hk, List.takeWhile_cons, if_pos (decide_eq_true h), List.length_cons]
 omega
theorem endI_out {d : Int} {k : Nat} {l : List Nd} (hk : k < l.length) (h : ¬ d < dep l[k]) : endI d k l = k := by
 unfold endI
 rw [List.drop_eq_getElem_cons hk, List.takeWhile_cons, if_neg (by simpa using h)]
 rfl
theorem endI_end {d : Int} {k : Nat} {l : List Nd} (hk : l.length ≤ k) : endI d k l = k := by
 unfold endI
 rw [List.drop_of_length_le hk]
 rfl
theorem skip_part {d : Int} {l : List Nd} : ∀ (m k : Nat), l.length - k ≤ m → k ≤ endI (d + 1) k l ∧ endI (d + 1) k l ≤ max k l.length ∧ endI d k l = endI d (endI (d + 1) k l) l ∧ chS d k (l.drop k) = chS d (endI (d + 1) k l) (l.drop (endI (d + 1) k l)) ∧ (∀ h : endI (d + 1) k l < l.length, dep (l[endI (d + 1) k l]'h) ≤ d + 1)
 | 0, k, h => by
  rw [endI_end (show l.length ≤ k by omega)]
  exact ⟨Nat.le_refl _, by omega, rfl, rfl, fun h => by omega⟩
 | m + 1, k, h => by
  by_cases hk : k < l.length
  ·by_cases e : d + 1 < dep l[k]
   ·obtain ⟨i1, i2, i3, i4, i5⟩ := skip_part (l := l) (d := d) m (k + 1) (by omega)
    have hc : chS d k (l.drop k) = chS d (k + 1) (l.drop (k + 1)) := by
     rw [List.drop_eq_getElem_cons hk]
     show (if d < dep l[k] then (if dep l[k] = d + 1 then _ else _) else _) = _
     rw [if_pos (by omega), if_neg (by omega)]
    rw [endI_in hk e]
    refine ⟨by omega, by omega, ?_, ?_, i5⟩
    ·rw [endI_in hk (show d < dep l[k] by omega), i3]
    ·rw [hc, i4]
   ·rw [endI_out hk e]
    exact ⟨Nat.le_refl _, by omega, rfl, rfl, fun h => by omega⟩
  ·rw [endI_end (show l.length ≤ k by omega)]
   exact ⟨Nat.le_refl _, by omega, rfl, rfl, fun h => by omega⟩
theorem pop1 {st : List Ls} {a : Ls} {r : List Nd} (h : ∀ n r', r = n :: r' → dep n ≤ (st.length : Int)) : prT (st ++ [a]) r = clT a ++ prT st r := by
 cases r with
 | nil => unfold prT; rw [cls_app, cls_one]
 | cons n r =>
  have hn := h n r rfl
  unfold prT
  rw [List.drop_append_of_le_length (by omega), List.take_append_of_le_length (by omega), cls_app, cls_one, List.append_assoc]
def isT (l : List Nd) (d i : Nat) (t : Ls) : Prop := ∀ st : List Ls, st.length = d → prT st (l.drop i) = t ++ prT st (l.drop (endI (d : Int) (i + 1) l))
theorem isT_len {l : List Nd} {d i : Nat} {t : Ls} (h : isT l d i t) (hd : d ≤ 16) : t.length ≤ 48 + 7 * bkL wtN (l.drop i) := by
 have h1 := h (List.replicate d []) (by simp)
 have h2 := prT_len (l.drop i) (List.replicate d [])
 have h3 : ∀ d : Nat, (cls (List.replicate d [])).length = 3 * d := fun d => by
  induction d with
  | zero => rfl
  | succ d ih => rw [List.replicate_succ', cls_app, cls_one, List.length_append, ih]; unfold clT; simp; omega
 have h4 := congrArg List.length h1
 rw [List.length_append] at h4
 have := h3 d
 omega
theorem kids_text {l : List Nd} {d : Nat} {Tx : Int → Ls} : ∀ (m k : Nat), l.length - k ≤ m → (∀ h : k < l.length, dep l[k] ≤ (d : Int) + 1) → (∀ (j : Nat) (h : j < l.length), k ≤ j → dep l[j] = (d : Int) + 1 → isT l (d + 1) j (Tx (j : Int))) →
  ∀ st : List Ls, st.length = d + 1 → prT st (l.drop k) = (chS (d : Int) k (l.drop k)).flatMap Tx ++ prT st (l.drop (endI (d : Int) k l))
 | 0, k, h, _, _, st, hst => by
  rw [endI_end (show l.length ≤ k by omega), List.drop_of_length_le (show l.length ≤ k by omega)]
  rfl
 | m + 1, k, h, hh, hT, st, hst => by
  by_cases hk : k < l.length
  ·by_cases e : (d : Int) < dep l[k]
   ·have e1 : dep l[k] = (d : Int) + 1 := by have := hh hk; omega
    have h1 := hT k hk (Nat.le_refl _) e1 st hst
    obtain ⟨i1, i2, i3, i4, i5⟩ := skip_part (d := (d : Int)) (l := l) (l.length - (k + 1)) (k + 1) (Nat.le_refl _)
    have hc : chS (d : Int) k (l.drop k) = (k : Int) :: chS (d : Int) (k + 1) (l.drop (k + 1)) := by
     rw [List.drop_eq_getElem_cons hk]
     show (if (d : Int) < dep l[k] then (if dep l[k] = (d : Int) + 1 then _ else _) else _) = _
     rw [if_pos e, if_pos e1]
    rw [h1, hc, i4, List.flatMap_cons, List.append_assoc, endI_in hk e, i3]
    congr 1
    have ec : (((d + 1 : Nat) : Int)) = (d : Int) + 1 := by omega
    rw [ec]
    exact kids_text m _ (by omega) i5 (fun j hj hkj => hT j hj (by omega)) st hst
   ·have hc : chS (d : Int) k (l.drop k) = [] := by
     rw [List.drop_eq_getElem_cons hk]
     show (if (d : Int) < dep l[k] then _ else _) = _
     rw [if_neg e]
    rw [endI_out hk e, hc]
    rfl
  ·rw [endI_end (show l.length ≤ k by omega), List.drop_of_length_le (show l.length ≤ k by omega)]
   rfl
theorem endI_head {l : List Nd} {d : Int} : ∀ (m k : Nat), l.length - k ≤ m → ∀ h : endI d k l < l.length, dep (l[endI d k l]'h) ≤ d
 | 0, k, h, h2 => by
  rw [endI_end (show l.length ≤ k by omega)] at h2
  omega
 | m + 1, k, h, h2 => by
  by_cases hk : k < l.length
  ·by_cases e : d < dep l[k]
   ·have h3 : endI d (k + 1) l < l.length := by rw [← endI_in hk e]; exact h2
    have := endI_head m (k + 1) (by omega) h3
    have he := endI_in hk e
    simp only [he]
    exact this
   ·have he := endI_out hk e
    simp only [he]
    omega
  ·rw [endI_end (show l.length ≤ k by omega)] at h2
   omega
theorem elem_isT {l : List Nd} {i d : Nat} (hi : i < l.length) (hd : dep l[i] = (d : Int)) (hn : l[i].1 ≠ []) (hstep : ∀ h : i + 1 < l.length, dep l[i + 1] ≤ (d : Int) + 1) {Tx : Int → Ls} (hT : ∀ (j : Nat) (h : j < l.length), i + 1 ≤ j → dep l[j] = (d : Int) + 1 → isT l (d + 1) j (Tx (j : Int))) :
  isT l d i (60 :: (l[i].1 ++ (atT l[i].2.2.1 ++ (if kids l (i : Int) = [] then [47, 62] else 62 :: ((kids l (i : Int)).flatMap Tx ++ clT l[i].1))))) := by
 intro st hst
 have hk : kids l (i : Int) = chS (d : Int) (i + 1) (l.drop (i + 1)) := by
  unfold kids
  rw [if_neg (by omega), Int.toNat_natCast, List.getD_eq_getElem?_getD, List.getElem?_eq_getElem hi, Option.getD_some, hd]
 have hkid : kid l[i] (l.drop (i + 1)) = true ↔ kids l (i : Int) ≠ [] := by
  rw [hk]
  by_cases h1 : i + 1 < l.length
  ·have hs := hstep h1
   rw [List.drop_eq_getElem_cons h1]
   show decide (dep l[i] < dep l[i + 1]) = true ↔ (if (d : Int) < dep l[i + 1] then (if dep l[i + 1] = (d : Int) + 1 then _ else _) else _) ≠ []
   rw [decide_eq_true_eq, hd]
   by_cases e : (d : Int) < dep l[i + 1]
   ·rw [if_pos e, if_pos (by omega)]
    exact ⟨fun _ => List.cons_ne_nil _ _, fun _ => e⟩
   ·rw [if_neg e]
    exact ⟨fun k => absurd k e, fun k => absurd rfl k⟩
  ·rw [List.drop_of_length_le (by omega)]
   exact ⟨fun k => (by cases k), fun k => absurd rfl k⟩
 have hpr : prT st (l.drop i) = 60 :: (l[i].1 ++ (atT l[i].2.2.1 ++ (if kid l[i] (l.drop (i + 1)) = true then 62 :: prT (st ++ [l[i].1]) (l.drop (i + 1)) else 47 :: 62 :: prT st (l.drop (i + 1))))) := by
  rw [List.drop_eq_getElem_cons hi]
  conv => lhs; unfold prT
  have ed : (dep l[i]).toNat = st.length := by rw [hd, hst]; omega
  rw [if_neg hn, ed, List.drop_length, List.take_length, cls_nil, List.nil_append]
 rw [hpr]
 by_cases hK : kids l (i : Int) = []
 ·have hf : ¬ kid l[i] (l.drop (i + 1)) = true := fun k => hkid.1 k hK
  rw [if_neg hf, if_pos hK]
  have he : endI (d : Int) (i + 1) l = i + 1 := by
   by_cases h1 : i + 1 < l.length
   ·refine endI_out h1 fun k => hf ?_
    rw [List.drop_eq_getElem_cons h1]
    exact decide_eq_true (by rw [hd]; exact k)
   ·exact endI_end (by omega)
  rw [he]
  simp
 ·have ht : kid l[i] (l.drop (i + 1)) = true := hkid.2 hK
  rw [if_pos ht, if_neg hK]
  have h2 := kids_text (l := l) (d := d) (Tx := Tx) (l.length - (i + 1)) (i + 1) (Nat.le_refl _) hstep hT (st ++ [l[i].1]) (by simp [hst])
  rw [h2, ← hk, pop1 ?_]
  ·simp
  ·intro n r' hr
   have hlt : endI (d : Int) (i + 1) l < l.length := by
    apply Classical.byContradiction
    intro k
    rw [List.drop_of_length_le (by omega)] at hr
    cases hr
   rw [List.drop_eq_getElem_cons hlt] at hr
   injection hr with hr _
   have := endI_head (l := l) (d := (d : Int)) _ (i + 1) (Nat.le_refl _) hlt
   rw [← hr, hst]
   exact this
theorem text_isT {l : List Nd} {i d : Nat} (hi : i < l.length) (hd : dep l[i] = (d : Int)) (hn : l[i].1 = []) (hstep : ∀ h : i + 1 < l.length, dep l[i + 1] ≤ (d : Int)) : isT l d i (esc l[i].2.1) := by
 intro st hst
 have he : endI (d : Int) (i + 1) l = i + 1 := by
  by_cases h1 : i + 1 < l.length
  ·exact endI_out h1 fun k => by have := hstep h1; omega
  ·exact endI_end (by omega)
 rw [he, List.drop_eq_getElem_cons hi]
 conv => lhs; unfold prT
 have ed : (dep l[i]).toNat = st.length := by rw [hd, hst]; omega
 rw [if_pos hn, ed, List.drop_length, List.take_length, cls_nil, List.nil_append]
end
end Go.Mo
end
