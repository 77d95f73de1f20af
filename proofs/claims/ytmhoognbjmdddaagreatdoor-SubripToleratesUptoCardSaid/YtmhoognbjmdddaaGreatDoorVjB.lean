/-
  Texts put together, in build order: UB UC UM UN UO UP US UV UX UY UZ U1 U2 U3 U4 U5 U6 U7.
-/
import Derived.Test.YtmhoognbjmdddaaGreatDoorVjA
import Derived.Test.YtmhoognbjmdddaaGreatDoorYC
import Derived.KernelRfl
import Derived.Lib.ValidLaws
import Derived.Lib.TrimUEq
import Derived.Lib.MapLaws
import Derived.Lib.IndexMore
set_option linter.all false

section
/-
  Plain facts of earlier chapters, put together by a program.
-/
set_option linter.all false
section
/-
 Plain facts on the words of models; what is made of bytes.
-/
namespace Go.Mo
open Go Go.W
theorem grd_t {α : Type} {b : Bool} {k : Option α} (h : b = true) : grd b k = k := by subst h; rfl
theorem cnd_t {α : Type} {b : Bool} {x y : Option α} (h : b = true) : cnd b x y = x := by subst h; rfl
theorem cnd_f {α : Type} {b : Bool} {x y : Option α} (h : b = false) : cnd b x y = y := by subst h; rfl
theorem bnd_s {α β : Type} {x : Option α} {a : α} {k : α → Option β} (h : x = some a) : bnd x k = k a := by subst h; rfl
theorem jn_e {F α : Type} {k : F} {t : F → Option α} : jn k t = t k := rfl
theorem fixN_s {V R : Type} {F : (V → Option R) → V → Option R} {n : Nat} {v : V} : fixN F (n + 1) v = F (fixN F n) v := rfl
theorem w64_id {x : Int} (h : -9223372036854775808 ≤ x ∧ x ≤ 9223372036854775807) : w64 x = x := by
 show IntKind.wrap .i64 x = x
 unfold IntKind.wrap
 simp only [IntKind.bits, IntKind.signed, Bool.true_and, decide_eq_true_eq, show (2 : Int) ^ 64 = 18446744073709551616 from rfl, show (2 : Int) ^ (64 - 1) = 9223372036854775808 from rfl]
 split <;> omega
theorem ilt_t {a b : Int} (h : a < b) : ilt a b = true := decide_eq_true h
theorem ilt_f {a b : Int} (h : ¬ a < b) : ilt a b = false := decide_eq_false h
theorem ile_t {a b : Int} (h : a ≤ b) : ile a b = true := decide_eq_true h
theorem ile_f {a b : Int} (h : ¬ a ≤ b) : ile a b = false := decide_eq_false h
theorem ieq_t {a b : Int} (h : a = b) : ieq a b = true := by subst h; simp [ieq]
theorem ieq_f {a b : Int} (h : a ≠ b) : ieq a b = false := by simp [ieq, h]
theorem ine_t {a b : Int} (h : a ≠ b) : ine a b = true := by simp [ine, h]
theorem ine_f {a b : Int} (h : a = b) : ine a b = false := by simp [ine, h]
theorem inb_t {i n : Int} (h : 0 ≤ i ∧ i < n) : inb i n = true := decide_eq_true h
theorem in2_t {i n : Int} (h : 0 ≤ i ∧ i ≤ n) : in2 i n = true := decide_eq_true h
theorem room_t {n : Int} {b : Nat} (h : n * b ≤ 140737488355328) : room n b = true := decide_eq_true h
theorem n8_inj {a b : UInt8} (h : n8 a = n8 b) : a = b := by
 unfold n8 at h
 apply UInt8.toNat_inj.1
 omega
end Go.Mo
end
section
/-
 Plain facts: rates, labels, the repertoire of characters.
-/
namespace Go.Mo
open Go Go.W
set_option maxRecDepth 100000
theorem all_u8 {P : UInt8 → Bool} (h : ((List.range 256).all fun n => P (UInt8.ofNat n)) = true) (x : UInt8) : P x = true := by
 have h1 : x.toNat < 256 := x.toNat_lt
 have := List.all_eq_true.1 h x.toNat (List.mem_range.2 h1)
 simpa using this
end Go.Mo
end
section
/-
 Plain facts: the repertoire of characters.
-/
namespace Go.Mo
open Go Go.W
set_option maxRecDepth 100000
noncomputable def fuelM : Nat := Classical.choose (⟨7995000, rfl⟩ : ∃ n : Nat, n = 7995000)
noncomputable def fuelH : Nat := fuelM + 5000
theorem fuelH_eq : fuelH = 8000000 := by
 have h : fuelM = 7995000 := Classical.choose_spec (⟨7995000, rfl⟩ : ∃ n : Nat, n = 7995000)
 unfold fuelH
 rw [h]
def hiRunes : List Int := [161, 162, 163, 164, 165, 166, 167, 169, 171, 174, 176, 183, 187, 189, 191, 192, 193, 194, 195, 196, 197, 198, 199, 200, 201, 202, 203, 204, 205, 206, 207, 209, 210, 211, 212, 213, 214, 216, 217, 218, 219, 220, 223, 224, 225, 226, 227, 228, 229, 230, 231, 232, 233, 234, 235, 236, 237, 238, 239, 241, 242, 243, 244, 245, 246, 248, 249, 250, 251, 252, 338, 339, 8212, 8216, 8217, 8220, 8221, 8226, 8230, 8482, 9834]
def loRunes : List Int := (List.range 95).map fun n => ((n + 32 : Nat) : Int)
def chain : List Int → Int → Int → Option Int
 | [], _, _ => some (-1)
 | c :: l, i, r => cnd (ieq c r) (some i) (chain l (iadd i 1) r)
def rep : List UInt8 := [32, 33, 34, 35, 36, 37, 38, 39, 40, 41, 42, 43, 44, 45, 46, 47, 48, 49, 50, 51, 52, 53, 54, 55, 56, 57, 58, 59, 60, 61, 62, 63, 64, 65, 66, 67, 68, 69, 70, 71, 72, 73, 74, 75, 76, 77, 78, 79, 80, 81, 82, 83, 84, 85, 86, 87, 88, 89, 90, 91, 92, 93, 94, 95, 96, 97, 98, 99, 100, 101, 102, 103, 104, 105, 106, 107, 108, 109, 110, 111, 112, 113, 114, 115, 116, 117, 118, 119, 120, 121, 122, 123, 124, 125, 126, 194, 161, 194, 162, 194, 163, 194, 164, 194, 165, 194, 166, 194, 167, 194, 169, 194, 171, 194, 174, 194, 176, 194, 183, 194, 187, 194, 189, 194, 191, 195, 128, 195, 129, 195, 130, 195, 131, 195, 132, 195, 133, 195, 134, 195, 135, 195, 136, 195, 137, 195, 138, 195, 139, 195, 140, 195, 141, 195, 142, 195, 143, 195, 145, 195, 146, 195, 147, 195, 148, 195, 149, 195, 150, 195, 152, 195, 153, 195, 154, 195, 155, 195, 156, 195, 159, 195, 160, 195, 161, 195, 162, 195, 163, 195, 164, 195, 165, 195, 166, 195, 167, 195, 168, 195, 169, 195, 170, 195, 171, 195, 172, 195, 173, 195, 174, 195, 175, 195, 177, 195, 178, 195, 179, 195, 180, 195, 181, 195, 182, 195, 184, 195, 185, 195, 186, 195, 187, 195, 188, 197, 146, 197, 147, 226, 128, 148, 226, 128, 152, 226, 128, 153, 226, 128, 156, 226, 128, 157, 226, 128, 162, 226, 128, 166, 226, 132, 162, 226, 153, 170]
theorem place_eqN (N : Nat) (r : Int) : q11 (N + 300) (rep, r) = chain (loRunes ++ hiRunes) 0 r := by kernel_rfl
theorem place_eq (r : Int) : q11 fuelH (rep, r) = chain (loRunes ++ hiRunes) 0 r := place_eqN (fuelM + 4700) r
theorem ch_indexN (N : Nat) (r : Int) : q12 N r = cnd (ile 32 r) (cnd (ile r 126) (some (w64 (wr .i32 (isub r 32)))) (bnd (q11 N (rep, r)) fun v => some v)) (bnd (q11 N (rep, r)) fun v => some v) := by kernel_rfl
theorem ch_index (r : Int) : q12 fuelH r = cnd (ile 32 r) (cnd (ile r 126) (some (w64 (wr .i32 (isub r 32)))) (bnd (q11 fuelH (rep, r)) fun v => some v)) (bnd (q11 fuelH (rep, r)) fun v => some v) := ch_indexN fuelH r
theorem chain_ok : ∀ (l : List Int) (i r : Int), 0 ≤ i → ∃ k, chain l i r = some k ∧ (k < 0 ↔ l.contains r = false)
 | [], i, r, _ => ⟨-1, rfl, by simp⟩
 | c :: l, i, r, h => by
  by_cases hc : c = r
  ·exact ⟨i, by simp only [chain]; rw [cnd_t (ieq_t hc)], by subst hc; simp; omega⟩
  ·obtain ⟨k, h1, h2⟩ := chain_ok l (iadd i 1) r (by show 0 ≤ i + 1; omega)
   refine ⟨k, by simp only [chain]; rw [cnd_f (ieq_f hc)]; exact h1, ?_⟩
   rw [h2]
   simp only [List.contains_cons, Bool.or_eq_false_iff]
   exact ⟨fun h => ⟨by simpa using fun e => hc e.symm, h⟩, fun h => h.2⟩
def inRep (r : Int) : Bool := (decide (32 ≤ r) && decide (r ≤ 126)) || hiRunes.contains r
theorem wi32_id {x : Int} (h : 0 ≤ x ∧ x < 1000) : wr .i32 x = x := by
 show IntKind.wrap .i32 x = x
 unfold IntKind.wrap
 simp only [IntKind.bits, IntKind.signed, Bool.true_and, decide_eq_true_eq, show (2 : Int) ^ 32 = 4294967296 from rfl, show (2 : Int) ^ (32 - 1) = 2147483648 from rfl]
 split <;> omega
theorem lo_mem (r : Int) : loRunes.contains r = (decide (32 ≤ r) && decide (r ≤ 126)) := by
 rw [Bool.eq_iff_iff]
 simp only [loRunes, List.contains_iff_mem, List.mem_map, List.mem_range, Bool.and_eq_true, decide_eq_true_eq]
 constructor
 ·rintro ⟨n, hn, rfl⟩; omega
 ·intro h; exact ⟨(r - 32).toNat, by omega, by omega⟩
theorem index_stl (r : Int) : ∃ i, q12 fuelH r = some i ∧ (i < 0 ↔ inRep r = false) := by
 rw [ch_index, place_eq]
 obtain ⟨k, h1, h2⟩ := chain_ok (loRunes ++ hiRunes) 0 r (Int.le_refl _)
 have hin : (loRunes ++ hiRunes).contains r = inRep r := by
  unfold inRep
  rw [← lo_mem]
  simp [List.contains_eq_mem, List.mem_append]
 rw [hin] at h2
 by_cases ha : 32 ≤ r
 ·rw [cnd_t (ile_t ha)]
  by_cases hb : r ≤ 126
  ·rw [cnd_t (ile_t hb)]
   refine ⟨_, rfl, ?_⟩
   have : w64 (wr .i32 (isub r 32)) = r - 32 := by
    simp only [isub]
    rw [wi32_id (by omega), w64_id (by omega)]
   rw [this]
   simp [inRep, ha, hb]
  ·rw [cnd_f (ile_f hb)]
   exact ⟨k, by rw [bnd_s h1], h2⟩
 ·rw [cnd_f (ile_f ha)]
  exact ⟨k, by rw [bnd_s h1], h2⟩
end Go.Mo
end
section
/-
 Plain facts: texts of the repertoire.
-/
namespace Go.Mo
open Go Go.W Go.Lib
set_option maxRecDepth 100000
theorem dec_pos (l : List UInt8) : 1 ≤ (decodeL l).2 := by
 unfold decodeL Utf8.decode
 simp only
 repeat' split
 all_goals first | exact Nat.le_refl _ | (show 1 ≤ _; omega)
theorem decR_eq (s : List UInt8) (p : Nat) : decR s p = ((decodeL (s.drop p)).1 : Int) := by
 have := decodeL_drop (bst s) p
 have e : (bst s).data.toList = s := rfl
 rw [e] at this
 unfold decR
 rw [this]
theorem decW_eq (s : List UInt8) (p : Nat) : decW s p = (decodeL (s.drop p)).2 := by
 have := decodeL_drop (bst s) p
 have e : (bst s).data.toList = s := rfl
 rw [e] at this
 unfold decW
 rw [this]
def rok : Nat → List UInt8 → Bool
 | 0, _ => true
 | n + 1, l => if l = [] then true else if inRep ((decodeL l).1 : Int) = true then rok n (l.drop (decodeL l).2) else false
def vld (l : List UInt8) : Bool := rok l.length l
theorem rok_nil : ∀ n, rok n [] = true
 | 0 => rfl
 | n + 1 => by simp [rok]
theorem rok_fuel : ∀ (n m : Nat) (l : List UInt8), l.length ≤ n → l.length ≤ m → rok n l = rok m l
 | 0, m, l, h, _ => by
  have : l = [] := List.eq_nil_of_length_eq_zero (by omega)
  subst this
  rw [rok_nil, rok_nil]
 | n + 1, 0, l, _, h => by
  have : l = [] := List.eq_nil_of_length_eq_zero (by omega)
  subst this
  rw [rok_nil, rok_nil]
 | n + 1, m + 1, l, h1, h2 => by
  by_cases hl : l = []
  ·subst hl; rw [rok_nil, rok_nil]
  ·have hp := dec_pos l
   have hlen : 0 < l.length := List.length_pos_iff.2 hl
   simp only [rok, hl, if_false]
   split
   ·exact rok_fuel n m _ (by simp; omega) (by simp; omega)
   ·rfl
theorem vld_step (l : List UInt8) (hl : l ≠ []) : vld l = if inRep ((decodeL l).1 : Int) = true then vld (l.drop (decodeL l).2) else false := by
 have hp := dec_pos l
 have hlen : 0 < l.length := List.length_pos_iff.2 hl
 unfold vld
 obtain ⟨n, hn⟩ : ∃ n, l.length = n + 1 := ⟨l.length - 1, by omega⟩
 rw [hn]
 simp only [rok, hl, if_false]
 split
 ·exact rok_fuel _ _ _ (by simp; omega) (Nat.le_refl _)
 ·rfl
theorem vld_valid : ∀ (n : Nat) (l : List UInt8), l.length ≤ n → vld l = true → validD l = true
 | n, l, h, hv => by
  by_cases hl : l = []
  ·subst hl; rfl
  ·have hlen : 0 < l.length := List.length_pos_iff.2 hl
   have hp := dec_pos l
   rw [vld_step l hl] at hv
   split at hv
   ·rename_i hr
    rw [validD_step l hl, if_neg ?_]
    ·cases n with
     | zero => omega
     | succ n => exact vld_valid n _ (by simp; omega) hv
    ·rintro ⟨e, _⟩
     rw [e] at hr
     exact absurd hr (by decide)
   ·cases hv
theorem valid_loop {s : List UInt8} (hs : s.length ≤ 100000000) (Ix : Int → Option Int) (hI : ∀ r : Int, ∃ i, Ix r = some i ∧ (i < 0 ↔ inRep r = false)) : ∀ (fuel p : Nat), s.length - p < fuel → p ≤ s.length →
  fixN (fun v2 (v3 : (List UInt8) × Int) =>
  cnd (nlt (toN v3.2) (nlen v3.1))
   (bnd (Ix (decR v3.1 (toN v3.2))) fun v4 =>
   cnd (ilt v4 (0 : Int))
    (some false)
    (v2 (v3.1, ofN (nadd (toN v3.2) (decW v3.1 (toN v3.2))))))
   (some true)) fuel (s, ofN p) = some (vld (s.drop p))
 | 0, p, h, _ => by omega
 | fuel + 1, p, h, hp => by
  rw [fixN_s]
  have et : toN (ofN p) = p := by simp [toN, ofN]
  simp only [et]
  by_cases hl : p < s.length
  ·have hne : s.drop p ≠ [] := by intro e; have := congrArg List.length e; simp at this; omega
   have hw := dec_pos (s.drop p)
   have hle := decodeL_le (s.drop p) hne
   rw [List.length_drop] at hle
   rw [cnd_t (show nlt p (nlen s) = true from decide_eq_true hl)]
   obtain ⟨i, h1, h2⟩ := hI (decR s p)
   rw [bnd_s h1]
   rw [vld_step _ hne, ← decR_eq]
   by_cases hi : i < 0
   ·rw [cnd_t (ilt_t hi), if_neg (by rw [h2.1 hi]; decide)]
   ·rw [cnd_f (ilt_f hi)]
    have hin : inRep (decR s p) = true := by
     cases hq : inRep (decR s p) with
     | true => rfl
     | false => exact absurd (h2.2 hq) hi
    rw [if_pos hin, decW_eq, List.drop_drop]
    show fixN _ fuel (s, ofN (p + (decodeL (s.drop p)).2)) = _
    exact valid_loop hs Ix hI fuel _ (by omega) (by omega)
  ·rw [cnd_f (show nlt p (nlen s) = false from decide_eq_false hl)]
   have : s.drop p = [] := by simp; omega
   rw [this]
   rfl
theorem ch_valid (s : List UInt8) (hs : s.length ≤ 4000000) : q13 fuelH s = some (vld s) := by
 unfold q13
 have hv : utf8_ValidString fuelH s = some (validD s) := by
  show grd (catOk (len s)) (some (validD s)) = _
  exact grd_t (decide_eq_true (by simp only [len]; omega))
 rw [bnd_s hv]
 simp only [jn_e]
 cases hd : validD s with
 | false =>
  rw [cnd_t (show bnot false = true from rfl)]
  cases hq : vld s with
  | false => rfl
  | true => rw [vld_valid _ s (Nat.le_refl _) hq] at hd; cases hd
 | true =>
  rw [cnd_f (show bnot true = false from rfl)]
  have := valid_loop (s := s) (by omega) (q12 fuelH) (fun r => by obtain ⟨i, h2, h3⟩ := index_stl r; exact ⟨i, h2, h3⟩) fuelH 0 (by have := fuelH_eq; omega) (Nat.zero_le _)
  simpa using this
end Go.Mo
end
section
/-
 Plain facts: names; the check of a header.
-/
namespace Go.Mo
open Go Go.W Go.Lib
set_option maxRecDepth 100000
theorem cnd_dec {α : Type} {p : Prop} [Decidable p] {x y : Option α} : cnd (decide p) x y = if p then x else y := by
 by_cases h : p
 ·rw [cnd_t (decide_eq_true h), if_pos h]
 ·rw [cnd_f (decide_eq_false h), if_neg h]
theorem cnd_ilt {α : Type} {a b : Int} {x y : Option α} : cnd (ilt a b) x y = if a < b then x else y := cnd_dec
theorem cnd_ile {α : Type} {a b : Int} {x y : Option α} : cnd (ile a b) x y = if a ≤ b then x else y := cnd_dec
theorem cnd_ieq {α : Type} {a b : Int} {x y : Option α} : cnd (ieq a b) x y = if a = b then x else y := by
 by_cases h : a = b
 ·rw [cnd_t (ieq_t h), if_pos h]
 ·rw [cnd_f (ieq_f h), if_neg h]
theorem cnd_ine {α : Type} {a b : Int} {x y : Option α} : cnd (ine a b) x y = if a ≠ b then x else y := by
 by_cases h : a = b
 ·rw [cnd_f (ine_f h), if_neg (by simp [h])]
 ·rw [cnd_t (ine_t h), if_pos h]
def okc (c : Int) : Bool := decide ((65 ≤ c ∧ c ≤ 90) ∨ (48 ≤ c ∧ c ≤ 57) ∨ c = 95 ∨ c = 45)
theorem nm_body (c : Int) (X : Option Bool) :
  (cnd (ilt c (n8 (65 : UInt8)))
          (cnd (ilt c (n8 (48 : UInt8)))
           (cnd (ine c (n8 (95 : UInt8)))
            (cnd (ine c (n8 (45 : UInt8)))
             (some false)
             X)
            X)
           (cnd (ilt (n8 (57 : UInt8)) c)
            (cnd (ine c (n8 (95 : UInt8)))
             (cnd (ine c (n8 (45 : UInt8)))
              (some false)
              X)
             X)
            X))
          (cnd (ilt (n8 (90 : UInt8)) c)
           (cnd (ilt c (n8 (48 : UInt8)))
            (cnd (ine c (n8 (95 : UInt8)))
             (cnd (ine c (n8 (45 : UInt8)))
              (some false)
              X)
             X)
            (cnd (ilt (n8 (57 : UInt8)) c)
             (cnd (ine c (n8 (95 : UInt8)))
              (cnd (ine c (n8 (45 : UInt8)))
               (some false)
               X)
              X)
             X))
           X)) = cnd (okc c) X (some false) := by
 have e1 : n8 (65 : UInt8) = 65 := rfl
 have e2 : n8 (48 : UInt8) = 48 := rfl
 have e3 : n8 (95 : UInt8) = 95 := rfl
 have e4 : n8 (45 : UInt8) = 45 := rfl
 have e5 : n8 (57 : UInt8) = 57 := rfl
 have e6 : n8 (90 : UInt8) = 90 := rfl
 rw [e1, e2, e3, e4, e5, e6]
 simp only [cnd_ilt, cnd_ine, okc, cnd_dec]
 repeat' split
 all_goals first | rfl | (exfalso; omega)
def upc (c : Int) : Bool := decide (65 ≤ c ∧ c ≤ 90)
def nm (s : List UInt8) : Bool := decide (1 ≤ s.length ∧ s.length ≤ 16) && upc (n8 (s.getD 0 0)) && s.all fun c => okc (n8 c)
theorem all_step {s : List UInt8} {i : Nat} (h : i < s.length) (P : UInt8 → Bool) : (s.drop i).all P = (P s[i] && (s.drop (i + 1)).all P) := by
 rw [List.drop_eq_getElem_cons h, List.all_cons]
theorem nm_loop {s : List UInt8} (hs : s.length ≤ 16) : ∀ (fuel i : Nat), s.length - i < fuel → i ≤ s.length →
  fixN (fun v2 (v3 : Int) =>
        cnd (ilt v3 (len s))
         (grd (inb v3 (len s)) (cnd (okc (n8 (lget s (toN v3) (0 : UInt8)))) (v2 (w64 (iadd v3 (1 : Int)))) (some false)))
         (some true)) fuel (i : Int) = some ((s.drop i).all fun c => okc (n8 c))
 | 0, i, h, _ => by omega
 | fuel + 1, i, h, hi => by
  rw [fixN_s]
  by_cases hl : i < s.length
  ·have g : lget s (toN (i : Int)) 0 = s[i] := by simp [lget, toN, hl]
   rw [cnd_t (ilt_t (by simp only [len]; omega)), grd_t (inb_t (by simp only [len]; omega)), g, all_step hl]
   have hw : w64 (iadd (i : Int) 1) = ((i + 1 : Nat) : Int) := by
    simp only [iadd]; rw [w64_id (by omega)]; omega
   rw [hw, nm_loop hs fuel (i + 1) (by omega) (by omega)]
   cases okc (n8 s[i]) <;> rfl
  ·rw [cnd_f (ilt_f (by simp only [len]; omega))]
   have : s.drop i = [] := by simp; omega
   rw [this]
   rfl
theorem lines_name (s : List UInt8) : q14 fuelH s = some (nm s) := by
 unfold q14
 simp only [jn_e, nm_body]
 by_cases h1 : s.length < 1
 ·rw [cnd_t (ilt_t (by simp only [len]; omega))]
  simp [nm]; omega
 ·rw [cnd_f (ilt_f (by simp only [len]; omega))]
  by_cases h2 : 16 < s.length
  ·rw [cnd_t (ilt_t (by simp only [len]; omega))]
   simp [nm]; omega
  ·rw [cnd_f (ilt_f (by simp only [len]; omega)), grd_t (inb_t (by simp only [len]; omega))]
   have e0 : lget s (toN 0) 0 = s.getD 0 0 := rfl
   have e1 : n8 (65 : UInt8) = 65 := rfl
   have e2 : n8 (90 : UInt8) = 90 := rfl
   rw [e0, e1, e2, cnd_ilt]
   have hd : decide (1 ≤ s.length ∧ s.length ≤ 16) = true := decide_eq_true (by omega)
   split
   ·rename_i h3
    have : upc (n8 (s.getD 0 0)) = false := decide_eq_false (by omega)
    simp only [nm, this, Bool.and_false, Bool.false_and]
   ·rw [grd_t (inb_t (by simp only [len]; omega)), cnd_ilt]
    split
    ·rename_i h4
     have : upc (n8 (s.getD 0 0)) = false := decide_eq_false (by omega)
     simp only [nm, this, Bool.and_false, Bool.false_and]
    ·have hu : upc (n8 (s.getD 0 0)) = true := decide_eq_true (by omega)
     have := nm_loop (s := s) (by omega) fuelH 0 (by have := fuelH_eq; omega) (Nat.zero_le _)
     simp only [nm, hu, hd, Bool.true_and]
     simpa using this
end Go.Mo
end
section
/-
 Plain facts: the check of a header.
-/
namespace Go.Mo
open Go Go.W Go.Lib
set_option maxRecDepth 100000
abbrev Lbl := Int × Int × Int × Int × Bool
abbrev Hdr := UInt8 × (List UInt8) × (List UInt8) × Int × Int × Lbl × Lbl × Int × Int
theorem cnd_bnot {α : Type} {p : Prop} [Decidable p] {x y : Option α} : cnd (bnot (decide p)) x y = if p then y else x := by
 by_cases hp : p <;> simp [hp, bnot, cnd]
theorem bnd_some' {α β : Type} {a : α} {k : α → Option β} : bnd (some a) k = k a := rfl
end Go.Mo
end
section
/-
 Plain facts: the characters of a text, and the text of characters.
-/
namespace Go.Mo
open Go Go.W Go.Lib
set_option maxRecDepth 100000
def rnsF : Nat → List UInt8 → List Int
 | 0, _ => []
 | n + 1, l => if l = [] then [] else ((decodeL l).1 : Int) :: rnsF n (l.drop (decodeL l).2)
def rns (l : List UInt8) : List Int := rnsF l.length l
def ofR (l : List Int) : List UInt8 := l.flatMap enc
theorem rnsF_nil : ∀ n, rnsF n [] = []
 | 0 => rfl
 | n + 1 => by simp [rnsF]
theorem rnsF_fuel : ∀ (n m : Nat) (l : List UInt8), l.length ≤ n → l.length ≤ m → rnsF n l = rnsF m l
 | 0, m, l, h, _ => by
  have : l = [] := List.eq_nil_of_length_eq_zero (by omega)
  subst this
  rw [rnsF_nil, rnsF_nil]
 | n + 1, 0, l, _, h => by
  have : l = [] := List.eq_nil_of_length_eq_zero (by omega)
  subst this
  rw [rnsF_nil, rnsF_nil]
 | n + 1, m + 1, l, h1, h2 => by
  by_cases hl : l = []
  ·subst hl; rw [rnsF_nil, rnsF_nil]
  ·have hp := dec_pos l
   have hlen : 0 < l.length := List.length_pos_iff.2 hl
   simp only [rnsF, hl, if_false]
   rw [rnsF_fuel n m _ (by simp; omega) (by simp; omega)]
theorem rns_step (l : List UInt8) (hl : l ≠ []) : rns l = ((decodeL l).1 : Int) :: rns (l.drop (decodeL l).2) := by
 have hp := dec_pos l
 have hlen : 0 < l.length := List.length_pos_iff.2 hl
 unfold rns
 obtain ⟨n, hn⟩ : ∃ n, l.length = n + 1 := ⟨l.length - 1, by omega⟩
 rw [hn]
 simp only [rnsF, hl, if_false]
 rw [rnsF_fuel n _ _ (by simp; omega) (Nat.le_refl _)]
theorem rep_mem {r : Int} (h : inRep r = true) : r ∈ loRunes ++ hiRunes := by
 unfold inRep at h
 rw [← lo_mem, Bool.or_eq_true] at h
 rw [List.mem_append]
 rcases h with h | h
 ·exact .inl (List.contains_iff_mem.1 h)
 ·exact .inr (List.contains_iff_mem.1 h)
theorem all_rep {P : Int → Bool} (h : ((loRunes ++ hiRunes).all P) = true) {r : Int} (hr : inRep r = true) : P r = true :=
 List.all_eq_true.1 h r (rep_mem hr)
theorem enc_rep {r : Int} (hr : inRep r = true) : enc r = encodeRune r :=
 of_decide_eq_true (all_rep (P := fun r => decide (enc r = encodeRune r)) (by kernel_rfl) hr)
theorem enc_dec (l : List UInt8) (hl : l ≠ []) (hr : inRep ((decodeL l).1 : Int) = true) : enc ((decodeL l).1 : Int) = l.take (decodeL l).2 := by
 rw [enc_rep hr]
 refine encode_decode l hl ?_
 rintro ⟨e, _⟩
 rw [e] at hr
 exact absurd hr (by decide)
theorem rns_rep : ∀ (n : Nat) (l : List UInt8), l.length ≤ n → vld l = true → (rns l).all inRep = true ∧ ofR (rns l) = l
 | n, l, h, hv => by
  by_cases hl : l = []
  ·subst hl; exact ⟨rfl, rfl⟩
  ·have hlen : 0 < l.length := List.length_pos_iff.2 hl
   have hp := dec_pos l
   rw [vld_step l hl] at hv
   split at hv
   ·rename_i hr
    cases n with
    | zero => omega
    | succ n =>
     obtain ⟨h1, h2⟩ := rns_rep n _ (by simp; omega) hv
     rw [rns_step l hl]
     refine ⟨by rw [List.all_cons, hr, h1]; rfl, ?_⟩
     unfold ofR at h2 ⊢
     rw [List.flatMap_cons, h2, enc_dec l hl hr, List.take_append_drop]
   ·cases hv
theorem rns_ok {l : List UInt8} (h : vld l = true) : (rns l).all inRep = true := (rns_rep _ l (Nat.le_refl _) h).1
theorem ofR_rns {l : List UInt8} (h : vld l = true) : ofR (rns l) = l := (rns_rep _ l (Nat.le_refl _) h).2
theorem rns_len : ∀ (n : Nat) (l : List UInt8), l.length ≤ n → (rns l).length ≤ l.length
 | n, l, h => by
  by_cases hl : l = []
  ·subst hl; exact Nat.le_refl _
  ·have hlen : 0 < l.length := List.length_pos_iff.2 hl
   have hp := dec_pos l
   rw [rns_step l hl]
   cases n with
   | zero => omega
   | succ n =>
    have := rns_len n (l.drop (decodeL l).2) (by simp; omega)
    simp at this ⊢
    omega
def foldR {σ R : Type} (g : Int → σ → (σ → Option R) → Option R) (e : σ → Option R) : List Int → σ → Option R
 | [], a => e a
 | r :: l, a => g r a fun a' => foldR g e l a'
theorem str_loop {V R σ : Type} {F : (V → Option R) → V → Option R} {s : List UInt8} (st : σ → Nat → V) (g : Int → σ → (σ → Option R) → Option R) (e : σ → Option R)
  (hstep : ∀ self a p, p < s.length → F self (st a p) = g (decR s p) a fun a' => self (st a' (p + decW s p)))
  (hend : ∀ self a p, s.length ≤ p → F self (st a p) = e a) : ∀ (fuel p : Nat) (a : σ), s.length - p < fuel → fixN F fuel (st a p) = foldR g e (rns (s.drop p)) a
 | 0, p, a, h => by omega
 | fuel + 1, p, a, h => by
  rw [fixN_s]
  by_cases hp : p < s.length
  ·have hne : s.drop p ≠ [] := by intro e; have := congrArg List.length e; simp at this; omega
   have hw := dec_pos (s.drop p)
   rw [hstep _ _ _ hp, rns_step _ hne, ← decR_eq, foldR, List.drop_drop, ← decW_eq]
   congr 1
   funext a'
   rw [decW_eq]
   have := str_loop st g e hstep hend fuel (p + (decodeL (s.drop p)).2) a' (by omega)
   exact this
  ·rw [hend _ _ _ (by omega)]
   have : s.drop p = [] := by simp; omega
   rw [this]
   rfl
def foldI {α σ R : Type} (g : Nat → α → σ → (σ → Option R) → Option R) (e : σ → Option R) : Nat → List α → σ → Option R
 | _, [], a => e a
 | i, x :: l, a => g i x a fun a' => foldI g e (i + 1) l a'
theorem lst_loop {V R σ α : Type} {F : (V → Option R) → V → Option R} {l : List α} (st : σ → Nat → V) (g : Nat → α → σ → (σ → Option R) → Option R) (e : σ → Option R)
  (hstep : ∀ self a i (h : i < l.length), F self (st a i) = g i l[i] a fun a' => self (st a' (i + 1)))
  (hend : ∀ self a, F self (st a l.length) = e a) : ∀ (fuel i : Nat) (a : σ), i ≤ l.length → l.length - i < fuel → fixN F fuel (st a i) = foldI g e i (l.drop i) a
 | 0, i, a, _, h => by omega
 | fuel + 1, i, a, hi, h => by
  rw [fixN_s]
  by_cases hl : i < l.length
  ·rw [hstep _ _ _ hl, List.drop_eq_getElem_cons hl, foldI]
   congr 1
   funext a'
   exact lst_loop st g e hstep hend fuel (i + 1) a' (by omega) (by omega)
  ·obtain rfl : i = l.length := by omega
   rw [hend, List.drop_length]
   rfl
theorem w64_succ {i n : Nat} (h : i < n) (hn : n ≤ 9223372036854775807) : w64 (iadd (i : Int) 1) = ((i + 1 : Nat) : Int) := by
 simp only [iadd]; rw [w64_id (by omega)]; omega
theorem lget_i {α : Type} {l : List α} {i : Nat} {d : α} (h : i < l.length) : lget l (toN (i : Int)) d = l[i] := by simp [lget, toN, h]
theorem nlt_t {a b : Nat} (h : a < b) : nlt a b = true := decide_eq_true h
theorem nlt_f {a b : Nat} (h : ¬ a < b) : nlt a b = false := decide_eq_false h
theorem toN_ofN (n : Nat) : toN (ofN n) = n := by simp [toN, ofN]
end Go.Mo
end
section
/-
 Plain facts: the characters of the tape form.
-/
namespace Go.Mo
open Go Go.W Go.Lib
set_option maxRecDepth 100000
def ixE (r : Int) : Option Int := cnd (ile 32 r) (cnd (ile r 126) (some (w64 (wr .i32 (isub r 32)))) (chain (loRunes ++ hiRunes) 0 r)) (chain (loRunes ++ hiRunes) 0 r)
def ix (r : Int) : Int := (ixE r).getD 0
def basT : List Int := [33, 99, 76, 36, 89, 124, 83, 67, 34, 82, 111, 46, 34, 50, 63, 65, 65, 65, 65, 65, 65, 65, 67, 69, 69, 69, 69, 73, 73, 73, 73, 78, 79, 79, 79, 79, 79, 79, 85, 85, 85, 85, 115, 97, 97, 97, 97, 97, 97, 97, 99, 101, 101, 101, 101, 105, 105, 105, 105, 110, 111, 111, 111, 111, 111, 111, 117, 117, 117, 117, 79, 111, 45, 39, 39, 34, 34, 46, 46, 84, 35]
def bas (r : Int) : Int := if r < 127 then r else basT.getD ((ix r).toNat - 95) 0
def accs : List (UInt8 × List UInt8 × List Int) := [(193, [195, 128, 195, 136, 195, 140, 195, 146, 195, 153], [192, 200, 204, 210, 217]), (194, [195, 129, 195, 137, 195, 141, 195, 147, 195, 154], [193, 201, 205, 211, 218]), (195, [195, 130, 195, 138, 195, 142, 195, 148, 195, 155], [194, 202, 206, 212, 219]), (196, [195, 131, 195, 145, 195, 149], [195, 209, 213]), (197, [], []), (198, [], []), (199, [], []), (200, [195, 132, 195, 139, 195, 143, 195, 150, 195, 156], [196, 203, 207, 214, 220]), (201, [], []), (202, [195, 133], [197]), (203, [195, 135], [199])]
def sgs : List (Int × UInt8) := [(161, 161), (162, 162), (163, 163), (164, 164), (165, 165), (166, 166), (167, 167), (169, 168), (8216, 169), (8220, 170), (171, 171), (174, 172), (8212, 173), (8226, 174), (8230, 175), (176, 176), (8482, 180), (183, 183), (8217, 185), (8221, 186), (187, 187), (189, 189), (191, 191), (9834, 213), (198, 225), (216, 233), (338, 234), (230, 241), (248, 249), (339, 250), (223, 251)]
end Go.Mo
end
section
/-
 Plain facts: texts in the characters of the tape form.
-/
namespace Go.Mo
open Go Go.W Go.Lib
set_option maxRecDepth 100000
end Go.Mo
end
section
/-
 Small plain facts: bytes, lengths, equality of texts.
-/
namespace Go.Mo
open Go Go.W Go.Lib
set_option maxRecDepth 100000
noncomputable section
theorem catOk_t {n : Int} (h : n ≤ 9223372036854775807) : catOk n = true := decide_eq_true h
theorem enc_len {r : Int} (hr : inRep r = true) : (enc r).length ≤ 4 :=
 of_decide_eq_true (all_rep (P := fun r => decide ((enc r).length ≤ 4)) (by kernel_rfl) hr)
theorem seq_dec (x y : List UInt8) : seq x y = decide (x = y) := by
 unfold seq
 by_cases h : x = y
 ·subst h; simp
 ·rw [decide_eq_false h]
  simpa using h
end
end Go.Mo
end
section
/-
 Plain facts: characters of the tape form read back.
-/
namespace Go.Mo
open Go Go.W Go.Lib
set_option maxRecDepth 100000
noncomputable section
def low (r : Int) : Int := if (65 ≤ r ∧ r ≤ 90) ∨ (192 ≤ r ∧ r < 223) then r + 32 else if r = 338 then 339 else r
def accR (a : UInt8) : List Int := match accs.find? fun x => x.1 == a with
 | some x => x.2.2
 | none => []
def acG : List Int → UInt8 → Option (Int × Int)
 | [], _ => some (0, 0)
 | r :: l, b => cnd (ieq (bas r) (n8 b)) (some (r, (2 : Int))) (cnd (ieq (bas (low r)) (n8 b)) (some (low r, (2 : Int))) (acG l b))
def sgF (a : UInt8) : Option (Int × UInt8) := sgs.find? fun x => n8 x.2 == n8 a
end
end Go.Mo
end
section
/-
 Plain facts: rates, names, on both sides.
-/
namespace Go.Mo
open Go Go.W Go.Lib
set_option maxRecDepth 100000
noncomputable section
theorem valid_tab : ((List.range 256).all fun n => decide (q16 0 (UInt8.ofNat n) = q121 0 (UInt8.ofNat n) ∧ q17 0 (UInt8.ofNat n) = q122 0 (UInt8.ofNat n) ∧ True)) = true := by kernel_rfl
theorem rate_eq (N : Nat) (r : UInt8) : q16 N r = q121 N r ∧ q17 N r = q122 N r ∧ True :=
 of_decide_eq_true (all_u8 (P := fun r => decide (q16 0 r = q121 0 r ∧ q17 0 r = q122 0 r ∧ True)) valid_tab r)
end
end Go.Mo
end
section
/-
 Plain facts: rows of text, their check, their normal form.
-/
namespace Go.Mo
open Go Go.W Go.Lib
set_option maxRecDepth 100000
abbrev Sty := UInt8 × Bool × Bool
abbrev Run := List UInt8 × Sty × List UInt8
abbrev Row := List Run
theorem cnd_ite {α : Type} {b : Bool} {x y : Option α} : cnd b x y = if b = true then x else y := by cases b <;> rfl
theorem bnot_t {b : Bool} : (bnot b = true) = (b = false) := by cases b <;> simp [bnot]
theorem seq_t {a b : List UInt8} : (seq a b = true) = (a = b) := by rw [seq_dec]; simp
theorem ieq_tt {a b : Int} : (ieq a b = true) = (a = b) := by simp [ieq]
theorem ilt_tt {a b : Int} : (ilt a b = true) = (a < b) := by simp [ilt]
theorem beqb_t {a b : Bool} : (beqb a b = true) = (a = b) := by simp [beqb]
theorem band_tt {a b : Bool} : (band a b = true) = (a = true ∧ b = true) := by simp [band]
theorem n8_eq {a b : UInt8} : (n8 a = n8 b) = (a = b) := propext ⟨n8_inj, fun h => by rw [h]⟩
theorem w64_pred {i : Nat} (h : 0 < i) (hn : i ≤ 9223372036854775807) : w64 (isub (i : Int) 1) = ((i - 1 : Nat) : Int) := by
 simp only [isub]; rw [w64_id (by omega)]; omega
theorem w64_back {i : Nat} (hn : i < 9223372036854775807) : w64 (isub ((i + 1 : Nat) : Int) 1) = (i : Int) := by
 rw [w64_pred (Nat.succ_pos i) (by omega)]; rfl
theorem sty_eq {a b : Sty} : (a = b) = (a.1 = b.1 ∧ a.2.1 = b.2.1 ∧ a.2.2 = b.2.2) := by
 obtain ⟨a1, a2, a3⟩ := a; obtain ⟨b1, b2, b3⟩ := b; simp
def alikeP (a b : Run) : Prop := a.2.1 = b.2.1 ∧ a.2.2 = [] ∧ b.2.2 = []
instance (a b : Run) : Decidable (alikeP a b) := by unfold alikeP; infer_instance
def runChk (p : Option Run) (x : Run) : Int :=
 if vld x.1 = false then 10 else if x.1 = [] then 4 else if ¬ n8 x.2.1.1 ≤ 6 then 12 else if vld x.2.2 = false then 10 else match p with
  | none => 0
  | some p => if alikeP p x then 8 else 0
def chkL : Option Run → List Run → Int
 | _, [] => 0
 | p, x :: r => if runChk p x ≠ 0 then runChk p x else chkL (some x) r
def rowChk (l : Row) : Int := if 16 < l.length then 9 else chkL none l
def shortR (l : Row) : Prop := ∀ x ∈ l, x.1.length ≤ 4000000 ∧ x.2.2.length ≤ 4000000
def before {α : Type} (l : List α) : Nat → Option α
 | 0 => none
 | i + 1 => l[i]?
theorem foldI_chk (l : Row) : ∀ (r : List Run) (i : Nat), l.drop i = r → i ≤ l.length → foldI (fun i (x : Run) (_ : Unit) self => if runChk (before l i) x ≠ 0 then some (runChk (before l i) x) else self ()) (fun _ => some (0 : Int)) i r () = some (chkL (before l i) r)
 | [], i, _, _ => rfl
 | x :: r, i, h, hi => by
  have hx : l[i]? = some x := by rw [← List.head?_drop, h]; rfl
  have hr : l.drop (i + 1) = r := by rw [← List.drop_drop, h]; rfl
  have hl : i < l.length := (List.getElem?_eq_some_iff.1 hx).1
  simp only [foldI, chkL]
  rw [foldI_chk l r (i + 1) hr (by omega)]
  have e : before l (i + 1) = some x := hx
  rw [e]
  by_cases hc : runChk (before l i) x ≠ 0
  ·rw [if_pos hc, if_pos hc]
  ·rw [if_neg hc, if_neg hc]
theorem style_alike_eq (N : Nat) (a b : Run) : q29 N (a, b) = some (decide (alikeP a b)) := by
 unfold q29
 simp only [cnd_ite, band_tt, ieq_tt, beqb_t, n8_eq, seq_dec, decide_eq_true_eq]
 by_cases h1 : a.2.1.1 = b.2.1.1 ∧ a.2.1.2.1 = b.2.1.2.1 ∧ a.2.1.2.2 = b.2.1.2.2
 ·rw [if_pos h1]
  have : a.2.1 = b.2.1 := by rw [sty_eq]; exact h1
  by_cases h2 : a.2.2 = []
  ·rw [if_pos h2]; simp [alikeP, this, h2]
  ·rw [if_neg h2]; simp [alikeP, h2]
 ·rw [if_neg h1]
  have : ¬ a.2.1 = b.2.1 := by rw [sty_eq]; exact h1
  simp [alikeP, this]
theorem style_check {l : Row} (hl : shortR l) : q30 fuelH l = some (rowChk l) := by
 unfold q30
 by_cases h : 16 < l.length
 ·rw [cnd_t (ilt_t (by simp only [len]; omega))]; simp [rowChk, h]
 ·rw [cnd_f (ilt_f (by simp only [len]; omega)), jn_e]
  refine Eq.trans (lst_loop (l := l) (fun (_ : Unit) (p : Nat) => (p : Int)) (fun i (x : Run) (_ : Unit) self => if runChk (before l i) x ≠ 0 then some (runChk (before l i) x) else self ()) (fun _ => some (0 : Int)) (fun self a i hi => ?_) (fun self a => ?_) fuelH 0 () (Nat.zero_le _) (by have := fuelH_eq; omega)) ?_
  ·rw [cnd_t (ilt_t (by simp only [len]; omega)), grd_t (inb_t (by simp only [len]; omega)), lget_i hi]
   obtain ⟨b1, b2⟩ := hl l[i] (List.getElem_mem hi)
   rw [bnd_s (ch_valid _ b1), bnd_s (show q28 fuelH l[i].2.1 = some (ile (n8 l[i].2.1.1) 6) from rfl), bnd_s (ch_valid _ b2)]
   simp only [cnd_ite, bnot_t, seq_t, ile, decide_eq_false_iff_not]
   rw [w64_succ hi (by omega)]
   cases i with
   | zero =>
    have e0 : before l 0 = none := rfl
    rw [e0, if_neg (show ¬ ilt (0 : Int) ((0 : Nat) : Int) = true by decide)]
    simp only [runChk]
    repeat' split
    all_goals first | rfl | (exfalso; omega) | simp_all
   | succ i =>
    have e0 : before l (i + 1) = some l[i] := by simp only [before]; exact List.getElem?_eq_getElem (by omega)
    rw [e0, if_pos (show ilt (0 : Int) ((i + 1 : Nat) : Int) = true from ilt_t (by omega)), w64_back (by omega), grd_t (inb_t (by simp only [len]; omega)), lget_i (show i < l.length by omega), bnd_s (style_alike_eq _ _ _)]
    simp only [runChk, decide_eq_true_eq]
    repeat' split
    all_goals first | rfl | (exfalso; omega) | simp_all
  ·rw [cnd_f (ilt_f (by simp only [len]; omega))]
  ·rw [List.drop_zero, foldI_chk l l 0 rfl (Nat.zero_le _)]
   simp [rowChk, h, before]
end Go.Mo
end
section
/-
 Plain facts: loops with an invariant; the normal form of a row.
-/
namespace Go.Mo
open Go Go.W Go.Lib
set_option maxRecDepth 100000
def itI {α σ R : Type} (f : Nat → α → σ → Option R ⊕ σ) (e : σ → Option R) : Nat → List α → σ → Option R
 | _, [], a => e a
 | i, x :: l, a => match f i x a with
  | .inl r => r
  | .inr a' => itI f e (i + 1) l a'
def Rnd {V R σ : Type} (X : Option R) (self : V → Option R) (next : σ → V) (I : σ → Prop) : Option R ⊕ σ → Prop
 | .inl r => X = r
 | .inr a => X = self (next a) ∧ I a
theorem lst_it {V R σ α : Type} {F : (V → Option R) → V → Option R} {l : List α} (st : σ → Nat → V) (f : Nat → α → σ → Option R ⊕ σ) (e : σ → Option R) (I : Nat → σ → Prop)
  (hstep : ∀ self a i (h : i < l.length), I i a → Rnd (F self (st a i)) self (fun a => st a (i + 1)) (I (i + 1)) (f i l[i] a))
  (hend : ∀ self a, I l.length a → F self (st a l.length) = e a) : ∀ (fuel i : Nat) (a : σ), i ≤ l.length → l.length - i < fuel → I i a → fixN F fuel (st a i) = itI f e i (l.drop i) a
 | 0, i, a, _, h, _ => by omega
 | fuel + 1, i, a, hi, h, hI => by
  rw [fixN_s]
  by_cases hl : i < l.length
  ·rw [List.drop_eq_getElem_cons hl, itI]
   have hs := hstep (fixN F fuel) a i hl hI
   cases hf : f i l[i] a with
   | inl r => rw [hf] at hs; exact hs
   | inr a' =>
    rw [hf] at hs
    rw [hs.1]
    exact lst_it st f e I hstep hend fuel (i + 1) a' (by omega) (by omega) hs.2
  ·obtain rfl : i = l.length := by omega
   rw [hend _ _ hI, List.drop_length]
   rfl
theorem itI_fold {α σ R : Type} (f : α → σ → σ) (e : σ → Option R) : ∀ (i : Nat) (l : List α) (a : σ), itI (fun _ x a => .inr (f x a)) e i l a = e (l.foldl (fun a x => f x a) a)
 | _, [], _ => rfl
 | i, x :: l, a => by simp only [itI, List.foldl_cons]; exact itI_fold f e (i + 1) l (f x a)
def snoc (out : Row) (x : Run) : Row :=
 if x.1 = [] then out else match out.getLast? with
  | some p => if alikeP p x then out.dropLast ++ [(p.1 ++ x.1, p.2)] else out ++ [x]
  | none => out ++ [x]
def normR (l : Row) : Row := l.foldl snoc []
def tot : Row → Nat
 | [] => 0
 | x :: r => x.1.length + tot r
theorem tot_app (a b : Row) : tot (a ++ b) = tot a + tot b := by
 induction a with
 | nil => simp [tot]
 | cons x a ih => simp only [List.cons_append, tot, ih]; omega
theorem last_eq {l : Row} {p : Run} (h : l.getLast? = some p) : l = l.dropLast ++ [p] := by
 cases l with
 | nil => cases h
 | cons x l =>
  rw [List.getLast?_eq_some_getLast (List.cons_ne_nil x l)] at h
  injection h with h
  rw [← h]
  exact (List.dropLast_concat_getLast (List.cons_ne_nil x l)).symm
theorem snoc_tot (out : Row) (x : Run) : tot (snoc out x) = tot out + x.1.length := by
 unfold snoc
 split
 ·rename_i h; rw [h]; rfl
 ·split
  ·rename_i p hp
   split
   ·have := congrArg tot (last_eq hp)
    rw [tot_app] at this
    rw [tot_app]
    simp only [tot, List.length_append, Nat.add_zero] at this ⊢
    omega
   ·rw [tot_app]; simp [tot]
  ·rw [tot_app]; simp [tot]
theorem snoc_len (out : Row) (x : Run) : (snoc out x).length ≤ out.length + 1 := by
 unfold snoc
 split
 ·omega
 ·split
  ·split
   ·simp only [List.length_append, List.length_dropLast, List.length_singleton]; omega
   ·simp
  ·simp
theorem lget_last {out : Row} {p : Run} (h : out.getLast? = some p) (hb : out.length ≤ 100000000) (d : Run) : 0 < out.length ∧ w64 (isub (len out) 1) = ((out.length - 1 : Nat) : Int) ∧ lget out (toN (w64 (isub (len out) 1))) d = p := by
 have hl : 0 < out.length := by
  cases out with
  | nil => cases h
  | cons x l => simp
 have hw : w64 (isub (len out) 1) = ((out.length - 1 : Nat) : Int) := w64_pred hl (by omega)
 refine ⟨hl, hw, ?_⟩
 rw [hw, lget_i (show out.length - 1 < out.length by omega)]
 rw [List.getLast?_eq_getElem?, List.getElem?_eq_getElem (by omega)] at h
 injection h
theorem lset_last {out : Row} {p : Run} (h : out.getLast? = some p) (y : Run) : lset out (out.length - 1) y = out.dropLast ++ [y] := by
 have e := last_eq h
 have hl : out.length - 1 = out.dropLast.length := by simp
 rw [hl]
 conv => lhs; rw [e]
 unfold lset
 rw [List.set_append_right _ _ (by simp)]
 simp
theorem last_tot {out : Row} {p : Run} (h : out.getLast? = some p) : p.1.length ≤ tot out := by
 have := congrArg tot (last_eq h)
 rw [tot_app] at this
 simp only [tot, Nat.add_zero] at this
 omega
theorem tot_mem {l : Row} {x : Run} (h : x ∈ l) : x.1.length ≤ tot l := by
 induction l with
 | nil => cases h
 | cons y l ih =>
  simp only [tot]
  rcases List.mem_cons.1 h with rfl | h
  ·omega
  ·have := ih h; omega
def NI (l : Row) (i : Nat) (out : Row) : Prop := out.length ≤ i ∧ tot out + tot (l.drop i) = tot l
theorem NI_step {l : Row} {i : Nat} (h : i < l.length) {out : Row} (hI : NI l i out) : NI l (i + 1) (snoc out l[i]) := by
 refine ⟨Nat.le_trans (snoc_len _ _) (Nat.succ_le_succ hI.1), ?_⟩
 have := hI.2
 rw [List.drop_eq_getElem_cons h] at this
 rw [snoc_tot]
 simp only [tot] at this
 omega
theorem style_norm_eq {l : Row} (hl : l.length ≤ 4000000) (ht : tot l ≤ 8000000) : q69 fuelH l = some (normR l) := by
 unfold q69
 rw [jn_e]
 refine Eq.trans (lst_it (l := l) (fun (a : Row) (p : Nat) => ((p : Int), a)) (fun _ x a => .inr (snoc a x)) (fun a => some a) (NI l) (fun self a i hi hI => ?_) (fun self a _ => ?_) fuelH 0 [] (Nat.zero_le _) (by have := fuelH_eq; omega) ⟨Nat.le_refl _, by simp [tot]⟩) ?_
 ·refine ⟨?_, NI_step hi hI⟩
  have hI1 := hI.1
  have hb : tot a ≤ 8000000 := by have := hI.2; omega
  have hx : l[i].1.length ≤ 8000000 := Nat.le_trans (tot_mem (List.getElem_mem hi)) ht
  simp only
  rw [cnd_t (ilt_t (by simp only [len]; omega)), grd_t (inb_t (by simp only [len]; omega)), lget_i hi, w64_succ hi (by omega)]
  have hroom : room (iadd (len a) (len ([l[i]] : Row))) 40 = true := room_t (by simp only [iadd, len, List.length_singleton]; omega)
  rw [grd_t hroom]
  simp only [cnd_ite, seq_t]
  by_cases he : l[i].1 = []
  ·rw [if_pos he]; simp only [snoc, he, if_true]
  ·rw [if_neg he]
   cases hla : a.getLast? with
   | none =>
    have ha : a = [] := List.getLast?_eq_none_iff.1 hla
    subst ha
    rw [if_neg (show ¬ ilt (0 : Int) (len ([] : Row)) = true by decide)]
    simp only [snoc, if_neg he, hla]
    rfl
   | some p =>
    obtain ⟨q1, q2, q3⟩ := lget_last hla (by omega) ([], (((0 : UInt8), (false, false)), []))
    have hin : inb (w64 (isub (len a) 1)) (len a) = true := by rw [q2]; exact inb_t (by simp only [len]; omega)
    have hp := last_tot hla
    rw [if_pos (show ilt (0 : Int) (len a) = true from ilt_t (by simp only [len]; omega)), grd_t hin, q3, bnd_s (style_alike_eq _ _ _), grd_t hin, grd_t (show catOk (iadd (len p.1) (len l[i].1)) = true from decide_eq_true (by simp only [iadd, len]; omega)), grd_t hin, q2]
    simp only [decide_eq_true_eq, snoc, if_neg he, hla]
    by_cases hk : alikeP p l[i]
    ·rw [if_pos hk, if_pos hk]
     have : toN ((a.length - 1 : Nat) : Int) = a.length - 1 := by simp [toN]
     rw [this, lset_last hla]
     rfl
    ·rw [if_neg hk, if_neg hk]; rfl
 ·simp only
  rw [cnd_f (ilt_f (by simp only [len]; omega))]
 ·rw [List.drop_zero, itI_fold]
  rfl
theorem style_Norm_eq {l : Row} (hl : l.length ≤ 4000000) (ht : tot l ≤ 8000000) : q70 fuelH l = some (normR l) := by
 unfold q70
 rw [bnd_s (style_norm_eq hl ht)]
end Go.Mo
end
section
/-
 Plain facts: the bytes of rows.
-/
namespace Go.Mo
open Go Go.W Go.Lib
set_option maxRecDepth 100000
noncomputable section
theorem chkL_ok : ∀ (l : List Run) (p : Option Run), chkL p l = 0 → ∀ x ∈ l, vld x.1 = true ∧ x.1 ≠ [] ∧ n8 x.2.1.1 ≤ 6 ∧ vld x.2.2 = true
 | [], _, _, x, hx => by cases hx
 | y :: l, p, h, x, hx => by
  simp only [chkL] at h
  split at h
  ·rename_i hc; exact absurd h hc
  ·rename_i hc
   rcases List.mem_cons.1 hx with rfl | hx
   ·have hc : runChk p x = 0 := by simpa using hc
    unfold runChk at hc
    split at hc
    ·cases hc
    ·split at hc
     ·cases hc
     ·split at hc
      ·cases hc
      ·split at hc
       ·cases hc
       ·rename_i h1 h2 h3 h4
        exact ⟨by simpa using h1, h2, by omega, by simpa using h4⟩
   ·exact chkL_ok l _ h x hx
theorem rowChk_ok {l : Row} (h : rowChk l = 0) : l.length ≤ 16 ∧ ∀ x ∈ l, vld x.1 = true ∧ x.1 ≠ [] ∧ n8 x.2.1.1 ≤ 6 ∧ vld x.2.2 = true := by
 unfold rowChk at h
 split at h
 ·cases h
 ·exact ⟨by omega, chkL_ok l _ h⟩
def cost : Row → Nat
 | [] => 0
 | x :: r => 3 + x.1.length + cost r
theorem cost_eq (l : Row) : cost l = 3 * l.length + tot l := by
 induction l with
 | nil => rfl
 | cons x l ih => simp only [cost, tot, List.length_cons, ih]; omega
def shortL (l : List Row) : Prop := ∀ r ∈ l, shortR r
end
end Go.Mo
end
section
/-
 Plain facts: rows that are read from bytes, on both sides.
-/
namespace Go.Mo
open Go Go.W Go.Lib
set_option maxRecDepth 100000
noncomputable section
def g1 (a : UInt8) : Option Int := if 32 ≤ n8 a ∧ n8 a < 127 then some (n8 a) else (sgF a).map (·.1)
def g2 (a b : UInt8) : Int × Int := (acG (accR a) b).getD (0, 0)
theorem enc_len4 {r : Int} (h : inRep r = true) : (enc r).length ≤ 4 := enc_len h
end
end Go.Mo
end
section
/-
 Plain facts: rows that are read by the reference; equality of rows; StlTexts returns true.
-/
namespace Go.Mo
open Go Go.W Go.Lib
set_option maxRecDepth 100000
noncomputable section
theorem run_eq {a b : Run} : (a = b) = (a.1 = b.1 ∧ a.2.1 = b.2.1 ∧ a.2.2 = b.2.2) := by
 obtain ⟨a1, a2, a3⟩ := a; obtain ⟨b1, b2, b3⟩ := b; simp
theorem same_fold {α : Type} : ∀ (l m : List α) [DecidableEq α], l.length = m.length → ∀ i, itI (fun i (x : α) (_ : Unit) => if some x = m[i]? then (.inr () : Option Bool ⊕ Unit) else .inl (some false)) (fun _ => some true) i (l.drop i) () = some (decide (l.drop i = m.drop i)) := by
 intro l m _ hl i
 generalize hr : l.drop i = r
 induction r generalizing i with
 | nil =>
  have h1 : l.length ≤ i := by have := congrArg List.length hr; simp at this; omega
  have : m.drop i = [] := by rw [List.drop_eq_nil_iff]; omega
  rw [this]; simp [itI]
 | cons x r ih =>
  have hx : l[i]? = some x := by rw [← List.head?_drop, hr]; rfl
  have hi := (List.getElem?_eq_some_iff.1 hx).1
  have hr' : l.drop (i + 1) = r := by rw [← List.drop_drop, hr]; rfl
  have hm : m.drop i = m[i] :: m.drop (i + 1) := List.drop_eq_getElem_cons (by omega)
  rw [hm]
  simp only [itI]
  by_cases h : some x = m[i]?
  ·rw [if_pos h]
   simp only
   rw [ih (i + 1) hr']
   rw [List.getElem?_eq_getElem (by omega)] at h
   injection h with h
   exact congrArg some (decide_eq_decide.2 ⟨fun e => by rw [h, e], fun e => by injection e⟩)
  ·rw [if_neg h]
   rw [List.getElem?_eq_getElem (by omega)] at h
   have : x ≠ m[i] := fun e => h (by rw [e])
   exact congrArg some (decide_eq_false fun e => this (by injection e)).symm
theorem eqRuns (a b : Row) (hl : a.length ≤ 4000000) : q111 fuelH (a, b) = some (decide (a = b)) := by
 unfold q111
 by_cases h : a.length = b.length
 ·rw [cnd_f (ine_f (by simp only [len]; omega)), jn_e]
  refine Eq.trans (lst_it (l := a) (fun (_ : Unit) (p : Nat) => (p : Int)) (fun i (x : Run) (_ : Unit) => if some x = b[i]? then .inr () else .inl (some false)) (fun _ => some true) (fun _ _ => True) (fun self _ i hi _ => ?_) (fun self _ _ => ?_) fuelH 0 () (Nat.zero_le _) (by have := fuelH_eq; omega) trivial) ?_
  ·have hb : i < b.length := by omega
   have e : cnd (ilt (i : Int) (len a)) (grd (inb (i : Int) (len a)) (grd (inb (i : Int) (len b)) (cnd (bnot (band (seq (lget a (toN (i : Int)) ([], (((0 : UInt8), (false, false)), []))).1 (lget b (toN (i : Int)) ([], (((0 : UInt8), (false, false)), []))).1) (band (band (ieq (n8 (lget a (toN (i : Int)) ([], (((0 : UInt8), (false, false)), []))).2.1.1) (n8 (lget b (toN (i : Int)) ([], (((0 : UInt8), (false, false)), []))).2.1.1)) (band (beqb (lget a (toN (i : Int)) ([], (((0 : UInt8), (false, false)), []))).2.1.2.1 (lget b (toN (i : Int)) ([], (((0 : UInt8), (false, false)), []))).2.1.2.1) (beqb (lget a (toN (i : Int)) ([], (((0 : UInt8), (false, false)), []))).2.1.2.2 (lget b (toN (i : Int)) ([], (((0 : UInt8), (false, false)), []))).2.1.2.2))) (seq (lget a (toN (i : Int)) ([], (((0 : UInt8), (false, false)), []))).2.2 (lget b (toN (i : Int)) ([], (((0 : UInt8), (false, false)), []))).2.2)))) (some false) (self (w64 (iadd (i : Int) 1)))))) (some true) = if a[i] = b[i] then self ((i + 1 : Nat) : Int) else some false := by
    rw [cnd_t (ilt_t (by simp only [len]; omega)), grd_t (inb_t (by simp only [len]; omega)), grd_t (inb_t (by simp only [len]; omega)), lget_i hi, lget_i hb, w64_succ hi (by omega), cnd_ite]
    simp only [bnot_t, Bool.eq_false_iff, ne_eq, band_tt, seq_t, ieq_tt, beqb_t, n8_eq, ← sty_eq, ← run_eq]
    by_cases hc : a[i] = b[i]
    ·rw [if_neg (by simpa using hc), if_pos hc]
    ·rw [if_pos hc, if_neg hc]
   rw [List.getElem?_eq_getElem hb]
   by_cases hc : a[i] = b[i]
   ·rw [if_pos (by rw [hc])]
    exact ⟨e.trans (if_pos hc), trivial⟩
   ·rw [if_neg (fun h => hc (by injection h))]
    exact e.trans (if_neg hc)
  ·simp only
   rw [cnd_f (ilt_f (by simp only [len]; omega))]
  ·exact same_fold a b h 0
 ·rw [cnd_t (ine_t (by simp only [len]; omega))]
  have : a ≠ b := fun e => h (by rw [e])
  simp [this]
theorem same_row (a b : Row) (hl : a.length ≤ 4000000) : q112 fuelH (a, b) = some (decide (a = b)) := by
 unfold q112
 rw [eqRuns a b hl, bnd_some']
theorem same_rows (a b : List Row) (hl : a.length ≤ 4000000) (h : ∀ r ∈ a, r.length ≤ 4000000) : q116 fuelH (a, b) = some (decide (a = b)) := by
 unfold q116 q115
 by_cases hab : a.length = b.length
 ·rw [cnd_f (ine_f (by simp only [len]; omega)), jn_e]
  have : ∀ X : Option Bool, (bnd X fun v0 => some v0) = X := fun X => by cases X <;> rfl
  rw [this]
  refine Eq.trans (lst_it (l := a) (fun (_ : Unit) (p : Nat) => (p : Int)) (fun i (x : Row) (_ : Unit) => if some x = b[i]? then .inr () else .inl (some false)) (fun _ => some true) (fun _ _ => True) (fun self _ i hi _ => ?_) (fun self _ _ => ?_) fuelH 0 () (Nat.zero_le _) (by have := fuelH_eq; omega) trivial) ?_
  ·have hb : i < b.length := by omega
   have e : cnd (ilt (i : Int) (len a)) (grd (inb (i : Int) (len a)) (grd (inb (i : Int) (len b)) (bnd (q112 fuelH (lget a (toN (i : Int)) [], lget b (toN (i : Int)) [])) fun v4 => cnd (bnot v4) (some false) (self (w64 (iadd (i : Int) 1)))))) (some true) = if a[i] = b[i] then self ((i + 1 : Nat) : Int) else some false := by
    rw [cnd_t (ilt_t (by simp only [len]; omega)), grd_t (inb_t (by simp only [len]; omega)), grd_t (inb_t (by simp only [len]; omega)), lget_i hi, lget_i hb, w64_succ hi (by omega), same_row _ _ (h _ (List.getElem_mem hi)), bnd_some', cnd_bnot]
   rw [List.getElem?_eq_getElem hb]
   by_cases hc : a[i] = b[i]
   ·rw [if_pos (by rw [hc])]
    exact ⟨e.trans (if_pos hc), trivial⟩
   ·rw [if_neg (fun h => hc (by injection h))]
    exact e.trans (if_neg hc)
  ·simp only
   rw [cnd_f (ilt_f (by simp only [len]; omega))]
  ·exact same_fold a b hab 0
 ·rw [cnd_t (ine_t (by simp only [len]; omega))]
  have : a ≠ b := fun e => hab (by rw [e])
  simp [this, bnd_some']
end
end Go.Mo
end
section
/-
 Plain facts: StlTexts returns true.
-/
namespace Go.Mo
open Go Go.W Go.Lib
set_option maxRecDepth 100000
noncomputable section
theorem loop_inv {V R σ : Type} {F : (V → Option R) → V → Option R} {n : Nat} (st : σ → Nat → V) (I : Nat → σ → Prop) (r : Option R)
  (hstep : ∀ self a i, i < n → I i a → ∃ a', F self (st a i) = self (st a' (i + 1)) ∧ I (i + 1) a') (hend : ∀ self a, I n a → F self (st a n) = r) : ∀ (fuel i : Nat) (a : σ), i ≤ n → n - i < fuel → I i a → fixN F fuel (st a i) = r
 | 0, i, a, _, h, _ => by omega
 | fuel + 1, i, a, hi, h, hI => by
  rw [fixN_s]
  by_cases hl : i < n
  ·obtain ⟨a', h1, h2⟩ := hstep (fixN F fuel) a i hl hI
   rw [h1]
   exact loop_inv st I r hstep hend fuel (i + 1) a' (by omega) (by omega) h2
  ·obtain rfl : i = n := by omega
   exact hend _ _ hI
theorem bk_mem {α : Type} {f : α → Nat} {l : List α} {x : α} (h : x ∈ l) : f x ≤ bkL f l := by
 induction l with
 | nil => cases h
 | cons y l ih =>
  simp only [bkL]
  rcases List.mem_cons.1 h with rfl | h
  ·omega
  ·have := ih h; omega
theorem bk_len {α : Type} {f : α → Nat} (hf : ∀ x, 1 ≤ f x) (l : List α) : l.length ≤ bkL f l := by
 induction l with
 | nil => exact Nat.le_refl _
 | cons y l ih => have := hf y; simp only [bkL, List.length_cons]; omega
def wtU (x : Run) : Nat := x.1.length + 1 + (1 + (1 + 1) + (x.2.2.length + 1))
def wtR (r : Row) : Nat := bkL wtU r + 1
theorem cost_wt (r : Row) : cost r ≤ bkL wtU r := by
 induction r with
 | nil => exact Nat.le_refl _
 | cons x r ih => simp only [cost, bkL, wtU]; omega
theorem short_wt {l : List Row} {B : Nat} (h : bkL wtR l ≤ B) (hB : B ≤ 4000000) : shortL l := fun r hr x hx => by
 have h1 : bkL wtU r + 1 ≤ bkL wtR l := bk_mem (f := wtR) hr
 have h2 : x.1.length + 1 + (1 + (1 + 1) + (x.2.2.length + 1)) ≤ bkL wtU r := bk_mem (f := wtU) hx
 omega
theorem clone_rows {l : List Row} (h : l.length ≤ 4000000) : q98 fuelH l = some l := by
 have h1 : grd (room (iadd (len ([] : List Row)) (len l)) 24) (some (lapp ([] : List Row) l)) = some l := by
  rw [grd_t (room_t (by simp only [iadd, len, List.length_nil]; omega))]; rfl
 unfold q98
 cases l with
 | nil =>
  rw [cnd_f (by rfl)]
  exact univ_of rfl h1
 | cons r l =>
  rw [cnd_t (ine_t (by simp only [len, List.length_cons]; omega))]
  exact h1
theorem min_take {α : Type} (l : List α) (n : Nat) : ltake (toN (imin (len l) (n : Int))) l = l.take n ∧ in2 (imin (len l) (n : Int)) (len l) = true := by
 have e : toN (imin (len l) (n : Int)) = min l.length n := by simp only [toN, imin, len]; omega
 refine ⟨?_, in2_t (by simp only [imin, len]; omega)⟩
 rw [e]
 unfold ltake
 by_cases h : l.length ≤ n
 ·rw [Nat.min_eq_left h, List.take_length, List.take_of_length_le h]
 ·rw [Nat.min_eq_right (by omega)]
theorem fold_len : ∀ (l out : Row), (l.foldl snoc out).length ≤ out.length + l.length
 | [], out => Nat.le_refl _
 | x :: l, out => by
  have h1 := snoc_len out x
  have h2 := fold_len l (snoc out x)
  simp only [List.foldl_cons, List.length_cons]
  omega
theorem normR_len (l : Row) : (normR l).length ≤ l.length := by
 have := fold_len l []
 simpa [normR] using this
end
end Go.Mo
end
section
/-
 Plain facts: StlReturns returns true.
-/
namespace Go.Mo
open Go Go.W Go.Lib
set_option maxRecDepth 100000
noncomputable section
theorem snoc_ne {out : Row} {x : Run} (h : x.1 ≠ []) : snoc out x = match out.getLast? with
  | some p => if alikeP p x then out.dropLast ++ [(p.1 ++ x.1, p.2)] else out ++ [x]
  | none => out ++ [x] := by unfold snoc; rw [if_neg h]; all_goals (cases out.getLast? <;> rfl)
theorem snoc_last (m : Row) (a b : List UInt8) (s : Sty) (hb : b ≠ []) : snoc (m ++ [(a, s, [])]) (b, s, []) = m ++ [(a ++ b, s, [])] := by
 rw [snoc_ne hb]
 simp only [List.getLast?_append, List.getLast?_singleton, Option.some_or]
 rw [if_pos ⟨rfl, rfl, rfl⟩, List.dropLast_concat]
theorem snoc_snoc (out : Row) {a : List UInt8} (ha : a ≠ []) (b : List UInt8) (s : Sty) : snoc (snoc out (a, s, [])) (b, s, []) = snoc out (a ++ b, s, []) := by
 by_cases hb : b = []
 ·subst hb
  rw [List.append_nil]
  exact (if_pos rfl : (if ([] : List UInt8) = [] then snoc out (a, s, []) else _) = _)
 ·have hab : (a ++ b : List UInt8) ≠ [] := by simp [ha]
  rw [snoc_ne (x := (a, s, [])) ha, snoc_ne (x := (a ++ b, s, [])) hab]
  cases out.getLast? with
  | none => exact snoc_last _ _ _ _ hb
  | some p =>
   simp only
   by_cases hp : p.2.1 = s ∧ p.2.2 = []
   ·have h1 : alikeP p (a, s, []) := ⟨hp.1, hp.2, rfl⟩
    have h2 : alikeP p (a ++ b, s, []) := ⟨hp.1, hp.2, rfl⟩
    rw [if_pos h1, if_pos h2]
    have e : p.2 = (s, []) := by rw [← hp.1, ← hp.2]
    rw [e, snoc_last _ _ _ _ hb, List.append_assoc]
   ·have h1 : ¬ alikeP p (a, s, []) := fun h => hp ⟨h.1, h.2.1⟩
    have h2 : ¬ alikeP p (a ++ b, s, []) := fun h => hp ⟨h.1, h.2.1⟩
    rw [if_neg h1, if_neg h2, snoc_last _ _ _ _ hb]
theorem tot_cost (l : Row) : tot l ≤ cost l := by rw [cost_eq]; omega
end
end Go.Mo
end
section
/-
 Plain facts: regions, their check, a region by its name, the places of rows.
-/
namespace Go.Mo
open Go Go.W Go.Lib
set_option maxRecDepth 100000
noncomputable section
abbrev Reg := List UInt8 × Int × Int × Int × Int × UInt8 × Bool
abbrev Spot := Int × Int × Int
theorem from_eq (N : Nat) (a b c : Int) : q20 N (a, b, c) = some (decide (b ≤ a ∧ a ≤ c)) := by
 unfold q20
 rw [cnd_ile]
 by_cases h : b ≤ a
 ·simp [h, ile]
 ·simp [h]
def regChk (r : Reg) : Int :=
 if nm r.1 = false then 5 else
 if ¬ (0 ≤ r.2.1 ∧ r.2.1 ≤ 14) then 2 else
 if ¬ (1 ≤ r.2.2.1 ∧ r.2.2.1 ≤ 15 - r.2.1) then 2 else
 if ¬ (0 ≤ r.2.2.2.1 ∧ r.2.2.2.1 ≤ 31) then 2 else
 if ¬ (1 ≤ r.2.2.2.2.1 ∧ r.2.2.2.2.1 ≤ 32 - r.2.2.2.1) then 2 else
 if ¬ (1 ≤ n8 r.2.2.2.2.2.1 ∧ n8 r.2.2.2.2.2.1 ≤ 3) then 3 else 0
theorem dec_f {p : Prop} [Decidable p] : (decide p = false) = ¬ p := by by_cases h : p <;> simp [h]
theorem region_check (r : Reg) : q21 fuelH r = some (regChk r) := by
 unfold q21 regChk
 rw [lines_name, bnd_some']
 simp only [from_eq, bnd_some', cnd_ite, bnot_t, dec_f, ilt_tt]
 have e1 : n8 (1 : UInt8) = 1 := rfl
 have e3 : n8 (3 : UInt8) = 3 := rfl
 rw [e1, e3]
 by_cases h0 : nm r.1 = false
 ·rw [if_pos h0, if_pos h0]
 rw [if_neg h0, if_neg h0]
 by_cases h1 : 0 ≤ r.2.1 ∧ r.2.1 ≤ 14
 ·rw [if_neg (not_not_intro h1), if_neg (not_not_intro h1)]
  have w1 : w64 (isub 15 r.2.1) = 15 - r.2.1 := by unfold isub; rw [w64_id (by omega)]
  rw [w1]
  by_cases h2 : 1 ≤ r.2.2.1 ∧ r.2.2.1 ≤ 15 - r.2.1
  ·rw [if_neg (not_not_intro h2), if_neg (not_not_intro h2)]
   by_cases h3 : 0 ≤ r.2.2.2.1 ∧ r.2.2.2.1 ≤ 31
   ·rw [if_neg (not_not_intro h3), if_neg (not_not_intro h3)]
    have w2 : w64 (isub 32 r.2.2.2.1) = 32 - r.2.2.2.1 := by unfold isub; rw [w64_id (by omega)]
    rw [w2]
    by_cases h4 : 1 ≤ r.2.2.2.2.1 ∧ r.2.2.2.2.1 ≤ 32 - r.2.2.2.1
    ·rw [if_neg (not_not_intro h4), if_neg (not_not_intro h4)]
     by_cases h5 : n8 r.2.2.2.2.2.1 < 1
     ·rw [if_pos h5, if_pos (by omega)]
     ·rw [if_neg h5]
      by_cases h6 : 3 < n8 r.2.2.2.2.2.1
      ·rw [if_pos h6, if_pos (by omega)]
      ·rw [if_neg h6, if_neg (by omega)]
    ·rw [if_pos h4, if_pos h4]
   ·rw [if_pos h3, if_pos h3]
  ·rw [if_pos h2, if_pos h2]
 ·rw [if_pos h1, if_pos h1]
def chkRegs : Option Reg → List Reg → Int
 | _, [] => 0
 | p, r :: l => if regChk r ≠ 0 then regChk r else match p with
  | none => chkRegs (some r) l
  | some q => if r.1 = q.1 then 7 else if slt r.1 q.1 = true then 8 else chkRegs (some r) l
def regsChk (l : List Reg) : Int := if 16 < l.length then 9 else chkRegs none l
def regRnd (p : Option Reg) (r : Reg) : Option Int ⊕ Unit := if regChk r ≠ 0 then .inl (some (regChk r)) else match p with
  | none => .inr ()
  | some q => if r.1 = q.1 then .inl (some 7) else if slt r.1 q.1 = true then .inl (some 8) else .inr ()
theorem itI_regs (l : List Reg) : ∀ (r : List Reg) (i : Nat), l.drop i = r → i ≤ l.length → itI (fun i x (_ : Unit) => regRnd (before l i) x) (fun _ => some (0 : Int)) i r () = some (chkRegs (before l i) r)
 | [], i, _, _ => rfl
 | x :: r, i, h, hi => by
  have hx : l[i]? = some x := by rw [← List.head?_drop, h]; rfl
  have hr : l.drop (i + 1) = r := by rw [← List.drop_drop, h]; rfl
  have hl : i < l.length := (List.getElem?_eq_some_iff.1 hx).1
  simp only [itI, chkRegs, regRnd]
  have e : before l (i + 1) = some x := hx
  have ih := itI_regs l r (i + 1) hr (by omega)
  rw [e] at ih
  by_cases hc : regChk x ≠ 0
  ·rw [if_pos hc, if_pos hc]
  ·rw [if_neg hc, if_neg hc]
   cases before l i with
   | none => exact ih
   | some q =>
    simp only
    by_cases h7 : x.1 = q.1
    ·rw [if_pos h7, if_pos h7]
    ·rw [if_neg h7, if_neg h7]
     by_cases h8 : slt x.1 q.1 = true
     ·rw [if_pos h8, if_pos h8]
     ·rw [if_neg h8, if_neg h8]
      exact ih
theorem region_list (l : List Reg) : q22 fuelH l = some (regsChk l) := by
 unfold q22
 by_cases h : 16 < l.length
 ·rw [cnd_t (ilt_t (by simp only [len]; omega))]; simp [regsChk, h]
 ·rw [cnd_f (ilt_f (by simp only [len]; omega)), jn_e]
  refine Eq.trans (lst_it (l := l) (fun (_ : Unit) (p : Nat) => (p : Int)) (fun i x (_ : Unit) => regRnd (before l i) x) (fun _ => some (0 : Int)) (fun _ _ => True) (fun self a i hi _ => ?_) (fun self a _ => ?_) fuelH 0 () (Nat.zero_le _) (by have := fuelH_eq; omega) trivial) ?_
  ·rw [cnd_t (ilt_t (by simp only [len]; omega)), grd_t (inb_t (by simp only [len]; omega)), lget_i hi, bnd_s (region_check _)]
   unfold regRnd
   by_cases hc : regChk l[i] ≠ 0
   ·rw [if_pos hc, cnd_t (ine_t hc)]; rfl
   ·rw [if_neg hc, cnd_f (ine_f (by simpa using hc)), jn_e, w64_succ hi (by omega)]
    cases i with
    | zero =>
     rw [cnd_f (by rfl), cnd_f (by rfl)]
     exact ⟨rfl, trivial⟩
    | succ i =>
     have e0 : before l (i + 1) = some l[i] := by simp only [before]; exact List.getElem?_eq_getElem (by omega)
     have hin : inb ((i : Nat) : Int) (len l) = true := inb_t (by simp only [len]; omega)
     have hp : ilt (0 : Int) ((i + 1 : Nat) : Int) = true := ilt_t (by omega)
     rw [e0, cnd_t hp, w64_back (by omega), grd_t hin, lget_i (show i < l.length by omega), cnd_t hp, grd_t hin]
     simp only
     by_cases h7 : l[i + 1].1 = l[i].1
     ·rw [if_pos h7, cnd_t (by rw [seq_t]; exact h7)]; rfl
     ·rw [if_neg h7, cnd_f (by rw [← Bool.not_eq_true, seq_t]; exact h7)]
      by_cases h8 : slt l[i + 1].1 l[i].1 = true
      ·rw [if_pos h8, cnd_t h8]; rfl
      ·rw [if_neg h8, cnd_f (by simpa using h8)]
       exact ⟨rfl, trivial⟩
  ·rw [cnd_f (ilt_f (by simp only [len]; omega))]
  ·rw [List.drop_zero, itI_regs l l 0 rfl (Nat.zero_le _)]
   simp [regsChk, h, before]
def defR : Reg := ([], 11, 4, 0, 32, 2, true)
def noR : Reg := ([], 0, 0, 0, 0, 0, false)
def findR (l : List Reg) (n : List UInt8) : Option Reg := if n = [] then some defR else l.find? fun r => decide (r.1 = n)
def findP (l : List Reg) (n : List UInt8) : Reg × Bool := match findR l n with
 | some r => (r, true)
 | none => (noR, false)
theorem itI_find (n : List UInt8) : ∀ (l : List Reg) (i : Nat), itI (fun _ (x : Reg) (_ : Unit) => if x.1 = n then (.inl (some (x, true)) : Option (Reg × Bool) ⊕ Unit) else .inr ()) (fun _ => some (noR, false)) i l () = some (match l.find? fun r => decide (r.1 = n) with | some r => (r, true) | none => (noR, false))
 | [], _ => rfl
 | x :: l, i => by
  simp only [itI, List.find?_cons]
  by_cases h : x.1 = n
  ·rw [if_pos h, decide_eq_true h]
  ·rw [if_neg h, decide_eq_false h]
   exact itI_find n l (i + 1)
theorem region_find (l : List Reg) (hl : l.length ≤ 4000000) (n : List UInt8) : q24 fuelH (l, n) = some (findP l n) := by
 unfold q24 findP findR
 simp only
 by_cases h : n = []
 ·rw [cnd_t (by rw [seq_t]; exact h), if_pos h]; rfl
 ·rw [cnd_f (by rw [← Bool.not_eq_true, seq_t]; exact h), if_neg h, jn_e]
  refine Eq.trans (lst_it (l := l) (fun (_ : Unit) (p : Nat) => (p : Int)) (fun _ (x : Reg) (_ : Unit) => if x.1 = n then .inl (some (x, true)) else .inr ()) (fun _ => some (noR, false)) (fun _ _ => True) (fun self a i hi _ => ?_) (fun self a _ => ?_) fuelH 0 () (Nat.zero_le _) (by have := fuelH_eq; omega) trivial) (itI_find n l 0)
  ·have hin : inb (i : Int) (len l) = true := inb_t (by simp only [len]; omega)
   rw [cnd_t (ilt_t (by simp only [len]; omega)), grd_t hin, lget_i hi]
   by_cases hc : l[i].1 = n
   ·rw [if_pos hc, cnd_t (by rw [seq_t]; exact hc)]; rfl
   ·rw [if_neg hc, cnd_f (by rw [← Bool.not_eq_true, seq_t]; exact hc), w64_succ hi (by omega)]
    exact ⟨rfl, trivial⟩
  ·rw [cnd_f (ilt_f (by simp only [len]; omega))]
   rfl
end
end Go.Mo
end
section
/-
 Plain facts: the places of rows.
-/
namespace Go.Mo
open Go Go.W Go.Lib
set_option maxRecDepth 100000
noncomputable section
def usableR (r : Reg) : Prop := r = defR ∨ regChk r = 0
instance (r : Reg) : Decidable (usableR r) := by unfold usableR; infer_instance
theorem reg_eq {a b : Reg} : (a = b) = (a.1 = b.1 ∧ a.2.1 = b.2.1 ∧ a.2.2.1 = b.2.2.1 ∧ a.2.2.2.1 = b.2.2.2.1 ∧ a.2.2.2.2.1 = b.2.2.2.2.1 ∧ a.2.2.2.2.2.1 = b.2.2.2.2.2.1 ∧ a.2.2.2.2.2.2 = b.2.2.2.2.2.2) := by
 obtain ⟨a1, a2, a3, a4, a5, a6, a7⟩ := a; obtain ⟨b1, b2, b3, b4, b5, b6, b7⟩ := b; simp
theorem def_band (x : Reg) : (band (seq x.1 defR.1) (band (ieq x.2.1 defR.2.1) (band (ieq x.2.2.1 defR.2.2.1) (band (ieq x.2.2.2.1 defR.2.2.2.1) (band (ieq x.2.2.2.2.1 defR.2.2.2.2.1) (band (ieq (n8 x.2.2.2.2.2.1) (n8 defR.2.2.2.2.2.1)) (beqb x.2.2.2.2.2.2 defR.2.2.2.2.2.2)))))) = true) = (x = defR) := by
 simp only [band_tt, seq_t, ieq_tt, beqb_t, n8_eq]
 exact reg_eq.symm
theorem region_usable_eq (r : Reg) : q38 fuelH r = some (decide (usableR r)) := by
 unfold q38
 rw [bnd_s (show q23 fuelH () = some defR from rfl), region_check, bnd_some']
 by_cases h : r = defR
 ·rw [cnd_t ((def_band r).mpr h), @decide_eq_true (usableR r) _ (.inl h)]
 ·rw [cnd_f (by rw [← Bool.not_eq_true]; exact fun k => h ((def_band r).mp k))]
  congr 1
  by_cases h2 : regChk r = 0
  ·rw [ieq_t h2, @decide_eq_true (usableR r) _ (.inr h2)]
  ·rw [ieq_f h2, @decide_eq_false (usableR r) _ (fun k => k.elim h h2)]
theorem usable_bd {r : Reg} (h : usableR r) : 0 ≤ r.2.1 ∧ 1 ≤ r.2.2.1 ∧ r.2.1 + r.2.2.1 ≤ 15 ∧ 0 ≤ r.2.2.2.1 ∧ 1 ≤ r.2.2.2.2.1 ∧ r.2.2.2.1 + r.2.2.2.2.1 ≤ 32 ∧ 1 ≤ n8 r.2.2.2.2.2.1 ∧ n8 r.2.2.2.2.2.1 ≤ 3 := by
 rcases h with rfl | h
 ·decide
 ·unfold regChk at h
  split at h
  ·cases h
  split at h
  ·cases h
  split at h
  ·cases h
  split at h
  ·cases h
  split at h
  ·cases h
  split at h
  ·cases h
  omega
def colOf (r : Reg) (n : Int) : Int := if n8 r.2.2.2.2.2.1 = 3 then r.2.2.2.1 + (r.2.2.2.2.1 - n) else if n8 r.2.2.2.2.2.1 = 2 then r.2.2.2.1 + (r.2.2.2.2.1 - n).tdiv 2 else r.2.2.2.1
def topOf (r : Reg) (k : Nat) : Int := if r.2.2.2.2.2.2 = true then r.2.1 + (r.2.2.1 - (k : Int)) else r.2.1
def plRnd (r : Reg) (k : Nat) (i : Nat) (n : Int) (out : List Spot) : Option (List Spot × Int) ⊕ List Spot :=
 if n < 0 then .inl (some ([], 2)) else if r.2.2.2.2.1 < n then .inl (some ([], 11)) else .inr (out ++ [(topOf r k + (i : Int), colOf r n, n)])
def placeL (r : Reg) (k : Nat) : Nat → List Int → List Spot → List Spot × Int
 | _, [], out => (out, 0)
 | i, n :: l, out => if n < 0 then ([], 2) else if r.2.2.2.2.1 < n then ([], 11) else placeL r k (i + 1) l (out ++ [(topOf r k + (i : Int), colOf r n, n)])
def placeS (r : Reg) (l : List Int) : List Spot × Int := if ¬ usableR r then ([], 1) else if r.2.2.1 < (l.length : Int) then ([], 9) else placeL r l.length 0 l []
theorem itI_place (r : Reg) (k : Nat) : ∀ (l : List Int) (i : Nat) (out : List Spot), itI (plRnd r k) (fun a => some (a, (0 : Int))) i l out = some (placeL r k i l out)
 | [], i, out => rfl
 | n :: l, i, out => by
  simp only [itI, placeL, plRnd]
  by_cases h1 : n < 0
  ·rw [if_pos h1, if_pos h1]
  ·rw [if_neg h1, if_neg h1]
   by_cases h2 : r.2.2.2.2.1 < n
   ·rw [if_pos h2, if_pos h2]
   ·rw [if_neg h2, if_neg h2]
    exact itI_place r k l (i + 1) _
theorem jn_cnd {α β : Type} (K : α → Option β) (b : Bool) (x y : α) : jn K (fun v => cnd b (v x) (v y)) = K (if b = true then x else y) := by
 rw [jn_e]; cases b <;> rfl
theorem half_bd {x : Int} (h : 0 ≤ x) : 0 ≤ x.tdiv 2 ∧ x.tdiv 2 ≤ x := by
 rw [Int.tdiv_eq_ediv_of_nonneg h]; omega
theorem spot_w {r : Reg} (hu : usableR r) {k i : Nat} {n : Int} (hk : (k : Int) ≤ r.2.2.1) (hi : i < k) (h0 : 0 ≤ n) (hn : n ≤ r.2.2.2.2.1) :
  w64 (iadd (topOf r k) (i : Int)) = topOf r k + (i : Int) ∧ w64 (isub r.2.2.2.2.1 n) = r.2.2.2.2.1 - n ∧ w64 (iadd r.2.2.2.1 (r.2.2.2.2.1 - n)) = r.2.2.2.1 + (r.2.2.2.2.1 - n) ∧ w64 (idiv (r.2.2.2.2.1 - n) 2) = (r.2.2.2.2.1 - n).tdiv 2 ∧ w64 (iadd r.2.2.2.1 ((r.2.2.2.2.1 - n).tdiv 2)) = r.2.2.2.1 + (r.2.2.2.2.1 - n).tdiv 2 := by
 have hb := usable_bd hu
 have hd := half_bd (x := r.2.2.2.2.1 - n) (by omega)
 refine ⟨?_, ?_, ?_, ?_, ?_⟩
 ·unfold iadd topOf
  rw [w64_id]
  split <;> omega
 ·unfold isub; rw [w64_id (by omega)]
 ·unfold iadd; rw [w64_id (by omega)]
 ·unfold idiv; rw [w64_id (by omega)]
 ·unfold iadd; rw [w64_id (by omega)]
theorem region_place (r : Reg) (l : List Int) : q39 fuelH (r, l) = some (placeS r l) := by
 unfold q39 placeS
 simp only
 rw [region_usable_eq, bnd_some', cnd_bnot]
 by_cases hu : usableR r
 ·rw [if_pos hu, if_neg (not_not_intro hu)]
  have hb := usable_bd hu
  by_cases hk : r.2.2.1 < (l.length : Int)
  ·rw [cnd_t (ilt_t (show r.2.2.1 < len l from hk)), if_pos hk]
  ·rw [cnd_f (ilt_f (show ¬ r.2.2.1 < len l from hk)), if_neg hk, jn_cnd]
   have et : (if r.2.2.2.2.2.2 = true then w64 (iadd r.2.1 (w64 (isub r.2.2.1 (len l)))) else r.2.1) = topOf r l.length := by
    unfold topOf
    have e1 : w64 (isub r.2.2.1 (len l)) = r.2.2.1 - (l.length : Int) := by unfold isub len; rw [w64_id (by omega)]
    rw [e1]
    unfold iadd
    rw [w64_id (by omega)]
   rw [et, jn_e]
   refine Eq.trans (lst_it (l := l) (fun (a : List Spot) (p : Nat) => (a, (p : Int))) (plRnd r l.length) (fun a => some (a, (0 : Int))) (fun i a => a.length ≤ i) (fun self a i hi ha => ?_) (fun self a _ => ?_) fuelH 0 [] (Nat.zero_le _) (by have := fuelH_eq; omega) (Nat.le_refl _)) (itI_place r l.length l 0 [])
   ·have hin : inb (i : Int) (len l) = true := inb_t (by simp only [len]; omega)
    simp only
    rw [cnd_t (ilt_t (by simp only [len]; omega)), grd_t hin, lget_i hi, w64_succ hi (by omega)]
    unfold plRnd
    by_cases h1 : l[i] < 0
    ·rw [if_pos h1, cnd_t (ilt_t h1)]; rfl
    ·rw [if_neg h1, cnd_f (ilt_f h1)]
     by_cases h2 : r.2.2.2.2.1 < l[i]
     ·rw [if_pos h2, cnd_t (ilt_t h2)]; rfl
     ·rw [if_neg h2, cnd_f (ilt_f h2)]
      obtain ⟨q1, q2, q3, q4, q5⟩ := spot_w hu (k := l.length) (i := i) (n := l[i]) (by omega) hi (by omega) (by omega)
      have hroom : ∀ s : Spot, room (iadd (len a) (len [s])) 24 = true := fun s => room_t (by simp only [iadd, len, List.length_singleton]; omega)
      rw [q1, q2, q3, q4, q5]
      rw [grd_t (hroom _), grd_t (hroom _), grd_t (hroom _)]
      refine ⟨?_, by simp only [List.length_append, List.length_singleton]; omega⟩
      unfold colOf
      have e3 : n8 (3 : UInt8) = 3 := rfl
      have e2 : n8 (2 : UInt8) = 2 := rfl
      rw [cnd_ieq, cnd_ieq, e3, e2]
      by_cases c3 : n8 r.2.2.2.2.2.1 = 3
      ·rw [if_pos c3, if_pos c3]; rfl
      ·rw [if_neg c3, if_neg c3]
       by_cases c2 : n8 r.2.2.2.2.2.1 = 2
       ·rw [if_pos c2, if_pos c2]; rfl
       ·rw [if_neg c2, if_neg c2]; rfl
   ·simp only
    rw [cnd_f (ilt_f (by simp only [len]; omega))]
 ·rw [if_neg hu, if_pos hu]
end
end Go.Mo
end
section
/-
 Plain facts: the text and the length of a row; events and their check.
-/
namespace Go.Mo
open Go Go.W Go.Lib
set_option maxRecDepth 100000
noncomputable section
abbrev Ev := Int × (Int × Int) × List UInt8 × UInt8 × List UInt8 × List Row
theorem rune_count {s : List UInt8} (hs : s.length ≤ 4000000) : q33 fuelH s = some ((rns s).length : Int) := by
 unfold q33
 rw [jn_e]
 have hf : ∀ (l : List Int) (n : Nat), n + l.length ≤ 100000000 → foldR (fun (_ : Int) (a : Int) self => self (w64 (iadd a 1))) (fun a => some a) l (n : Int) = some ((n + l.length : Nat) : Int) := by
  intro l
  induction l with
  | nil => intro n _; rfl
  | cons r l ih =>
   intro n hn
   simp only [List.length_cons] at hn
   simp only [foldR]
   rw [w64_succ (show n < n + 1 by omega) (by omega), ih (n + 1) (by omega)]
   simp only [List.length_cons]
   congr 2
   omega
 refine (str_loop (s := s) (fun (a : Int) (p : Nat) => (a, s, ofN p)) (fun _ a self => self (w64 (iadd a 1))) (fun a => some a) (fun self a p hp => ?_) (fun self a p hp => ?_) fuelH 0 (0 : Int) (by have := fuelH_eq; omega)).trans ?_
 ·simp only [toN_ofN]
  rw [cnd_t (nlt_t (show p < nlen s from hp))]
  rfl
 ·simp only [toN_ofN]
  rw [cnd_f (nlt_f (show ¬ p < nlen s by unfold nlen; omega))]
 ·have := rns_len _ s (Nat.le_refl _)
  have h := hf (rns s) 0 (by omega)
  rw [List.drop_zero]
  simpa using h
theorem ch_len {s : List UInt8} (hs : s.length ≤ 4000000) (hv : vld s = true) : q34 fuelH s = some ((rns s).length : Int) := by
 unfold q34
 rw [ch_valid _ hs, bnd_some', hv, cnd_f (by rfl), rune_count hs]
 rfl
def lenT : Row → Nat
 | [] => 0
 | x :: l => (rns x.1).length + lenT l
def plainT (l : Row) : List UInt8 := l.flatMap (·.1)
def okR (l : Row) : Prop := l.length ≤ 16 ∧ (∀ x ∈ l, vld x.1 = true ∧ x.1.length ≤ 4000000) ∧ tot l ≤ 4000000
def smallR (l : Row) : Prop := shortR l ∧ tot l ≤ 4000000
def smallL (l : List Row) : Prop := ∀ r ∈ l, smallR r
theorem okR_of {l : Row} (hs : smallR l) (h : rowChk l = 0) : okR l := by
 obtain ⟨h1, h2⟩ := rowChk_ok h
 exact ⟨h1, fun x hx => ⟨(h2 x hx).1, (hs.1 x hx).1⟩, hs.2⟩
theorem lenT_le : ∀ (l : Row), (∀ x ∈ l, x.1.length ≤ 4000000) → lenT l ≤ 4000000 * l.length
 | [], _ => Nat.le_refl _
 | x :: l, h => by
  have h1 := rns_len _ x.1 (Nat.le_refl _)
  have h2 := h x List.mem_cons_self
  have h3 := lenT_le l fun y hy => h y (List.mem_cons_of_mem _ hy)
  simp only [lenT, List.length_cons]
  omega
theorem lenT_take : ∀ (l : Row) (i : Nat) (h : i < l.length), lenT (l.take (i + 1)) = lenT (l.take i) + (rns l[i].1).length
 | x :: l, 0, _ => by simp [lenT]
 | x :: l, i + 1, h => by
  have := lenT_take l i (by simpa using h)
  simp only [List.take_succ_cons, lenT, this, List.getElem_cons_succ]
  omega
theorem lenT_take_le (l : Row) (i : Nat) : lenT (l.take i) ≤ lenT l := by
 induction l generalizing i with
 | nil => simp [lenT]
 | cons x l ih => cases i with
  | zero => simp [lenT]
  | succ i => simp only [List.take_succ_cons, lenT]; have := ih i; omega
theorem len_loop {l : Row} (h : okR l) (L : List UInt8 → Option Int) (hL : ∀ s : List UInt8, s.length ≤ 4000000 → vld s = true → L s = some ((rns s).length : Int)) :
  fixN (fun (v2 : Int × Int → Option Int) (v3 : Int × Int) =>
  cnd (ilt v3.2 (len l))
   (grd (inb v3.2 (len l))
    (bnd (L (lget l (toN v3.2) ([], (((0 : UInt8), (false, false)), []))).1) fun v4 =>
    cnd (ilt v4 (0 : Int))
     (some (-1 : Int))
     (v2 (w64 (iadd v3.1 v4), w64 (iadd v3.2 (1 : Int))))))
   (some v3.1)) fuelH ((0 : Int), (0 : Int)) = some (lenT l : Int) := by
 have hb := lenT_le l fun x hx => (h.2.1 x hx).2
 have hl := h.1
 refine loop_inv (n := l.length) (fun (a : Nat) (i : Nat) => ((a : Int), (i : Int))) (fun i a => a = lenT (l.take i)) _ (fun self a i hi hI => ?_) (fun self a hI => ?_) fuelH 0 0 (Nat.zero_le _) (by have := fuelH_eq; omega) rfl
 ·refine ⟨a + (rns l[i].1).length, ?_, ?_⟩
  ·have ht := lenT_take l i hi
   have ht2 := lenT_take_le l (i + 1)
   simp only
   rw [cnd_t (ilt_t (by simp only [len]; omega)), grd_t (inb_t (by simp only [len]; omega)), lget_i hi, hL _ (h.2.1 _ (List.getElem_mem hi)).2 (h.2.1 _ (List.getElem_mem hi)).1, bnd_some', cnd_f (ilt_f (by omega)), w64_succ hi (by omega)]
   have e : w64 (iadd (a : Int) ((rns l[i].1).length : Int)) = ((a + (rns l[i].1).length : Nat) : Int) := by
    unfold iadd; rw [w64_id (by omega)]; omega
   rw [e]
  ·rw [lenT_take l i hi, hI]
 ·simp only
  rw [cnd_f (ilt_f (by simp only [len]; omega)), hI, List.take_length]
theorem style_len {l : Row} (h : okR l) : q35 fuelH l = some (lenT l : Int) := by
 unfold q35
 rw [jn_e]
 exact len_loop h (q34 fuelH) fun s => ch_len
theorem plainT_take (l : Row) (i : Nat) (h : i < l.length) : plainT (l.take (i + 1)) = plainT (l.take i) ++ l[i].1 := by
 unfold plainT
 rw [List.take_succ_eq_append_getElem h, List.flatMap_append]
 simp
theorem plainT_len : ∀ (l : Row), (plainT l).length = tot l
 | [] => rfl
 | x :: l => by
  have h3 := plainT_len l
  unfold plainT at h3 ⊢
  simp only [List.flatMap_cons, List.length_append, tot, h3]
theorem tot_take (l : Row) (i : Nat) : tot (l.take i) ≤ tot l := by
 have h := tot_app (l.take i) (l.drop i)
 rw [List.take_append_drop] at h
 omega
theorem plainT_le {l : Row} (h : okR l) (i : Nat) : (plainT (l.take i)).length ≤ 4000000 := by
 rw [plainT_len]
 have := tot_take l i
 have := h.2.2
 omega
theorem write_str {N : Nat} {a b : List UInt8} (h : a.length + b.length ≤ 100000000) : q31 N (((), a), b) = some ((b.length : Int), (), (), a ++ b) := by
 unfold q31
 show (grd (room (iadd (len a) (len b)) 1) (some (len b, (), (), lapp a b))) = _
 rw [grd_t (room_t (by simp only [iadd, len]; omega))]
 rfl
theorem style_plain {l : Row} (h : okR l) : q32 fuelH l = some (plainT l) := by
 unfold q32
 rw [jn_e]
 have hl := h.1
 refine loop_inv (n := l.length) (fun (a : List UInt8) (i : Nat) => ((i : Int), (), a)) (fun i a => a = plainT (l.take i)) _ (fun self a i hi hI => ?_) (fun self a hI => ?_) fuelH 0 [] (Nat.zero_le _) (by have := fuelH_eq; omega) rfl
 ·refine ⟨a ++ l[i].1, ?_, ?_⟩
  ·have h1 := plainT_le h i
   have h2 := (h.2.1 _ (List.getElem_mem hi)).2
   simp only
   rw [cnd_t (ilt_t (by simp only [len]; omega)), grd_t (inb_t (by simp only [len]; omega)), lget_i hi, write_str (by rw [hI]; omega), bnd_some', w64_succ hi (by omega)]
  ·rw [plainT_take l i hi, hI]
 ·simp only
  rw [cnd_f (ilt_f (by simp only [len]; omega)), hI, List.take_length]
def sp2 : List UInt8 → Bool
 | [] => false
 | [_] => false
 | a :: b :: t => ([32, 32] : List UInt8).isPrefixOf (a :: b :: t) || sp2 (b :: t)
theorem sp2_index : ∀ t : List UInt8, decide (0 ≤ index t [32, 32]) = sp2 t
 | [] => rfl
 | [a] => by
  have e : index [a] [32, 32] = if ([32, 32] : List UInt8).isPrefixOf [a] = true then 0 else if (index [] [32, 32] == -1) = true then -1 else index [] [32, 32] + 1 := rfl
  have hp : ([32, 32] : List UInt8).isPrefixOf [a] = false := by cases h : ((32 : UInt8) == a) <;> simp [List.isPrefixOf, h]
  rw [e, hp]
  rfl
 | a :: b :: t => by
  have ih := sp2_index (b :: t)
  have hg := index_ge (b :: t) [32, 32]
  have e : index (a :: b :: t) [32, 32] = if ([32, 32] : List UInt8).isPrefixOf (a :: b :: t) = true then 0 else if (index (b :: t) [32, 32] == -1) = true then -1 else index (b :: t) [32, 32] + 1 := rfl
  have e2 : sp2 (a :: b :: t) = (([32, 32] : List UInt8).isPrefixOf (a :: b :: t) || sp2 (b :: t)) := rfl
  rw [e, e2, ← ih]
  generalize index (b :: t) [32, 32] = m at hg ⊢
  cases ([32, 32] : List UInt8).isPrefixOf (a :: b :: t) with
  | true => rfl
  | false =>
   rw [if_neg (by decide), Bool.false_or]
   by_cases h1 : m = -1
   ·subst h1; rfl
   ·rw [if_neg (by simpa using h1), decide_eq_true (by omega), decide_eq_true (by omega)]
theorem sp2_contains (t : List UInt8) : contains t [32, 32] = sp2 t := sp2_index t
def neatT (t : List UInt8) : Bool := if t = [] then false else if n8 (lget t (toN (0 : Int)) 0) = n8 (32 : UInt8) then false else if n8 (lget t (toN (w64 (isub (len t) 1))) 0) = n8 (32 : UInt8) then false else !sp2 t
def rowE (l : Row) : Int := if rowChk l ≠ 0 then rowChk l else if neatT (plainT l) = false then 4 else if 32 < lenT l then 11 else 0
theorem event_row_eq {l : Row} (hs : smallR l) : q36 fuelH l = some (rowE l) := by
 unfold q36 rowE
 rw [bnd_s (style_check hs.1)]
 by_cases hk : rowChk l ≠ 0
 ·rw [cnd_t (ine_t hk), if_pos hk]
 ·rw [cnd_f (ine_f (by simpa using hk)), if_neg hk]
  have hr := okR_of hs (by simpa using hk)
  have hp := plainT_le hr l.length
  rw [List.take_length] at hp
  rw [bnd_s (style_plain hr)]
  generalize plainT l = t at hp ⊢
  unfold neatT
  by_cases h0 : t = []
  ·rw [cnd_t (by rw [seq_t]; exact h0), if_pos h0, if_pos rfl]
  ·have hl : 0 < t.length := List.length_pos_iff.2 h0
   have e1 : w64 (isub (len t) 1) = ((t.length - 1 : Nat) : Int) := w64_pred hl (by omega)
   have hin : inb (w64 (isub (len t) 1)) (len t) = true := by rw [e1]; exact inb_t (by simp only [len]; omega)
   rw [cnd_f (by rw [← Bool.not_eq_true, seq_t]; exact h0), if_neg h0, grd_t (inb_t (by simp only [len]; omega)), cnd_ieq]
   by_cases h1 : n8 (lget t (toN (0 : Int)) 0) = n8 (32 : UInt8)
   ·rw [if_pos h1, if_pos h1, if_pos rfl]
   ·rw [if_neg h1, if_neg h1, grd_t hin, cnd_ieq]
    by_cases h2 : n8 (lget t (toN (w64 (isub (len t) 1))) 0) = n8 (32 : UInt8)
    ·rw [if_pos h2, if_pos h2, if_pos rfl]
    ·rw [if_neg h2, if_neg h2]
     have hc : strings_Contains fuelH (t, [32, 32]) = some (sp2 t) := by
      show grd (decide (t.length < 4294967281)) (some (contains t [32, 32])) = _
      rw [grd_t (decide_eq_true (by omega)), sp2_contains]
     rw [bnd_s hc]
     by_cases h3 : sp2 t = true
     ·rw [cnd_t h3, h3, if_pos (by decide)]
     ·rw [cnd_f (by simpa using h3), Bool.eq_false_iff.2 h3, if_neg (by simp), bnd_s (style_len hr), cnd_ilt]
      by_cases h4 : 32 < lenT l
      ·rw [if_pos (by omega), if_pos h4]
      ·rw [if_neg (by omega), if_neg h4]
end
end Go.Mo
end
section
/-
 Plain facts: the check of an event, on both sides; spots; the length of an event.
-/
namespace Go.Mo
open Go Go.W Go.Lib
set_option maxRecDepth 100000
noncomputable section
theorem spans_eq (N : Nat) (s : Int × Int) : q25 N s = some (decide (0 ≤ s.1 ∧ s.1 < s.2 ∧ s.2 ≤ 5184000)) := by
 unfold q25
 rw [cnd_ile, cnd_ilt]
 by_cases h1 : 0 ≤ s.1
 ·rw [if_pos h1]
  by_cases h2 : s.1 < s.2
  ·rw [if_pos h2]; simp [h1, h2, ile]
  ·rw [if_neg h2]; simp [h2]
 ·rw [if_neg h1]; simp [h1]
def kindP (k : UInt8) : Bool := match q27 fuelH k with
 | some s => decide (seq s [] = decide (¬ (1 ≤ n8 k ∧ n8 k ≤ 4)))
 | none => false
theorem kind_tab (k : UInt8) : ∃ s, q27 fuelH k = some s ∧ seq s [] = decide (¬ (1 ≤ n8 k ∧ n8 k ≤ 4)) := by
 have h : kindP k = true := all_u8 (P := kindP) (by kernel_rfl) k
 unfold kindP at h
 split at h
 ·rename_i s hs
  exact ⟨s, hs, of_decide_eq_true h⟩
 ·cases h
theorem jn_sp {β : Type} (K : Bool → Option β) (s : List UInt8) (X : Option Bool) (hX : X = some (nm s)) : jn K (fun v => cnd (sne s ([] : List UInt8)) (bnd X fun w => v (bnot w)) (v false)) = K (decide (s ≠ [] ∧ nm s = false)) := by
 rw [jn_e, hX, bnd_some']
 by_cases h : s = []
 ·subst h; rfl
 ·rw [cnd_t (by simp [sne, h])]
  congr 1
  cases hn : nm s <;> simp [bnot, h]
def rowsE : List Row → Int → Int
 | [], k => k
 | l :: r, k => if rowE l ≠ 0 then rowE l else rowsE r k
def lens (l : List Row) : List Int := l.map fun r => (lenT r : Int)
def evChk (x : Ev) (rs : List Reg) : Int :=
 if x.1 < 1 then 2 else if 1099511627776 < x.1 then 2 else
 if ¬ (0 ≤ x.2.1.1 ∧ x.2.1.1 < x.2.1.2 ∧ x.2.1.2 ≤ 5184000) then 2 else
 match findR rs x.2.2.1 with
 | none => 6
 | some r =>
  if ¬ (1 ≤ n8 x.2.2.2.1 ∧ n8 x.2.2.2.1 ≤ 4) then 3 else
  if x.2.2.2.2.1 ≠ [] ∧ nm x.2.2.2.2.1 = false then 5 else
  if x.2.2.2.2.2.length = 0 then 9 else if 4 < x.2.2.2.2.2.length then 9 else
  rowsE x.2.2.2.2.2 (placeS r (lens x.2.2.2.2.2)).2
theorem rowE_ok {l : Row} (hs : smallR l) (h : rowE l = 0) : okR l := by
 unfold rowE at h
 split at h
 ·rename_i hc; exact absurd h hc
 ·rename_i hc; exact okR_of hs (by simpa using hc)
theorem event_lens_eq {x : Ev} (h : ∀ l ∈ x.2.2.2.2.2, okR l) (hl : x.2.2.2.2.2.length ≤ 1000000) : q37 fuelH x = some (lens x.2.2.2.2.2) := by
 unfold q37
 rw [jn_e]
 generalize x.2.2.2.2.2 = l at h hl ⊢
 refine loop_inv (n := l.length) (fun (a : List Int) (i : Nat) => (a, (i : Int))) (fun i a => a = lens (l.take i)) _ (fun self a i hi hI => ?_) (fun self a hI => ?_) fuelH 0 [] (Nat.zero_le _) (by have := fuelH_eq; omega) rfl
 ·refine ⟨a ++ [(lenT l[i] : Int)], ?_, ?_⟩
  ·have ha : a.length ≤ i := by rw [hI]; unfold lens; rw [List.length_map, List.length_take]; omega
   simp only
   rw [cnd_t (ilt_t (by simp only [len]; omega)), grd_t (inb_t (by simp only [len]; omega)), lget_i hi, style_len (h _ (List.getElem_mem hi)), bnd_some', grd_t (room_t (by simp only [iadd, len, List.length_singleton]; omega)), w64_succ hi (by omega)]
   rfl
  ·rw [hI]; unfold lens; rw [List.take_succ_eq_append_getElem hi, List.map_append]; rfl
 ·simp only
  rw [cnd_f (ilt_f (by simp only [len]; omega)), hI, List.take_length]
theorem itI_rows (K : Option Int) (k : Int) : ∀ (l : List Row) (i : Nat), ((∀ r ∈ l, rowE r = 0) → K = some k) → itI (fun _ (r : Row) (_ : Unit) => if rowE r ≠ 0 then (.inl (some (rowE r)) : Option Int ⊕ Unit) else .inr ()) (fun _ => K) i l () = some (rowsE l k)
 | [], i, h => h fun r hr => by cases hr
 | r :: l, i, h => by
  simp only [itI, rowsE]
  by_cases hc : rowE r ≠ 0
  ·rw [if_pos hc, if_pos hc]
  ·rw [if_neg hc, if_neg hc]
   refine itI_rows K k l (i + 1) fun hl => h fun q hq => ?_
   rcases List.mem_cons.1 hq with rfl | hq
   ·simpa using hc
   ·exact hl q hq
theorem event_check_eq {x : Ev} {rs : List Reg} (hs : smallL x.2.2.2.2.2) (hr : rs.length ≤ 4000000) : q40 fuelH (x, rs) = some (evChk x rs) := by
 unfold q40 evChk
 simp only
 rw [region_find _ hr, bnd_some', cnd_ilt]
 by_cases c1 : x.1 < 1
 ·rw [if_pos c1, if_pos c1]
 rw [if_neg c1, if_neg c1, cnd_ilt]
 by_cases c2 : 1099511627776 < x.1
 ·rw [if_pos c2, if_pos c2]
 rw [if_neg c2, if_neg c2, spans_eq, bnd_some', cnd_bnot]
 by_cases c3 : 0 ≤ x.2.1.1 ∧ x.2.1.1 < x.2.1.2 ∧ x.2.1.2 ≤ 5184000
 ·rw [if_pos c3, if_neg (not_not_intro c3)]
  unfold findP
  cases hf : findR rs x.2.2.1 with
  | none => rfl
  | some r =>
   simp only
   rw [cnd_f (by rfl)]
   obtain ⟨s, k1, k2⟩ := kind_tab x.2.2.2.1
   rw [bnd_s k1, k2, cnd_dec]
   by_cases c4 : 1 ≤ n8 x.2.2.2.1 ∧ n8 x.2.2.2.1 ≤ 4
   ·rw [if_neg (not_not_intro c4), if_neg (not_not_intro c4), jn_sp _ _ _ (lines_name _), cnd_dec]
    by_cases c5 : x.2.2.2.2.1 ≠ [] ∧ nm x.2.2.2.2.1 = false
    ·rw [if_pos c5, if_pos c5]
    rw [if_neg c5, if_neg c5]
    by_cases c6 : x.2.2.2.2.2.length = 0
    ·rw [cnd_t (ieq_t (by simp only [len]; omega)), if_pos c6]
    rw [cnd_f (ieq_f (by simp only [len]; omega)), if_neg c6]
    by_cases c7 : 4 < x.2.2.2.2.2.length
    ·rw [cnd_t (ilt_t (by simp only [len]; omega)), if_pos c7]
    rw [cnd_f (ilt_f (by simp only [len]; omega)), if_neg c7, jn_e]
    have hlen := @event_lens_eq x
    generalize x.2.2.2.2.2 = l at hs c6 c7 hlen ⊢
    refine Eq.trans (lst_it (l := l) (fun (_ : Unit) (p : Nat) => (p : Int)) (fun _ (r : Row) (_ : Unit) => if rowE r ≠ 0 then .inl (some (rowE r)) else .inr ()) (fun _ => bnd (q37 fuelH x) fun v5 => bnd (q39 fuelH (r, v5)) fun v6 => some v6.2) (fun _ _ => True) (fun self a i hi _ => ?_) (fun self a _ => ?_) fuelH 0 () (Nat.zero_le _) (by have := fuelH_eq; omega) trivial) (itI_rows _ _ l 0 fun hl => ?_)
    ·rw [cnd_t (ilt_t (by simp only [len]; omega)), grd_t (inb_t (by simp only [len]; omega)), lget_i hi, bnd_s (event_row_eq (hs _ (List.getElem_mem hi))), w64_succ hi (by omega)]
     by_cases hc : rowE l[i] ≠ 0
     ·rw [if_pos hc, cnd_t (ine_t hc)]; rfl
     ·rw [if_neg hc, cnd_f (ine_f (by simpa using hc))]
      exact ⟨rfl, trivial⟩
    ·rw [cnd_f (ilt_f (by simp only [len]; omega))]
    ·rw [bnd_s (hlen (fun q hq => rowE_ok (hs q hq) (hl q hq)) (by omega)), bnd_s (region_place _ _)]
   ·rw [if_pos c4, if_pos c4]
 ·rw [if_neg c3, if_pos c3]
end
end Go.Mo
end
section
/-
 Plain facts: the header of a document; events by their number; the length of an event.
-/
namespace Go.Mo
open Go Go.W Go.Lib
set_option maxRecDepth 100000
noncomputable section
abbrev Cmt := Int × Int × Int × Int × List UInt8 × List UInt8 × Bool × Bool
abbrev Doc := List UInt8 × List UInt8 × UInt8 × Bool × Int × List Reg × List Ev × List Cmt
def tvB (r : UInt8) : Bool := (q16 fuelH r).getD false
def cdB (r : UInt8) : Bool := (q17 fuelH r).getD false
theorem tv_eq (r : UInt8) : q16 fuelH r = some (tvB r) ∧ q17 fuelH r = some (cdB r) :=
 of_decide_eq_true (all_u8 (P := fun r => decide (q16 fuelH r = some (tvB r) ∧ q17 fuelH r = some (cdB r))) (by kernel_rfl) r)
theorem r02_eq (r : UInt8) : q121 fuelH r = some (tvB r) ∧ q122 fuelH r = some (cdB r) := by
 obtain ⟨h1, h2, _⟩ := rate_eq fuelH r
 rw [← h1, ← h2]
 exact tv_eq r
def rateBad (r : UInt8) (drop : Bool) : Prop := tvB r = false ∨ (drop = true ∧ cdB r = false)
instance (r : UInt8) (drop : Bool) : Decidable (rateBad r drop) := by unfold rateBad; infer_instance
def headChk (d : Doc) : Int :=
 if vld d.1 = false then 10 else if 400 < d.1.length then 9 else if d.2.1 ≠ [] ∧ nm d.2.1 = false then 5 else
 if rateBad d.2.2.1 d.2.2.2.1 then 13 else if d.2.2.2.2.1 < 0 then 2 else if 1099511627776 < d.2.2.2.2.1 then 2 else 0
theorem rate_chk (r : UInt8) (b : Bool) : q18 fuelH (r, b) = some (if rateBad r b then 13 else 0) := by
 unfold q18
 obtain ⟨h1, h2⟩ := tv_eq r
 simp only
 rw [h1, bnd_some']
 by_cases c1 : tvB r = false
 ·rw [cnd_t (by rw [c1]; rfl), if_pos (show rateBad r b from .inl c1)]
 ·rw [cnd_f (by rw [← Bool.not_eq_true, bnot_t]; exact c1)]
  cases b with
  | false =>
   rw [cnd_f rfl, if_neg]
   rintro (h | h)
   ·exact c1 h
   ·cases h.1
  | true =>
   rw [cnd_t rfl, h2, bnd_some']
   by_cases c2 : cdB r = false
   ·rw [cnd_t (by rw [c2]; rfl), if_pos (show rateBad r true from .inr ⟨rfl, c2⟩)]
   ·rw [cnd_f (by rw [← Bool.not_eq_true, bnot_t]; exact c2), if_neg]
    rintro (h | h)
    ·exact c1 h
    ·exact c2 h.2
theorem header_eq {d : Doc} (hd : d.1.length ≤ 4000000) : q19 fuelH d = some (headChk d) := by
 unfold q19 headChk
 rw [jn_e, ch_valid _ hd, bnd_some']
 by_cases c1 : vld d.1 = false
 ·rw [cnd_t (by rw [c1]; rfl), if_pos c1]
 rw [cnd_f (by rw [← Bool.not_eq_true, bnot_t]; exact c1), if_neg c1]
 by_cases c2 : 400 < d.1.length
 ·rw [cnd_t (ilt_t (by simp only [len]; omega)), if_pos c2]
 rw [cnd_f (ilt_f (by simp only [len]; omega)), if_neg c2, lines_name, bnd_some', rate_chk, bnd_some']
 have hrest : cnd (ine (if rateBad d.2.2.1 d.2.2.2.1 then (13 : Int) else 0) 0) (some (if rateBad d.2.2.1 d.2.2.2.1 then (13 : Int) else 0)) (cnd (ilt d.2.2.2.2.1 0) (some (2 : Int)) (cnd (ilt 1099511627776 d.2.2.2.2.1) (some 2) (some 0))) = some (if rateBad d.2.2.1 d.2.2.2.1 then 13 else if d.2.2.2.2.1 < 0 then 2 else if 1099511627776 < d.2.2.2.2.1 then 2 else 0) := by
  by_cases c4 : rateBad d.2.2.1 d.2.2.2.1
  ·rw [if_pos c4, if_pos c4]; rfl
  ·rw [if_neg c4, if_neg c4, cnd_f (by rfl), cnd_ilt, cnd_ilt]
   by_cases c5 : d.2.2.2.2.1 < 0
   ·rw [if_pos c5, if_pos c5]
   rw [if_neg c5, if_neg c5]
   by_cases c6 : 1099511627776 < d.2.2.2.2.1
   ·rw [if_pos c6, if_pos c6]
   ·rw [if_neg c6, if_neg c6]
 rw [hrest]
 generalize (if rateBad d.2.2.1 d.2.2.2.1 then (13 : Int) else if d.2.2.2.2.1 < 0 then 2 else if 1099511627776 < d.2.2.2.2.1 then 2 else 0) = R
 by_cases c3 : d.2.1 = []
 ·rw [cnd_f (by simp [sne, c3]), if_neg fun h => h.1 c3]
 ·rw [cnd_t (by simp [sne, c3])]
  by_cases c4 : nm d.2.1 = false
  ·rw [cnd_t (by rw [c4]; rfl), if_pos ⟨c3, c4⟩]
  ·rw [cnd_f (by rw [← Bool.not_eq_true, bnot_t]; exact c4), if_neg fun h => c4 h.2]
def mapE : Nat → List Ev → List (Int × Int)
 | _, [] => []
 | i, x :: l => (x.1, (i : Int)) :: mapE (i + 1) l
def findE : Nat → List Ev → Int → Int
 | _, [], _ => -1
 | i, x :: l, k => if x.1 = k then (i : Int) else findE (i + 1) l k
def hasE (l : List Ev) (k : Int) : Prop := ∃ x ∈ l, x.1 = k
instance (l : List Ev) (k : Int) : Decidable (hasE l k) := by unfold hasE; infer_instance
theorem mapE_app : ∀ (a b : List Ev) (i : Nat), mapE i (a ++ b) = mapE i a ++ mapE (i + a.length) b
 | [], b, i => by simp [mapE]
 | x :: a, b, i => by
  simp only [List.cons_append, mapE, mapE_app a b (i + 1), List.length_cons]
  congr 3; omega
theorem mhas_mapE : ∀ (l : List Ev) (i : Nat) (k : Int), mhas ieq (mapE i l) k = decide (hasE l k)
 | [], i, k => by simp [mapE, mhas, hasE]
 | x :: l, i, k => by
  simp only [mapE, mhas, mhas_mapE l (i + 1) k]
  by_cases h : k = x.1
  ·rw [ieq_t h, decide_eq_true (show hasE (x :: l) k from ⟨x, List.mem_cons_self, h.symm⟩)]; rfl
  ·rw [ieq_f h]
   show (false || _) = _
   rw [Bool.false_or]
   exact decide_eq_decide.2 ⟨fun ⟨y, h1, h2⟩ => ⟨y, List.mem_cons_of_mem _ h1, h2⟩, fun ⟨y, h1, h2⟩ => by
    rcases List.mem_cons.1 h1 with rfl | h1
    ·exact absurd h2.symm h
    ·exact ⟨y, h1, h2⟩⟩
theorem mput_new {k v : Int} : ∀ (m : List (Int × Int)), mhas ieq m k = false → mput ieq m k v = m ++ [(k, v)]
 | [], _ => rfl
 | x :: m, h => by
  simp only [mhas, bor, Bool.or_eq_false_iff] at h
  simp only [mput, h.1, mput_new m h.2]
  rfl
theorem mget_mapE : ∀ (l : List Ev) (i : Nat) (k : Int), hasE l k → mget ieq 0 (mapE i l) k = findE i l k
 | [], i, k, h => by obtain ⟨x, h, _⟩ := h; cases h
 | x :: l, i, k, h => by
  simp only [mapE, mget, findE]
  by_cases hc : x.1 = k
  ·rw [ieq_t hc.symm, if_pos hc]; rfl
  ·rw [ieq_f (fun e => hc e.symm), if_neg hc]
   obtain ⟨y, h1, h2⟩ := h
   rcases List.mem_cons.1 h1 with rfl | h1
   ·exact absurd h2 hc
   ·exact mget_mapE l (i + 1) k ⟨y, h1, h2⟩
theorem findE_yes : ∀ (l : List Ev) (i : Nat) (k : Int), hasE l k → ∃ j, ∃ h : j < l.length, findE i l k = ((i + j : Nat) : Int) ∧ l[j].1 = k ∧ ¬ hasE (l.take j) k
 | [], i, k, h => by obtain ⟨x, h, _⟩ := h; cases h
 | x :: l, i, k, h => by
  simp only [findE]
  by_cases hc : x.1 = k
  ·exact ⟨0, by simp, by rw [if_pos hc]; rfl, hc, fun ⟨y, h1, _⟩ => by cases h1⟩
  ·obtain ⟨y, h1, h2⟩ := h
   rcases List.mem_cons.1 h1 with rfl | h1
   ·exact absurd h2 hc
   ·obtain ⟨j, hj, e1, e2, e3⟩ := findE_yes l (i + 1) k ⟨y, h1, h2⟩
    refine ⟨j + 1, by simpa using hj, ?_, by simpa using e2, ?_⟩
    ·rw [if_neg hc, e1]; congr 1; omega
    ·rintro ⟨z, h3, h4⟩
     rw [List.take_succ_cons] at h3
     rcases List.mem_cons.1 h3 with rfl | h3
     ·exact hc h4
     ·exact e3 ⟨z, h3, h4⟩
def lessE (a b : Ev) : Prop := a.2.1.1 < b.2.1.1 ∨ (a.2.1.1 = b.2.1.1 ∧ a.1 < b.1)
instance (a b : Ev) : Decidable (lessE a b) := by unfold lessE; infer_instance
theorem cmp_eq (N : Nat) (a b : Int) : q42 N (a, b) = some (if a < b then -1 else if b < a then 1 else 0) := by
 unfold q42
 have h : ∀ x : Int, q41 N x = some false := fun x => by
  show some (ine x x) = _
  rw [ine_f rfl]
 simp only
 rw [h, h, bnd_some', bnd_some', cnd_f rfl, cnd_f rfl, cnd_ilt, cnd_ilt]
 by_cases h1 : a < b
 ·rw [if_pos h1, if_pos h1]
 ·rw [if_neg h1, if_neg h1]
  by_cases h2 : b < a
  ·rw [if_pos h2, if_pos h2]
  ·rw [if_neg h2, if_neg h2]
theorem or_eq (a b : Int) : q43 fuelH [a, b] = some (if a ≠ 0 then a else b) := by
 have h : q43 fuelH [a, b] = cnd (ine a 0) (some a) (cnd (ine b 0) (some b) (some 0)) := by kernel_rfl
 rw [h, cnd_ine, cnd_ine]
 by_cases h1 : a ≠ 0
 ·rw [if_pos h1, if_pos h1]
 ·rw [if_neg h1, if_neg h1]
  by_cases h2 : b ≠ 0
  ·rw [if_pos h2]
  ·rw [if_neg h2]; congr 1; omega
theorem event_less (a b : Ev) : q44 fuelH (a, b) = some (decide (lessE a b)) := by
 unfold q44
 simp only
 rw [cmp_eq, bnd_some', cmp_eq, bnd_some', or_eq, bnd_some']
 congr 1
 by_cases h1 : a.2.1.1 < b.2.1.1
 ·rw [if_pos h1, if_pos (by decide), @decide_eq_true (lessE a b) _ (.inl h1)]; rfl
 ·rw [if_neg h1]
  by_cases h2 : b.2.1.1 < a.2.1.1
  ·rw [if_pos h2, if_pos (by decide), @decide_eq_false (lessE a b) _ (by unfold lessE; omega)]; rfl
  ·rw [if_neg h2, if_neg (by decide)]
   by_cases h3 : a.1 < b.1
   ·rw [if_pos h3, @decide_eq_true (lessE a b) _ (by unfold lessE; omega)]; rfl
   ·rw [if_neg h3, @decide_eq_false (lessE a b) _ (by unfold lessE; omega)]
    split <;> rfl
end
end Go.Mo
end
section
/-
 Plain facts: the events of a document, checked one after the other; the length of an event.
-/
namespace Go.Mo
open Go Go.W Go.Lib
set_option maxRecDepth 100000
noncomputable section
def errL {α : Type} (R : List α → α → Int) : List α → List α → Int
 | _, [] => 0
 | pre, x :: l => if R pre x ≠ 0 then R pre x else errL R (pre ++ [x]) l
theorem errL_zero {α : Type} {R : List α → α → Int} : ∀ (l pre : List α), errL R pre l = 0 → ∀ j (h : j < l.length), R (pre ++ l.take j) l[j] = 0
 | [], _, _, j, h => by simp at h
 | x :: l, pre, h0, j, h => by
  simp only [errL] at h0
  split at h0
  ·rename_i hc; exact absurd h0 hc
  ·rename_i hc
   cases j with
   | zero => simpa using hc
   | succ j =>
    have := errL_zero l (pre ++ [x]) h0 j (by simpa using h)
    simpa using this
theorem loop_err {V σ α ρ : Type} {F : (V → Option ρ) → V → Option ρ} {l : List α} (st : σ → Nat → V) (g : List α → σ) (R : List α → α → Int) (w : Int → ρ) (K : Option ρ)
  (hstep : ∀ self i (h : i < l.length), F self (st (g (l.take i)) i) = if R (l.take i) l[i] ≠ 0 then some (w (R (l.take i) l[i])) else self (st (g (l.take (i + 1))) (i + 1)))
  (hend : (∀ j (h : j < l.length), R (l.take j) l[j] = 0) → ∀ self, F self (st (g l) l.length) = K) :
  ∀ (fuel i : Nat), i ≤ l.length → l.length - i < fuel → (∀ j (h : j < l.length), j < i → R (l.take j) l[j] = 0) →
  fixN F fuel (st (g (l.take i)) i) = if errL R (l.take i) (l.drop i) ≠ 0 then some (w (errL R (l.take i) (l.drop i))) else K
 | 0, i, _, h, _ => by omega
 | fuel + 1, i, hi, h, hp => by
  rw [fixN_s]
  by_cases hl : i < l.length
  ·rw [hstep _ i hl, List.drop_eq_getElem_cons hl, errL]
   by_cases hc : R (l.take i) l[i] ≠ 0
   ·rw [if_pos hc, if_pos hc, if_pos hc]
   ·rw [if_neg hc, if_neg hc]
    have ih := loop_err st g R w K hstep hend fuel (i + 1) (by omega) (by omega) (fun j hj hji => by
     by_cases e : j = i
     ·subst e; simpa using hc
     ·exact hp j hj (by omega))
    rw [ih, List.take_succ_eq_append_getElem hl]
  ·obtain rfl : i = l.length := by omega
   rw [List.take_length, hend (fun j hj => hp j hj hj), List.drop_length]
   rfl
def sumT : List Row → Nat
 | [] => 0
 | r :: l => lenT r + sumT l
def evLen (x : Ev) : Int := ((x.2.2.2.2.2.length - 1 + sumT x.2.2.2.2.2 : Nat) : Int)
theorem sumT_take : ∀ (l : List Row) (i : Nat) (h : i < l.length), sumT (l.take (i + 1)) = sumT (l.take i) + lenT l[i]
 | x :: l, 0, _ => by simp [sumT]
 | x :: l, i + 1, h => by
  have := sumT_take l i (by simpa using h)
  simp only [List.take_succ_cons, sumT, this, List.getElem_cons_succ]
  omega
theorem lenT_tot {l : Row} (h : okR l) : lenT l ≤ 64000000 := by
 have h1 := lenT_le l fun x hx => (h.2.1 x hx).2
 have h2 := h.1
 omega
theorem sumT_le : ∀ (l : List Row), (∀ r ∈ l, okR r) → sumT l ≤ 64000000 * l.length
 | [], _ => Nat.le_refl _
 | r :: l, h => by
  have h1 := lenT_tot (h r List.mem_cons_self)
  have h2 := sumT_le l fun q hq => h q (List.mem_cons_of_mem _ hq)
  simp only [sumT, List.length_cons]
  omega
theorem sumT_take_le (l : List Row) (h : ∀ r ∈ l, okR r) (i : Nat) : sumT (l.take i) ≤ 64000000 * l.length := by
 have h1 := sumT_le (l.take i) fun r hr => h r (List.mem_of_mem_take hr)
 have : (l.take i).length ≤ l.length := by rw [List.length_take]; omega
 omega
theorem event_len_eq {x : Ev} (h : ∀ l ∈ x.2.2.2.2.2, okR l) (hl : x.2.2.2.2.2.length ≤ 1000) : q45 fuelH x = some (evLen x) := by
 unfold q45 evLen
 rw [jn_e, bnd_s (event_lens_eq h (by omega))]
 generalize x.2.2.2.2.2 = l at h hl ⊢
 have hll : (lens l).length = l.length := by unfold lens; rw [List.length_map]
 have e0 : imax (w64 (isub (len l) 1)) 0 = ((l.length - 1 : Nat) : Int) := by
  simp only [isub, imax, len]
  rw [w64_id (by omega)]
  omega
 rw [e0]
 refine loop_inv (n := l.length) (fun (a : Nat) (i : Nat) => ((a : Int), (i : Int))) (fun i a => a = l.length - 1 + sumT (l.take i)) _ (fun self a i hi hI => ?_) (fun self a hI => ?_) fuelH 0 (l.length - 1) (Nat.zero_le _) (by have := fuelH_eq; omega) (by simp [sumT])
 ·refine ⟨a + lenT l[i], ?_, ?_⟩
  ·have ht := sumT_take_le l h i
   have hb := lenT_tot (h _ (List.getElem_mem hi))
   have hin : inb (i : Int) (len (lens l)) = true := inb_t (by simp only [len, hll]; omega)
   have hg : lget (lens l) (toN (i : Int)) (0 : Int) = (lenT l[i] : Int) := by
    rw [lget_i (by omega)]
    simp [lens]
   simp only
   rw [cnd_t (ilt_t (by simp only [len, hll]; omega)), grd_t hin, hg, cnd_f (ilt_f (by omega)), w64_succ hi (by omega)]
   have e : w64 (iadd (a : Int) (lenT l[i] : Int)) = ((a + lenT l[i] : Nat) : Int) := by
    unfold iadd; rw [w64_id (by omega)]; omega
   rw [e]
  ·rw [sumT_take l i hi, hI]; omega
 ·simp only
  rw [cnd_f (ilt_f (by simp only [len, hll]; omega)), hI, List.take_length]
theorem rowsE_zero : ∀ (l : List Row) (k : Int), rowsE l k = 0 → (∀ r ∈ l, rowE r = 0) ∧ k = 0
 | [], k, h => ⟨fun r hr => (by cases hr), h⟩
 | r :: l, k, h => by
  simp only [rowsE] at h
  split at h
  ·rename_i hc; exact absurd h hc
  ·rename_i hc
   obtain ⟨h1, h2⟩ := rowsE_zero l k h
   refine ⟨fun q hq => ?_, h2⟩
   rcases List.mem_cons.1 hq with rfl | hq
   ·simpa using hc
   ·exact h1 q hq
theorem ev_ok {x : Ev} {rs : List Reg} (h : evChk x rs = 0) : 1 ≤ x.1 ∧ x.1 ≤ 1099511627776 ∧ (0 ≤ x.2.1.1 ∧ x.2.1.1 < x.2.1.2 ∧ x.2.1.2 ≤ 5184000) ∧ 0 < x.2.2.2.2.2.length ∧ x.2.2.2.2.2.length ≤ 4 ∧ (∀ r ∈ x.2.2.2.2.2, rowE r = 0) ∧ ∃ r, findR rs x.2.2.1 = some r ∧ (placeS r (lens x.2.2.2.2.2)).2 = 0 := by
 unfold evChk at h
 split at h
 ·cases h
 split at h
 ·cases h
 split at h
 ·cases h
 rename_i c1 c2 c3
 split at h
 ·cases h
 rename_i r hr
 split at h
 ·cases h
 split at h
 ·cases h
 split at h
 ·cases h
 split at h
 ·cases h
 rename_i c6 c7
 obtain ⟨h1, h2⟩ := rowsE_zero _ _ h
 exact ⟨by omega, by omega, by omega, by omega, by omega, h1, r, hr, h2⟩
def ordB (p : Option Ev) (x : Ev) : Bool := match p with
 | some q => decide (lessE q x)
 | none => true
def evRnd (rs : List Reg) (last : Int) (pre : List Ev) (x : Ev) : Int :=
 if evChk x rs ≠ 0 then evChk x rs else if last < x.1 then 2 else if ordB pre.getLast? x = false then 8 else if hasE pre x.1 then 7 else 0
def evsChk (d : Doc) : Int := errL (evRnd d.2.2.2.2.2.1 d.2.2.2.2.1) [] d.2.2.2.2.2.2.1
theorem evRnd_ok {rs : List Reg} {last : Int} {pre : List Ev} {x : Ev} (h : evRnd rs last pre x = 0) : evChk x rs = 0 ∧ x.1 ≤ last ∧ ordB pre.getLast? x = true ∧ ¬ hasE pre x.1 := by
 unfold evRnd at h
 split at h
 ·rename_i hc; exact absurd h hc
 rename_i c1
 split at h
 ·cases h
 rename_i c2
 split at h
 ·cases h
 rename_i c3
 split at h
 ·cases h
 rename_i c4
 exact ⟨by simpa using c1, by omega, by simpa using c3, c4⟩
theorem last_take {α : Type} {l : List α} {i : Nat} (h : i < l.length) : (l.take (i + 1)).getLast? = some l[i] := by
 rw [List.take_succ_eq_append_getElem h, List.getLast?_concat]
end
end Go.Mo
end
section
/-
 Plain facts: the comments of a document, on both sides.
-/
namespace Go.Mo
open Go Go.W Go.Lib
set_option maxRecDepth 100000
noncomputable section
theorem jn_u {α : Type} {K : Unit → Option α} {X : Option α} (h : K () = X) (T : (Unit → Option α) → Option α) : jn K T = T fun _ => X := by
 rw [jn_e, show K = fun _ => X from funext fun _ => h]
def cOrd (p : Option Cmt) (c : Cmt) : Bool := match p with
 | some q => decide (q.1 < c.1)
 | none => true
def evZ : Ev := (0, (0, 0), [], 0, [], [])
def evAt (l : List Ev) (k : Int) : Ev := lget l (toN (findE 0 l k)) evZ
def ancE (d : Doc) (c : Cmt) : Int :=
 if c.2.1 < 1 then 2 else if d.2.2.2.2.1 < c.2.1 then 2 else
 if c.2.2.2.2.2.2.2 = true then (if c.2.2.1 ≠ 0 then 2 else if c.2.2.2.1 ≠ 0 then 2 else 0) else
 if ¬ hasE d.2.2.2.2.2.2.1 c.2.1 then 6 else if c.2.2.1 < 0 then 2 else if c.2.2.2.1 ≤ c.2.2.1 then 2 else
 if evLen (evAt d.2.2.2.2.2.2.1 c.2.1) < c.2.2.2.1 then 2 else 0
def endE (c : Cmt) : Int := if nm c.2.2.2.2.1 = false then 5 else if vld c.2.2.2.2.2.1 = false then 10 else if c.2.2.2.2.2.1 = [] then 4 else if 400 < c.2.2.2.2.2.1.length then 9 else 0
def tailE (d : Doc) (c : Cmt) : Int := if ancE d c ≠ 0 then ancE d c else endE c
def cmtRnd (d : Doc) (pre : List Cmt) (c : Cmt) : Int :=
 if c.1 < 1 then 2 else if d.2.2.2.2.1 < c.1 then 2 else if cOrd pre.getLast? c = false then 8 else if hasE d.2.2.2.2.2.2.1 c.1 then 7 else tailE d c
def cmtsChk (d : Doc) : Int := if 64 < d.2.2.2.2.2.2.2.length then 9 else errL (cmtRnd d) [] d.2.2.2.2.2.2.2
def goodD (d : Doc) : Prop := (∀ x ∈ d.2.2.2.2.2.2.1, (∀ r ∈ x.2.2.2.2.2, okR r) ∧ x.2.2.2.2.2.length ≤ 4) ∧ d.2.2.2.2.2.2.1.length ≤ 400 ∧ ∀ c ∈ d.2.2.2.2.2.2.2, c.2.2.2.2.2.1.length ≤ 4000000
theorem evAt_lenS {d : Doc} (hg : goodD d) {k : Int} (h : hasE d.2.2.2.2.2.2.1 k) : inb (findE 0 d.2.2.2.2.2.2.1 k) (len d.2.2.2.2.2.2.1) = true ∧ 0 ≤ findE 0 d.2.2.2.2.2.2.1 k ∧ q45 fuelH (evAt d.2.2.2.2.2.2.1 k) = some (evLen (evAt d.2.2.2.2.2.2.1 k)) := by
 obtain ⟨j, hj, e1, e2, e3⟩ := findE_yes _ 0 k h
 have he : evAt d.2.2.2.2.2.2.1 k = d.2.2.2.2.2.2.1[j] := by
  unfold evAt
  rw [e1, Nat.zero_add, lget_i hj]
 obtain ⟨h1, h2⟩ := hg.1 _ (List.getElem_mem hj)
 rw [he]
 refine ⟨by rw [e1]; exact inb_t (by simp only [len]; omega), by omega, event_len_eq h1 (by omega)⟩
theorem anchored_eq {d : Doc} (hg : goodD d) (c : Cmt) : q46 fuelH (d, c, mapE 0 d.2.2.2.2.2.2.1) = some (ancE d c, mapE 0 d.2.2.2.2.2.2.1) := by
 unfold q46 ancE
 simp only
 rw [cnd_ilt]
 by_cases c1 : c.2.1 < 1
 ·rw [if_pos c1, if_pos c1]
 rw [if_neg c1, if_neg c1, cnd_ilt]
 by_cases c2 : d.2.2.2.2.1 < c.2.1
 ·rw [if_pos c2, if_pos c2]
 rw [if_neg c2, if_neg c2]
 by_cases c3 : c.2.2.2.2.2.2.2 = true
 ·rw [cnd_t c3, if_pos c3, cnd_ine, cnd_ine]
  by_cases c4 : c.2.2.1 ≠ 0
  ·rw [if_pos c4, if_pos c4]
  rw [if_neg c4, if_neg c4]
  by_cases c5 : c.2.2.2.1 ≠ 0
  ·rw [if_pos c5, if_pos c5]
  ·rw [if_neg c5, if_neg c5]
 ·rw [cnd_f (by simpa using c3), if_neg c3, mhas_mapE, cnd_bnot]
  by_cases c4 : hasE d.2.2.2.2.2.2.1 c.2.1
  ·rw [if_pos c4, if_neg (not_not_intro c4), cnd_ilt]
   by_cases c5 : c.2.2.1 < 0
   ·rw [if_pos c5, if_pos c5]
   rw [if_neg c5, if_neg c5, cnd_ile]
   by_cases c6 : c.2.2.2.1 ≤ c.2.2.1
   ·rw [if_pos c6, if_pos c6]
   obtain ⟨q1, q2, q3⟩ := evAt_lenS hg c4
   have hm : mget ieq (0 : Int) (mapE 0 d.2.2.2.2.2.2.1) c.2.1 = findE 0 d.2.2.2.2.2.2.1 c.2.1 := mget_mapE _ _ _ c4
   rw [if_neg c6, if_neg c6, hm, grd_t q1]
   refine Eq.trans (bnd_s (show q45 fuelH (lget d.2.2.2.2.2.2.1 (toN (findE 0 d.2.2.2.2.2.2.1 c.2.1)) evZ) = _ from q3)) ?_
   rw [cnd_ilt]
   by_cases c7 : evLen (evAt d.2.2.2.2.2.2.1 c.2.1) < c.2.2.2.1
   ·rw [if_pos c7, if_pos c7]
   ·rw [if_neg c7, if_neg c7]
  ·rw [if_neg c4, if_pos c4]
theorem comments_eq {d : Doc} (hg : goodD d) : q47 fuelH (d, mapE 0 d.2.2.2.2.2.2.1) = some (cmtsChk d, mapE 0 d.2.2.2.2.2.2.1) := by
 unfold q47 cmtsChk
 simp only
 by_cases h : 64 < d.2.2.2.2.2.2.2.length
 ·rw [cnd_t (ilt_t (by simp only [len]; omega)), if_pos h]
 rw [cnd_f (ilt_f (by simp only [len]; omega)), if_neg h, jn_e]
 have hanc := fun c => anchored_eq hg c
 have hvl := hg.2.2
 generalize hm : mapE 0 d.2.2.2.2.2.2.1 = m at hanc ⊢
 have hmh : ∀ k, mhas ieq m k = decide (hasE d.2.2.2.2.2.2.1 k) := fun k => by rw [← hm]; exact mhas_mapE _ _ _
 generalize hl : d.2.2.2.2.2.2.2 = l at h hvl ⊢
 refine Eq.trans (loop_err (l := l) (fun (_ : Unit) (p : Nat) => ((p : Int), m)) (fun _ => ()) (cmtRnd d) (fun e => (e, m)) (some (0, m)) (fun self i hi => ?_) (fun _ self => ?_) fuelH 0 (Nat.zero_le _) (by have := fuelH_eq; omega) (fun j _ hj => by omega)) ?_
 ·have hin : inb (i : Int) (len l) = true := inb_t (by simp only [len]; omega)
  have hv := hvl _ (List.getElem_mem hi)
  simp only
  rw [cnd_t (ilt_t (by simp only [len]; omega)), grd_t hin, lget_i hi]
  refine Eq.trans (jn_u (X := if tailE d l[i] ≠ 0 then some (tailE d l[i], m) else self (((i + 1 : Nat) : Int), m)) ?_ _) ?_
  ·skip
   rw [hanc, bnd_some']
   unfold tailE
   by_cases c1 : ancE d l[i] ≠ 0
   ·rw [if_pos c1, if_pos c1, cnd_t (ine_t c1)]
   ·rw [if_neg c1, cnd_f (ine_f (by simpa using c1)), lines_name, bnd_some']
    unfold endE
    by_cases c2 : nm l[i].2.2.2.2.1 = false
    ·rw [cnd_t (by rw [c2]; rfl), if_pos c2, if_pos (by decide)]
    rw [cnd_f (by rw [← Bool.not_eq_true, bnot_t]; exact c2), if_neg c2, ch_valid _ hv, bnd_some']
    by_cases c3 : vld l[i].2.2.2.2.2.1 = false
    ·rw [cnd_t (by rw [c3]; rfl), if_pos c3, if_pos (by decide)]
    rw [cnd_f (by rw [← Bool.not_eq_true, bnot_t]; exact c3), if_neg c3]
    by_cases c4 : l[i].2.2.2.2.2.1 = []
    ·rw [cnd_t (by rw [seq_t]; exact c4), if_pos c4, if_pos (by decide)]
    rw [cnd_f (by rw [← Bool.not_eq_true, seq_t]; exact c4), if_neg c4]
    by_cases c5 : 400 < l[i].2.2.2.2.2.1.length
    ·rw [cnd_t (ilt_t (by simp only [len]; omega)), if_pos c5, if_pos (by decide)]
    ·rw [cnd_f (ilt_f (by simp only [len]; omega)), if_neg c5, if_neg (by decide), w64_succ hi (by omega)]
  ·simp only
   rw [cnd_ilt, cnd_ilt]
   unfold cmtRnd
   by_cases c1 : l[i].1 < 1
   ·rw [if_pos c1, if_pos c1, if_pos (by decide)]
   rw [if_neg c1, if_neg c1]
   by_cases c2 : d.2.2.2.2.1 < l[i].1
   ·rw [if_pos c2, if_pos c2, if_pos (by decide)]
   rw [if_neg c2, if_neg c2, hmh]
   cases i with
   | zero =>
    rw [cnd_f (by rfl)]
    have e0 : cOrd (l.take 0).getLast? l[0] = true := rfl
    rw [e0, if_neg (show ¬ true = false by decide), cnd_dec]
    by_cases c3 : hasE d.2.2.2.2.2.2.1 l[0].1
    ·rw [if_pos c3, if_pos c3, if_pos (by decide)]
    ·rw [if_neg c3, if_neg c3]
   | succ i =>
    rw [cnd_t (ilt_t (by omega)), w64_back (by omega), grd_t (inb_t (by simp only [len]; omega)), lget_i (show i < l.length by omega), cnd_ile, cnd_dec]
    have e0 : cOrd (l.take (i + 1)).getLast? l[i + 1] = decide (l[i].1 < l[i + 1].1) := by rw [last_take (show i < l.length by omega)]; rfl
    rw [e0]
    by_cases c4 : l[i + 1].1 ≤ l[i].1
    ·rw [if_pos c4, decide_eq_false (by omega), if_pos rfl, if_pos (by decide)]
    rw [if_neg c4, decide_eq_true (by omega), if_neg (show ¬ true = false by decide)]
    by_cases c3 : hasE d.2.2.2.2.2.2.1 l[i + 1].1
    ·rw [if_pos c3, if_pos c3, if_pos (by decide)]
    ·rw [if_neg c3, if_neg c3]
 ·simp only
  rw [cnd_f (ilt_f (by simp only [len]; omega))]
 ·rw [List.take_zero, List.drop_zero]
  by_cases hc : errL (cmtRnd d) [] l ≠ 0
  ·rw [if_pos hc]
  ·rw [if_neg hc]
   have hc : errL (cmtRnd d) [] l = 0 := by simpa using hc
   rw [hc]
end
end Go.Mo
end
section
/-
 Plain facts: the check of a document is the specified one.
-/
namespace Go.Mo
open Go Go.W Go.Lib
set_option maxRecDepth 100000
noncomputable section
def docChk (d : Doc) : Int :=
 if headChk d ≠ 0 then headChk d else if regsChk d.2.2.2.2.2.1 ≠ 0 then regsChk d.2.2.2.2.2.1 else
 if 400 < d.2.2.2.2.2.2.1.length then 9 else if evsChk d ≠ 0 then evsChk d else cmtsChk d
def smallD (d : Doc) : Prop := d.1.length ≤ 4000000 ∧ d.2.2.2.2.2.1.length ≤ 4000000 ∧ (∀ x ∈ d.2.2.2.2.2.2.1, smallL x.2.2.2.2.2) ∧ ∀ c ∈ d.2.2.2.2.2.2.2, c.2.2.2.2.2.1.length ≤ 4000000
theorem good_of {d : Doc} (hs : smallD d) (hn : d.2.2.2.2.2.2.1.length ≤ 400) (h : ∀ j (h : j < d.2.2.2.2.2.2.1.length), evRnd d.2.2.2.2.2.1 d.2.2.2.2.1 (d.2.2.2.2.2.2.1.take j) d.2.2.2.2.2.2.1[j] = 0) : goodD d := by
 refine ⟨fun x hx => ?_, hn, hs.2.2.2⟩
 obtain ⟨j, hj, rfl⟩ := List.mem_iff_getElem.1 hx
 obtain ⟨h1, _⟩ := evRnd_ok (h j hj)
 obtain ⟨_, _, _, _, h4, h5, _⟩ := ev_ok h1
 exact ⟨fun r hr => rowE_ok (hs.2.2.1 _ hx r hr) (h5 r hr), h4⟩
theorem mput_take {l : List Ev} {i : Nat} (hi : i < l.length) (hn : ¬ hasE (l.take i) l[i].1) : mput ieq (mapE 0 (l.take i)) l[i].1 (i : Int) = mapE 0 (l.take (i + 1)) := by
 rw [mput_new _ (by rw [mhas_mapE, decide_eq_false hn]), List.take_succ_eq_append_getElem hi, mapE_app]
 have : (l.take i).length = i := by rw [List.length_take]; omega
 rw [this, Nat.zero_add]
 rfl
theorem document_check {d : Doc} (hs : smallD d) : q48 fuelH d = some (docChk d) := by
 unfold q48 docChk
 rw [bnd_s (header_eq hs.1)]
 by_cases c1 : headChk d ≠ 0
 ·rw [cnd_t (ine_t c1), if_pos c1]
 rw [cnd_f (ine_f (by simpa using c1)), if_neg c1, bnd_s (region_list _)]
 by_cases c2 : regsChk d.2.2.2.2.2.1 ≠ 0
 ·rw [cnd_t (ine_t c2), if_pos c2]
 rw [cnd_f (ine_f (by simpa using c2)), if_neg c2]
 by_cases c3 : 400 < d.2.2.2.2.2.2.1.length
 ·rw [cnd_t (ilt_t (by simp only [len]; omega)), if_pos c3]
 rw [cnd_f (ilt_f (by simp only [len]; omega)), if_neg c3, jn_e]
 have hgood := @good_of d hs (by omega)
 have hcm := @comments_eq d
 unfold evsChk
 have hev := hs.2.2.1
 generalize hl : d.2.2.2.2.2.2.1 = l at c3 hgood hcm hev ⊢
 refine Eq.trans (loop_err (l := l) (fun (a : List (Int × Int)) (p : Nat) => ((p : Int), a)) (fun pre => mapE 0 pre) (evRnd d.2.2.2.2.2.1 d.2.2.2.2.1) (fun e => e) (some (cmtsChk d)) (fun self i hi => ?_) (fun hz self => ?_) fuelH 0 (Nat.zero_le _) (by have := fuelH_eq; omega) (fun j _ hj => by omega)) ?_
 ·have hin : inb (i : Int) (len l) = true := inb_t (by simp only [len]; omega)
  have hx := hev _ (List.getElem_mem hi)
  simp only
  rw [cnd_t (ilt_t (by simp only [len]; omega)), grd_t hin, lget_i hi, bnd_s (event_check_eq hx hs.2.1), cnd_ilt, w64_succ hi (by omega)]
  unfold evRnd
  by_cases e1 : evChk l[i] d.2.2.2.2.2.1 ≠ 0
  ·rw [if_pos e1, if_pos e1, cnd_t (ine_t e1)]
  rw [if_neg e1, cnd_f (ine_f (by simpa using e1))]
  by_cases e2 : d.2.2.2.2.1 < l[i].1
  ·rw [if_pos e2, if_pos e2, if_pos (by decide)]
  rw [if_neg e2, if_neg e2]
  have hput := fun h => mput_take hi h
  cases i with
  | zero =>
   rw [cnd_f (by rfl), mhas_mapE, cnd_dec]
   have e0 : ordB (l.take 0).getLast? l[0] = true := rfl
   rw [e0, if_neg (show ¬ true = false by decide)]
   by_cases e3 : hasE (l.take 0) l[0].1
   ·rw [if_pos e3, if_pos e3, if_pos (by decide)]
   ·rw [if_neg e3, if_neg e3, hput e3, if_neg (by decide)]
  | succ i =>
   rw [cnd_t (ilt_t (by omega)), w64_back (by omega), grd_t (inb_t (by simp only [len]; omega)), lget_i (show i < l.length by omega), bnd_s (event_less _ _), mhas_mapE, cnd_dec, cnd_bnot]
   have e0 : ordB (l.take (i + 1)).getLast? l[i + 1] = decide (lessE l[i] l[i + 1]) := by rw [last_take (show i < l.length by omega)]; rfl
   rw [e0]
   by_cases e4 : lessE l[i] l[i + 1]
   ·rw [if_pos e4, decide_eq_true e4, if_neg (show ¬ true = false by decide)]
    by_cases e3 : hasE (l.take (i + 1)) l[i + 1].1
    ·rw [if_pos e3, if_pos e3, if_pos (by decide)]
    ·rw [if_neg e3, if_neg e3, hput e3, if_neg (by decide)]
   ·rw [if_neg e4, decide_eq_false e4, if_pos rfl, if_pos (by decide)]
 ·simp only
  rw [cnd_f (ilt_f (by simp only [len]; omega)), bnd_s (hcm (hgood hz))]
 ·rw [List.take_zero, List.drop_zero]
  split <;> rfl
end
end Go.Mo
end
section
/-
 Plain facts: the place of a good event, and its region.
-/
namespace Go.Mo
open Go Go.W Go.Lib
set_option maxRecDepth 100000
noncomputable section
end
end Go.Mo
end
section
/-
 Plain facts: the document as the form carries it, on both sides.
-/
namespace Go.Mo
open Go Go.W Go.Lib
set_option maxRecDepth 100000
noncomputable section
end
end Go.Mo
end
section
/-
 Plain facts: a document is the same as itself; StlAccepts returns true.
-/
namespace Go.Mo
open Go Go.W Go.Lib
set_option maxRecDepth 100000
noncomputable section
theorem regs_self {l : List Reg} (hl : l.length ≤ 1000000) : q114 fuelH (l, l) = some true := by
 unfold q114
 simp only
 rw [cnd_f (ine_f rfl), jn_e]
 refine loop_inv (n := l.length) (fun (_ : Unit) (i : Nat) => (i : Int)) (fun _ _ => True) _ (fun self a i hi _ => ⟨(), ?_, trivial⟩) (fun self a _ => ?_) fuelH 0 () (Nat.zero_le _) (by have := fuelH_eq; omega) trivial
 ·have hin : inb (i : Int) (len l) = true := inb_t (by simp only [len]; omega)
  rw [cnd_t (ilt_t (by simp only [len]; omega)), grd_t hin, grd_t hin, lget_i hi, w64_succ hi (by omega), cnd_f]
  rw [← Bool.not_eq_true, bnot_t, Bool.eq_false_iff]
  intro h
  refine h ?_
  simp only [band_tt, seq_t, ieq_tt, beqb_t]
  simp
 ·rw [cnd_f (ilt_f (by simp only [len]; omega))]
theorem ev_self {x : Ev} (h1 : x.2.2.2.2.2.length ≤ 4000000) (h2 : ∀ r ∈ x.2.2.2.2.2, r.length ≤ 4000000) : q117 fuelH (x, x) = some true := by
 unfold q117
 simp only
 rw [cnd_t (ieq_t rfl), cnd_t (by simp [band_tt, ieq_tt]), cnd_t (by rw [seq_t]), cnd_t (ieq_t rfl), cnd_t (by rw [seq_t]), same_rows _ _ h1 h2, bnd_some']
 simp
theorem evs_self {l : List Ev} (hl : l.length ≤ 1000000) (h : ∀ x ∈ l, x.2.2.2.2.2.length ≤ 4000000 ∧ ∀ r ∈ x.2.2.2.2.2, r.length ≤ 4000000) : q118 fuelH (l, l) = some true := by
 unfold q118
 simp only
 rw [cnd_f (ine_f rfl), jn_e]
 refine loop_inv (n := l.length) (fun (_ : Unit) (i : Nat) => (i : Int)) (fun _ _ => True) _ (fun self a i hi _ => ⟨(), ?_, trivial⟩) (fun self a _ => ?_) fuelH 0 () (Nat.zero_le _) (by have := fuelH_eq; omega) trivial
 ·have hin : inb (i : Int) (len l) = true := inb_t (by simp only [len]; omega)
  obtain ⟨h1, h2⟩ := h _ (List.getElem_mem hi)
  rw [cnd_t (ilt_t (by simp only [len]; omega)), grd_t hin, grd_t hin, lget_i hi, w64_succ hi (by omega), bnd_s (ev_self h1 h2), cnd_f (by rfl)]
 ·rw [cnd_f (ilt_f (by simp only [len]; omega))]
theorem doc_self {d : Doc} (h1 : d.2.2.2.2.2.1.length ≤ 1000000) (h2 : d.2.2.2.2.2.2.1.length ≤ 1000000) (h3 : ∀ x ∈ d.2.2.2.2.2.2.1, x.2.2.2.2.2.length ≤ 4000000 ∧ ∀ r ∈ x.2.2.2.2.2, r.length ≤ 4000000) (h4 : d.2.2.2.2.2.2.2 = []) : q120 fuelH (d, d) = some true := by
 unfold q120
 have hh : q113 fuelH d = some (d.1, d.2.1, d.2.2.1, d.2.2.2.1, d.2.2.2.2.1) := rfl
 simp only
 rw [hh, bnd_some', bnd_some', cnd_t (by simp [band_tt, ieq_tt, seq_t, beqb_t]), regs_self h1, bnd_some', cnd_t rfl, evs_self h2 h3, bnd_some', cnd_t rfl, h4]
 have : q119 fuelH ([], []) = some true := by kernel_rfl
 rw [this]
 rfl
end
end Go.Mo
end
section
/-
 Plain facts: StlAccepts returns true.
-/
namespace Go.Mo
open Go Go.W Go.Lib
set_option maxRecDepth 100000
noncomputable section
def wtG (r : Reg) : Nat := r.1.length + 1 + (1 + (1 + (1 + (1 + (1 + 1)))))
def wtX (x : Ev) : Nat := 1 + (1 + 1 + (x.2.2.1.length + 1 + (1 + (x.2.2.2.2.1.length + 1 + (bkL wtR x.2.2.2.2.2 + 1)))))
def wtC (c : Cmt) : Nat := 1 + (1 + (1 + (1 + (c.2.2.2.2.1.length + 1 + (c.2.2.2.2.2.1.length + 1 + (1 + 1))))))
def wtD (d : Doc) : Nat := d.1.length + 1 + (d.2.1.length + 1 + (1 + (1 + (1 + (bkL wtG d.2.2.2.2.2.1 + 1 + (bkL wtX d.2.2.2.2.2.2.1 + 1 + (bkL wtC d.2.2.2.2.2.2.2 + 1)))))))
end
end Go.Mo
end
section
/-
 Plain facts: texts that are joined; the normal form of a row that is good.
-/
namespace Go.Mo
open Go Go.W Go.Lib
set_option maxRecDepth 100000
noncomputable section
def decP (t : List UInt8) (r : Int) : Bool := ieq ((decodeL (enc r ++ t)).1 : Int) r && decide ((decodeL (enc r ++ t)).2 = (enc r).length)
theorem dec_tab (t : List UInt8) : ((loRunes ++ hiRunes).all (decP t)) = true := by kernel_rfl
theorem dec_enc {r : Int} (hr : inRep r = true) (t : List UInt8) : ((decodeL (enc r ++ t)).1 : Int) = r ∧ (decodeL (enc r ++ t)).2 = (enc r).length := by
 have h : decP t r = true := all_rep (dec_tab t) hr
 unfold decP at h
 rw [Bool.and_eq_true, ieq_tt, decide_eq_true_eq] at h
 exact h
theorem enc_ne2 {r : Int} (hr : inRep r = true) : enc r ≠ [] := by
 have h := all_rep (P := fun r => !(enc r).isEmpty) (by kernel_rfl) hr
 intro e
 simp [e] at h
theorem rns_ofR : ∀ (l : List Int) (t : List UInt8), l.all inRep = true → rns (ofR l ++ t) = l ++ rns t
 | [], t, _ => rfl
 | r :: l, t, h => by
  rw [List.all_cons, Bool.and_eq_true] at h
  have e : ofR (r :: l) ++ t = enc r ++ (ofR l ++ t) := by unfold ofR; rw [List.flatMap_cons, List.append_assoc]
  obtain ⟨d1, d2⟩ := dec_enc h.1 (ofR l ++ t)
  rw [e, rns_step _ (by simp [enc_ne2 h.1]), d1, d2, List.drop_left, rns_ofR l t h.2]
  rfl
theorem vld_ofR : ∀ (l : List Int) (t : List UInt8), l.all inRep = true → vld (ofR l ++ t) = vld t
 | [], t, _ => rfl
 | r :: l, t, h => by
  rw [List.all_cons, Bool.and_eq_true] at h
  have e : ofR (r :: l) ++ t = enc r ++ (ofR l ++ t) := by unfold ofR; rw [List.flatMap_cons, List.append_assoc]
  obtain ⟨d1, d2⟩ := dec_enc h.1 (ofR l ++ t)
  rw [e, vld_step _ (by simp [enc_ne2 h.1]), d1, d2, List.drop_left, if_pos h.1, vld_ofR l t h.2]
theorem rns_cat {a : List UInt8} (h : vld a = true) (b : List UInt8) : rns (a ++ b) = rns a ++ rns b := by
 conv => lhs; rw [← ofR_rns h]
 exact rns_ofR _ _ (rns_ok h)
theorem vld_cat {a : List UInt8} (h : vld a = true) (b : List UInt8) : vld (a ++ b) = vld b := by
 conv => lhs; rw [← ofR_rns h]
 exact vld_ofR _ _ (rns_ok h)
theorem plainT_app (a b : Row) : plainT (a ++ b) = plainT a ++ plainT b := by unfold plainT; rw [List.flatMap_append]
theorem plainT_one (x : Run) : plainT [x] = x.1 := by unfold plainT; simp
theorem snoc_plain (out : Row) (x : Run) : plainT (snoc out x) = plainT out ++ x.1 := by
 unfold snoc
 split
 ·rename_i h; rw [h, List.append_nil]
 ·split
  ·rename_i p hp
   split
   ·rw [plainT_app, plainT_one]
    conv => rhs; rw [last_eq hp, plainT_app, plainT_one]
    simp
   ·rw [plainT_app, plainT_one]
  ·rw [plainT_app, plainT_one]
theorem fold_plain : ∀ (l out : Row), plainT (l.foldl snoc out) = plainT out ++ plainT l
 | [], out => by simp [plainT]
 | x :: l, out => by
  rw [List.foldl_cons, fold_plain l, snoc_plain]
  have : plainT (x :: l) = x.1 ++ plainT l := by unfold plainT; rw [List.flatMap_cons]
  rw [this, List.append_assoc]
theorem lenT_plain : ∀ (l : Row), (∀ x ∈ l, vld x.1 = true) → lenT l = (rns (plainT l)).length
 | [], _ => rfl
 | x :: l, h => by
  have : plainT (x :: l) = x.1 ++ plainT l := by unfold plainT; rw [List.flatMap_cons]
  rw [this, rns_cat (h x List.mem_cons_self), List.length_append, ← lenT_plain l fun y hy => h y (List.mem_cons_of_mem _ hy)]
  rfl
def lst (p : Option Run) (out : Row) : Option Run := match out.getLast? with
 | some q => some q
 | none => p
theorem lst_cons (p : Option Run) (y : Run) (out : Row) : lst p (y :: out) = lst (some y) out := by
 unfold lst
 rw [List.getLast?_cons]
 cases out.getLast? <;> rfl
theorem chk_snoc : ∀ (out : Row) (p : Option Run) (x : Run), chkL p (out ++ [x]) = 0 ↔ chkL p out = 0 ∧ runChk (lst p out) x = 0
 | [], p, x => by
  simp only [List.nil_append, chkL, lst, List.getLast?_nil]
  by_cases h : runChk p x ≠ 0
  ·rw [if_pos h]; simp
  ·rw [if_neg h]; simpa using h
 | y :: out, p, x => by
  simp only [List.cons_append, chkL]
  by_cases h : runChk p y ≠ 0
  ·rw [if_pos h, if_pos h]; exact ⟨fun k => absurd k h, fun k => absurd k.1 h⟩
  ·rw [if_neg h, if_neg h, chk_snoc out (some y) x, lst_cons]
theorem runChk_zero {p : Option Run} {x : Run} : runChk p x = 0 ↔ vld x.1 = true ∧ x.1 ≠ [] ∧ n8 x.2.1.1 ≤ 6 ∧ vld x.2.2 = true ∧ ∀ q, p = some q → ¬ alikeP q x := by
 unfold runChk
 by_cases h1 : vld x.1 = false
 ·rw [if_pos h1]; simp [h1]
 rw [if_neg h1]
 by_cases h2 : x.1 = []
 ·rw [if_pos h2]; simp [h2]
 rw [if_neg h2]
 by_cases h3 : n8 x.2.1.1 ≤ 6
 ·rw [if_neg (not_not_intro h3)]
  by_cases h4 : vld x.2.2 = false
  ·rw [if_pos h4]; simp [h4]
  rw [if_neg h4]
  have h1 : vld x.1 = true := by simpa using h1
  have h4 : vld x.2.2 = true := by simpa using h4
  cases p with
  | none => exact ⟨fun _ => ⟨h1, h2, h3, h4, fun q hq => by cases hq⟩, fun _ => rfl⟩
  | some q =>
   simp only
   by_cases h5 : alikeP q x
   ·rw [if_pos h5]; exact ⟨fun k => (by cases k), fun k => absurd h5 (k.2.2.2.2 q rfl)⟩
   ·rw [if_neg h5]; exact ⟨fun _ => ⟨h1, h2, h3, h4, fun r hr => by injection hr with hr; rw [← hr]; exact h5⟩, fun _ => rfl⟩
 ·rw [if_pos h3]; exact ⟨fun k => (by cases k), fun k => absurd k.2.2.1 h3⟩
def goodS (out : Row) : Prop := chkL none out = 0 ∧ ∀ x ∈ out, x.2.2 = []
theorem snoc_good {out : Row} {x : Run} (h : goodS out) (h1 : vld x.1 = true) (h2 : n8 x.2.1.1 ≤ 6) (h3 : x.2.2 = []) : goodS (snoc out x) := by
 have hv : vld x.2.2 = true := by rw [h3]; rfl
 unfold snoc
 split
 ·exact h
 ·rename_i he
  split
  ·rename_i p hp
   have e := last_eq hp
   have hin : p ∈ out := by rw [e]; simp
   split
   ·rename_i ha
    have hc := h.1
    rw [e, chk_snoc, runChk_zero] at hc
    obtain ⟨c1, c2, c3, c4, c5, c6⟩ := hc
    refine ⟨(chk_snoc _ _ _).2 ⟨c1, runChk_zero.2 ⟨?_, by simp [he], c4, c5, fun q hq k => c6 q hq ⟨k.1, k.2.1, k.2.2⟩⟩⟩, fun y hy => ?_⟩
    ·rw [vld_cat c2]; exact h1
    ·rcases List.mem_append.1 hy with hy | hy
     ·exact h.2 y (List.dropLast_subset _ hy)
     ·rw [List.mem_singleton.1 hy]; exact h.2 p hin
   ·rename_i ha
    refine ⟨(chk_snoc _ _ _).2 ⟨h.1, runChk_zero.2 ⟨h1, he, h2, hv, fun q hq => ?_⟩⟩, fun y hy => ?_⟩
    ·unfold lst at hq
     rw [hp] at hq
     injection hq with hq
     rw [← hq]; exact ha
    ·rcases List.mem_append.1 hy with hy | hy
     ·exact h.2 y hy
     ·rw [List.mem_singleton.1 hy]; exact h3
  ·rename_i hp
   have : out = [] := List.getLast?_eq_none_iff.1 hp
   subst this
   refine ⟨(chk_snoc _ _ _).2 ⟨rfl, runChk_zero.2 ⟨h1, he, h2, hv, fun q hq => by cases hq⟩⟩, fun y hy => ?_⟩
   rw [List.nil_append] at hy
   rw [List.mem_singleton.1 hy]; exact h3
theorem norm_id : ∀ (l pre : Row), chkL pre.getLast? l = 0 → l.foldl snoc pre = pre ++ l
 | [], pre, _ => by simp
 | x :: l, pre, h => by
  simp only [chkL] at h
  split at h
  ·rename_i hc; exact absurd h hc
  ·rename_i hc
   have hc : runChk pre.getLast? x = 0 := by simpa using hc
   rw [runChk_zero] at hc
   have e : snoc pre x = pre ++ [x] := by
    rw [snoc_ne hc.2.1]
    cases hp : pre.getLast? with
    | none => rfl
    | some p => simp only; rw [if_neg (hc.2.2.2.2 p hp)]
   rw [List.foldl_cons, e, norm_id l _ (by rw [List.getLast?_concat]; exact h), List.append_assoc]
   rfl
theorem rowE_zero {l : Row} (h : rowE l = 0) : rowChk l = 0 ∧ neatT (plainT l) = true ∧ lenT l ≤ 32 := by
 unfold rowE at h
 split at h
 ·rename_i hc; exact absurd h hc
 split at h
 ·cases h
 split at h
 ·cases h
 rename_i c1 c2 c3
 exact ⟨by simpa using c1, by simpa using c2, by omega⟩
theorem rowsE_of : ∀ (l : List Row) (k : Int), (∀ r ∈ l, rowE r = 0) → rowsE l k = k
 | [], _, _ => rfl
 | r :: l, k, h => by
  simp only [rowsE]
  rw [if_neg (by rw [h r List.mem_cons_self]; simp)]
  exact rowsE_of l k fun q hq => h q (List.mem_cons_of_mem _ hq)
end
end Go.Mo
end
section
/-
 Plain facts: the regions of a reduced document; its events stand where they stood.
-/
namespace Go.Mo
open Go Go.W Go.Lib
set_option maxRecDepth 100000
noncomputable section
end
end Go.Mo
end
section
/-
 Plain facts: a reduced document is good; StlReduced returns true.
-/
namespace Go.Mo
open Go Go.W Go.Lib
set_option maxRecDepth 100000
noncomputable section
theorem doc_parts {d : Doc} (h : docChk d = 0) : headChk d = 0 ∧ d.2.2.2.2.2.2.1.length ≤ 400 ∧ evsChk d = 0 := by
 unfold docChk at h
 split at h
 ·rename_i hc; exact absurd h hc
 rename_i c1
 split at h
 ·rename_i hc; exact absurd h hc
 split at h
 ·cases h
 rename_i hn
 split at h
 ·rename_i hc; exact absurd h hc
 rename_i hc
 exact ⟨by simpa using c1, by omega, by simpa using hc⟩
end
end Go.Mo
end
section
/-
 Plain facts: digits and the bytes of a header.
-/
namespace Go.Mo
open Go Go.W Go.Lib
set_option maxRecDepth 100000
def dg (v : Int) : UInt8 := b8 (w64 (iadd 48 (imod v 10)))
def dv (v : Int) : Int := w64 (idiv v 10)
end Go.Mo
end
section
/-
 Plain facts: what the check of a header lets through; the bytes of a header.
-/
namespace Go.Mo
open Go Go.W Go.Lib
set_option maxRecDepth 100000
noncomputable section
def lblOk (l : Lbl) : Prop := (0 ≤ l.1 ∧ l.1 ≤ 23) ∧ (0 ≤ l.2.1 ∧ l.2.1 ≤ 59) ∧ (0 ≤ l.2.2.1 ∧ l.2.2.1 ≤ 59) ∧ (0 ≤ l.2.2.2.1 ∧ l.2.2.2.1 ≤ 59)
structure HdrOk (h : Hdr) : Prop where
 rate : h.1 = 3 ∨ h.1 = 5
 lang : h.2.1 = [] ∨ nm h.2.1 = true
 ttl : vld h.2.2.1 = true
 ttlL : h.2.2.1.length ≤ 400
 blocks : 0 ≤ h.2.2.2.1 ∧ h.2.2.2.1 ≤ 99999
 groups : 0 ≤ h.2.2.2.2.1 ∧ h.2.2.2.2.1 ≤ 99999
 start : lblOk h.2.2.2.2.2.1
 first : lblOk h.2.2.2.2.2.2.1
 rows : 0 ≤ h.2.2.2.2.2.2.2.1 ∧ h.2.2.2.2.2.2.2.1 ≤ 99
 cols : 0 ≤ h.2.2.2.2.2.2.2.2 ∧ h.2.2.2.2.2.2.2.2 ≤ 99
 d1 : h.2.2.2.2.2.1.2.2.2.2 = false
 d2 : h.2.2.2.2.2.2.1.2.2.2.2 = false
end
end Go.Mo
end
section
/-
 Plain facts: numbers and names read back.
-/
namespace Go.Mo
open Go Go.W Go.Lib
set_option maxRecDepth 100000
noncomputable section
theorem n8_b8 {x : Int} (h : 0 ≤ x ∧ x < 256) : n8 (b8 x) = x := by
 unfold n8 b8
 rw [UInt8.toNat_ofNat']
 omega
theorem dg_n8 {v : Int} (h : 0 ≤ v) : n8 (dg v) = 48 + v % 10 := by
 unfold dg iadd imod
 have e : v.tmod 10 = v % 10 := Int.tmod_eq_emod_of_nonneg h
 have h1 := Int.emod_nonneg v (show (10 : Int) ≠ 0 by decide)
 have h2 := Int.emod_lt_of_pos v (show (0 : Int) < 10 by decide)
 rw [e, w64_id (by omega), n8_b8 (by omega)]
theorem dv_eq {v : Int} (h : 0 ≤ v ∧ v ≤ 1000000) : dv v = v / 10 := by
 unfold dv idiv
 rw [Int.tdiv_eq_ediv_of_nonneg h.1, w64_id (by omega)]
end
end Go.Mo
end
section
/-
 Plain facts: a header read back; TapeHeaders.
-/
namespace Go.Mo
open Go Go.W Go.Lib
set_option maxRecDepth 100000
noncomputable section
def hz : Hdr := ((0 : UInt8), ([] : List UInt8), ([] : List UInt8), (0 : Int), (0 : Int), ((0 : Int), (0 : Int), (0 : Int), (0 : Int), false), ((0 : Int), (0 : Int), (0 : Int), (0 : Int), false), (0 : Int), (0 : Int))
end
end Go.Mo
end
section
/-
 Plain facts: rows that are read are small; a subtitle that is read, both sides.
-/
namespace Go.Mo
open Go Go.W Go.Lib
set_option maxRecDepth 100000
noncomputable section
theorem fold_ruby : ∀ (l out : Row), (∀ x ∈ out, x.2.2 = []) → (∀ x ∈ l, x.2.2 = []) → ∀ x ∈ l.foldl snoc out, x.2.2 = []
 | [], out, h, _ => h
 | y :: l, out, h, hl => by
  refine fold_ruby l _ ?_ fun z hz => hl z (List.mem_cons_of_mem _ hz)
  have hy := hl y List.mem_cons_self
  unfold snoc
  split
  ·exact h
  ·split
   ·rename_i p hp
    have e := last_eq hp
    have hin : p ∈ out := by rw [e]; simp
    split
    ·intro x hx
     rcases List.mem_append.1 hx with hx | hx
     ·exact h x (List.dropLast_subset _ hx)
     ·rw [List.mem_singleton.1 hx]; exact h p hin
    ·intro x hx
     rcases List.mem_append.1 hx with hx | hx
     ·exact h x hx
     ·rw [List.mem_singleton.1 hx]; exact hy
   ·intro x hx
    rcases List.mem_append.1 hx with hx | hx
    ·exact h x hx
    ·rw [List.mem_singleton.1 hx]; exact hy
theorem norm_tot (l : Row) : tot (normR l) = tot l := by
 rw [← plainT_len, ← plainT_len]
 unfold normR
 rw [fold_plain]
 rfl
end
end Go.Mo
end
section
/-
 Plain facts: events in document order, both sides.
-/
namespace Go.Mo
open Go Go.W Go.Lib
set_option maxRecDepth 100000
noncomputable section
def evz : Ev := ((0 : Int), (((0 : Int), (0 : Int)), ([], ((0 : UInt8), ([], [])))))
def kS (x : Ev) (out : List Ev) : Nat → Nat
 | 0 => 0
 | k + 1 => if lessE x (lget out k evz) then kS x out k else k + 1
def insE (out : List Ev) (x : Ev) : List Ev := out.take (kS x out out.length) ++ x :: out.drop (kS x out out.length)
def sortE (l : List Ev) : List Ev := l.foldl insE []
theorem kS_le (x : Ev) (out : List Ev) : ∀ k, kS x out k ≤ k
 | 0 => Nat.le_refl _
 | k + 1 => by
  simp only [kS]
  split
  ·have := kS_le x out k; omega
  ·exact Nat.le_refl _
theorem insE_len (out : List Ev) (x : Ev) : (insE out x).length = out.length + 1 := by
 have := kS_le x out out.length
 unfold insE
 rw [List.length_append, List.length_cons, List.length_take, List.length_drop]
 omega
theorem sort_len (l : List Ev) : (sortE l).length = l.length := by
 have : ∀ (l out : List Ev), (l.foldl insE out).length = out.length + l.length := by
  intro l
  induction l with
  | nil => intro out; rfl
  | cons x l ih => intro out; rw [List.foldl_cons, ih, insE_len, List.length_cons]; omega
 have := this l []
 simpa [sortE] using this
theorem sort_take (l : List Ev) (i : Nat) (h : i < l.length) : sortE (l.take (i + 1)) = insE (sortE (l.take i)) l[i] := by
 unfold sortE
 rw [List.take_succ_eq_append_getElem h, List.foldl_append]
 rfl
def tinyE (x : Ev) : Prop := x.2.2.2.2.2.length ≤ 1000000 ∧ ∀ r ∈ x.2.2.2.2.2, r.length ≤ 1000000
theorem clone_run {l : Row} (h : l.length ≤ 4000000) : q99 fuelH l = some l := by
 have h1 : grd (room (iadd (len ([] : Row)) (len l)) 40) (some (lapp ([] : Row) l)) = some l := by
  rw [grd_t (room_t (by simp only [iadd, len, List.length_nil]; omega))]; rfl
 unfold q99
 cases l with
 | nil =>
  rw [cnd_f (by rfl)]
  exact univ_of rfl h1
 | cons r l =>
  rw [cnd_t (ine_t (by simp only [len, List.length_cons]; omega))]
  exact h1
theorem style_clone {l : List Row} (hl : l.length ≤ 1000000) (h : ∀ r ∈ l, r.length ≤ 1000000) : q100 fuelH l = some l := by
 unfold q100
 rw [clone_rows (by omega), bnd_some', jn_e]
 refine loop_inv (n := l.length) (fun (a : List Row) (i : Nat) => ((i : Int), a)) (fun _ a => a = l) _ (fun self a i hi hI => ?_) (fun self a hI => ?_) fuelH 0 l (Nat.zero_le _) (by have := fuelH_eq; omega) rfl
 ·subst hI
  have hin : inb (i : Int) (len a) = true := inb_t (by simp only [len]; omega)
  have hr := h _ (List.getElem_mem hi)
  refine ⟨a, ?_, rfl⟩
  have ht : toN (i : Int) = i := by simp [toN]
  simp only
  rw [cnd_t (ilt_t (by simp only [len]; omega)), grd_t hin, lget_i hi, clone_run (by omega), bnd_some', grd_t hin, w64_succ hi (by omega), ht]
  unfold lset
  rw [List.set_getElem_self]
 ·simp only
  rw [cnd_f (ilt_f (by simp only [len]; omega)), hI]
theorem event_clone {x : Ev} (h : tinyE x) : q101 fuelH x = some x := by
 unfold q101
 rw [style_clone h.1 h.2]
 rfl
theorem evz_eq : ((0 : Int), (((0 : Int), (0 : Int)), ([], ((0 : UInt8), ([], []))))) = evz := rfl
end
end Go.Mo
end
section
/-
 Plain facts: the program's sorting of few events.
-/
namespace Go.Mo
open Go Go.W Go.Lib
set_option maxRecDepth 100000
noncomputable section
theorem sort_cmp (a b : Ev) : ∃ v, q102 fuelH (a, b) = some v ∧ (v < 0 ↔ lessE a b) := by
 unfold q102
 simp only
 rw [cmp_eq, bnd_some', cmp_eq, bnd_some', or_eq, bnd_some']
 refine ⟨_, rfl, ?_⟩
 unfold lessE
 by_cases h1 : a.2.1.1 < b.2.1.1
 ·rw [if_pos h1, if_pos (by decide)]
  exact ⟨fun _ => .inl h1, fun _ => by decide⟩
 ·rw [if_neg h1]
  by_cases h2 : b.2.1.1 < a.2.1.1
  ·rw [if_pos h2, if_pos (by decide)]
   exact ⟨fun h => by omega, fun h => by omega⟩
  ·rw [if_neg h2, if_neg (by decide)]
   by_cases h3 : a.1 < b.1
   ·rw [if_pos h3]
    exact ⟨fun _ => .inr ⟨by omega, h3⟩, fun _ => by decide⟩
   ·rw [if_neg h3]
    split
    ·exact ⟨fun h => by omega, fun h => by omega⟩
    ·exact ⟨fun h => by omega, fun h => by omega⟩
theorem move_in {P rest : List Ev} {x : Ev} (hP : P.length + rest.length ≤ 1000) (K : List Ev → Option (List Ev)) (F : (Int × List Ev → Option (List Ev)) → Int × List Ev → Option (List Ev))
  (hz : ∀ s D, F s ((0 : Int), D) = K D)
  (hs : ∀ s (k : Nat) (D : List Ev), k + 1 < D.length → D.length ≤ 1001 → F s (((k + 1 : Nat) : Int), D) = if lessE (lget D (k + 1) evz) (lget D k evz) then s ((k : Int), (D.set (k + 1) (lget D k evz)).set k (lget D (k + 1) evz)) else K D) :
  ∀ (fuel k : Nat), k < fuel → k ≤ P.length → fixN F fuel ((k : Int), P.take k ++ x :: P.drop k ++ rest) = K (P.take (kS x P k) ++ x :: P.drop (kS x P k) ++ rest)
 | 0, k, h, _ => by omega
 | fuel + 1, 0, _, _ => by rw [fixN_s, show ((0 : Nat) : Int) = 0 from rfl, hz]; rfl
 | fuel + 1, k + 1, h, hk => by
  have hl : (P.take (k + 1)).length = k + 1 := by rw [List.length_take]; omega
  have hD : (P.take (k + 1) ++ x :: P.drop (k + 1) ++ rest).length = P.length + 1 + rest.length := by
   rw [List.length_append, List.length_append, List.length_cons, hl, List.length_drop]; omega
  have hk' : k < P.length := by omega
  have et : P.take (k + 1) = P.take k ++ [P[k]] := List.take_succ_eq_append_getElem hk'
  have hlk : (P.take k).length = k := by rw [List.length_take]; omega
  have eD : P.take (k + 1) ++ x :: P.drop (k + 1) ++ rest = P.take k ++ (P[k] :: x :: (P.drop (k + 1) ++ rest)) := by
   rw [et]
   simp only [List.append_assoc, List.singleton_append, List.cons_append, List.nil_append]
  have g1 : lget (P.take (k + 1) ++ x :: P.drop (k + 1) ++ rest) (k + 1) evz = x := by
   rw [eD]
   unfold lget
   rw [List.getD_eq_getElem?_getD, List.getElem?_append_right (by omega), hlk, show k + 1 - k = 1 by omega]
   rfl
  have g0 : lget (P.take (k + 1) ++ x :: P.drop (k + 1) ++ rest) k evz = P[k] := by
   rw [eD]
   unfold lget
   rw [List.getD_eq_getElem?_getD, List.getElem?_append_right (by omega), hlk, Nat.sub_self]
   rfl
  have g2 : lget P k evz = P[k] := by
   unfold lget
   rw [List.getD_eq_getElem?_getD, List.getElem?_eq_getElem hk']
   rfl
  rw [fixN_s, hs _ k _ (by omega) (by omega), g1, g0]
  simp only [kS]
  rw [g2]
  by_cases hc : lessE x P[k]
  ·rw [if_pos hc, if_pos hc]
   have e2 : ((P.take (k + 1) ++ x :: P.drop (k + 1) ++ rest).set (k + 1) P[k]).set k x = P.take k ++ x :: P.drop k ++ rest := by
    rw [eD, List.set_append_right _ _ (by omega), hlk, show k + 1 - k = 1 by omega, List.set_append_right _ _ (by omega), hlk, Nat.sub_self]
    show P.take k ++ (x :: P[k] :: (P.drop (k + 1) ++ rest)) = _
    rw [List.drop_eq_getElem_cons hk']
    simp only [List.append_assoc, List.cons_append]
   rw [e2]
   exact move_in hP K F hz hs fuel k (by omega) (by omega)
  ·rw [if_neg hc, if_neg hc]
theorem ins_sort {l : List Ev} (hl : l.length ≤ 1000) : q103 fuelH (l, (0 : Int), len l) = some (sortE l) := by
 unfold q103
 simp only
 have h1 : w64 (iadd (0 : Int) (1 : Int)) = ((1 : Nat) : Int) := rfl
 rw [h1]
 by_cases h0 : l.length = 0
 ·have : l = [] := List.eq_nil_of_length_eq_zero h0
  subst this
  have := fuelH_eq
  obtain ⟨n, hn⟩ : ∃ n, fuelH = n + 1 := ⟨fuelH - 1, by omega⟩
  rw [hn, fixN_s]
  rfl
 refine loop_inv (n := l.length) (fun (a : List Ev) (i : Nat) => ((i : Int), a)) (fun i a => a = sortE (l.take i) ++ l.drop i) _ (fun self a i hi hI => ?_) (fun self a hI => ?_) fuelH 1 l (by omega) (by have := fuelH_eq; omega) ?_
 ·refine ⟨sortE (l.take (i + 1)) ++ l.drop (i + 1), ?_, rfl⟩
  have hPl : (sortE (l.take i)).length = i := by rw [sort_len, List.length_take]; omega
  have ha : a = (sortE (l.take i)).take i ++ l[i] :: (sortE (l.take i)).drop i ++ l.drop (i + 1) := by
   have e1 : (sortE (l.take i)).take i = sortE (l.take i) := List.take_of_length_le (by omega)
   have e2 : (sortE (l.take i)).drop i = [] := List.drop_eq_nil_of_le (by omega)
   rw [hI, e1, e2, List.drop_eq_getElem_cons hi]
   simp only [List.append_assoc, List.singleton_append, List.cons_append, List.nil_append]
  simp only
  rw [cnd_t (ilt_t (by simp only [len]; omega)), jn_e, ha]
  refine (move_in (P := sortE (l.take i)) (rest := l.drop (i + 1)) (x := l[i]) (by rw [hPl, List.length_drop]; omega) (fun D => self (((i + 1 : Nat) : Int), D)) _ (fun s D => ?_) (fun s k D hk hD => ?_) fuelH i (by have := fuelH_eq; omega) (by omega)).trans ?_
  ·rw [cnd_f (ilt_f (by show ¬ (0 : Int) < 0; omega)), w64_succ hi (by omega)]
  ·obtain ⟨v, hv, hv2⟩ := sort_cmp (lget D (k + 1) evz) (lget D k evz)
   have i1 : inb ((k + 1 : Nat) : Int) (len D) = true := inb_t (by simp only [len]; omega)
   have i0 : inb (k : Int) (len D) = true := inb_t (by simp only [len]; omega)
   have t1 : ∀ n : Nat, toN (n : Int) = n := fun n => by simp [toN]
   have hset : ∀ y, (lset D (k + 1) y).length = D.length := fun y => List.length_set
   have i2 : ∀ y, inb (k : Int) (len (lset D (k + 1) y)) = true := fun y => inb_t (by simp only [len, hset]; omega)
   simp only
   rw [cnd_t (ilt_t (by omega)), grd_t i1, w64_back (by omega), grd_t i0, t1, t1, evz_eq, hv, bnd_some', cnd_ilt]
   by_cases hc : lessE (lget D (k + 1) evz) (lget D k evz)
   ·rw [if_pos hc, if_pos (hv2.2 hc), grd_t i0, grd_t i1, grd_t i1, grd_t (i2 _)]
    rfl
   ·rw [if_neg hc, if_neg fun h => hc (hv2.1 h), w64_succ hi (by omega)]
  ·rw [sort_take l i hi]
   unfold insE
   rw [hPl]
 ·simp only
  rw [cnd_f (ilt_f (by simp only [len]; omega)), hI, List.take_length, List.drop_length, List.append_nil]
 ·cases l with
  | nil => exact absurd rfl h0
  | cons x l => rfl
theorem prog_sort {l : List Ev} (hl : l.length ≤ 19) (h : ∀ x ∈ l, tinyE x) : q109 fuelH l = some (sortE l) := by
 have hs : q108 fuelH l = some (sortE l) := by
  unfold q108 q107
  simp only
  obtain ⟨n, hn⟩ : ∃ n, fuelH = n + 1 := ⟨fuelH - 1, by have := fuelH_eq; omega⟩
  have e1 := ins_sort (l := l) (by omega)
  have step : ∀ (F : (Int × Int × List Ev → Option (List Ev)) → Int × Int × List Ev → Option (List Ev)) (s : Int × Int × List Ev) (R : Option (List Ev)), (∀ self, F self s = R) → fixN F fuelH s = R := fun F s R h => by rw [hn, fixN_s, h]
  have step2 : ∀ (F : (Int × List Ev → Option (List Ev)) → Int × List Ev → Option (List Ev)) (s : Int × List Ev) (R : Option (List Ev)), (∀ self, F self s = R) → fixN F fuelH s = R := fun F s R h => by rw [hn, fixN_s, h]
  rw [jn_e, step _ _ (some (sortE l)) fun self => by
   simp only
   rw [cnd_f (ile_f (by simp only [len]; omega)), e1, bnd_some']
   refine step2 _ _ _ fun self => ?_
   simp only
   rw [cnd_f (ilt_f (by simp only [len]; omega))]]
  rfl
 unfold q109
 rw [jn_e]
 refine loop_inv (n := l.length) (fun (a : List Ev) (i : Nat) => (a, (i : Int))) (fun i a => a = l.take i) _ (fun self a i hi hI => ?_) (fun self a hI => ?_) fuelH 0 [] (Nat.zero_le _) (by have := fuelH_eq; omega) rfl
 ·have ha : a.length ≤ i := by rw [hI, List.length_take]; omega
  refine ⟨a ++ [l[i]], ?_, by rw [hI, List.take_succ_eq_append_getElem hi]⟩
  simp only
  rw [cnd_t (ilt_t (by simp only [len]; omega)), grd_t (inb_t (by simp only [len]; omega)), lget_i hi, event_clone (h _ (List.getElem_mem hi)), bnd_some', grd_t (room_t (by simp only [iadd, len, List.length_singleton]; omega)), w64_succ hi (by omega)]
  rfl
 ·simp only
  rw [cnd_f (ilt_f (by simp only [len]; omega)), hI, List.take_length, hs]
  rfl
end
end Go.Mo
end
section
/-
 Plain facts: what is read is a valid document that the form carries; StlValid returns true.
-/
namespace Go.Mo
open Go Go.W Go.Lib
set_option maxRecDepth 100000
noncomputable section
end
end Go.Mo
end
section
/-
 Plain facts: the blocks of a subtitle lead back to it.
-/
namespace Go.Mo
open Go Go.W Go.Lib
set_option maxRecDepth 100000
noncomputable section
theorem enc_tot : ∀ l : List Int, l.all inRep = true → (ofR l).length ≤ 4 * l.length
 | [], _ => Nat.le_refl _
 | r :: l, h => by
  rw [List.all_cons, Bool.and_eq_true] at h
  have h1 := enc_tot l h.2
  have h2 := enc_len4 h.1
  have e : ofR (r :: l) = enc r ++ ofR l := by unfold ofR; rw [List.flatMap_cons]
  rw [e, List.length_append, List.length_cons]
  omega
theorem tot_lenT : ∀ (l : Row), (∀ x ∈ l, vld x.1 = true) → tot l ≤ 4 * lenT l
 | [], _ => Nat.le_refl _
 | x :: l, h => by
  have h1 := tot_lenT l fun y hy => h y (List.mem_cons_of_mem _ hy)
  have hv := h x List.mem_cons_self
  have h2 := enc_tot (rns x.1) (rns_ok hv)
  rw [ofR_rns hv] at h2
  simp only [tot, lenT]
  omega
end
end Go.Mo
end
section
/-
 Plain facts: the file of an accepted document is read as the reduced document; StlCarries returns true.
-/
namespace Go.Mo
open Go Go.W Go.Lib
set_option maxRecDepth 100000
noncomputable section
theorem ins_id {out : List Ev} {x : Ev} (h : ∀ y, out.getLast? = some y → ¬ lessE x y) : insE out x = out ++ [x] := by
 have hk : kS x out out.length = out.length := by
  cases hn : out.length with
  | zero => rfl
  | succ n =>
   simp only [kS]
   rw [if_neg]
   refine h _ ?_
   have hlt : n < out.length := by omega
   rw [List.getLast?_eq_getElem?, show out.length - 1 = n by omega, List.getElem?_eq_getElem hlt]
   unfold lget
   rw [List.getD_eq_getElem?_getD, List.getElem?_eq_getElem hlt]
   rfl
 unfold insE
 rw [hk, List.take_length, List.drop_length]
theorem less_asym {a b : Ev} (h : lessE a b) : ¬ lessE b a := by unfold lessE at *; omega
theorem sort_id {l : List Ev} (h : l.Pairwise lessE) : sortE l = l := by
 have key : ∀ n, n ≤ l.length → sortE (l.take n) = l.take n := by
  intro n
  induction n with
  | zero => intro _; rfl
  | succ n ih =>
   intro hn
   rw [sort_take l n (by omega), ih (by omega), ins_id, List.take_succ_eq_append_getElem (by omega)]
   intro y hy
   cases n with
   | zero => cases hy
   | succ n =>
    rw [last_take (by omega)] at hy
    injection hy with hy
    rw [← hy]
    exact less_asym (List.pairwise_iff_getElem.1 h n (n + 1) (by omega) (by omega) (by omega))
 have := key l.length (Nat.le_refl _)
 rwa [List.take_length] at this
theorem chain_pw : ∀ l : List Ev, (∀ i (h : i + 1 < l.length), lessE l[i] l[i + 1]) → l.Pairwise lessE
 | [], _ => List.Pairwise.nil
 | [x], _ => List.pairwise_singleton _ _
 | x :: y :: l, h => by
  have ih := chain_pw (y :: l) fun i hi => h (i + 1) (by simpa using hi)
  have h0 : lessE x y := h 0 (by simp)
  refine List.pairwise_cons.2 ⟨fun z hz => ?_, ih⟩
  rcases List.mem_cons.1 hz with rfl | hz
  ·exact h0
  ·have := (List.pairwise_cons.1 ih).1 z hz
   unfold lessE at *
   omega
end
end Go.Mo
end
end

section
/-
  Plain facts: times and their texts, both sides; SubripClocks returns true.
-/
namespace Go.Mo
open Go Go.W Go.Lib
set_option maxRecDepth 100000
noncomputable section
theorem awake19 : l19_awake fuelH () = some true := by kernel_rfl
theorem dtab2 : ((List.range 100).all fun n => decide (q58 fuelH ((n : Int), 2) = some [dg (dv (n : Int)), dg (n : Int)])) = true := by kernel_rfl
theorem dtab3 : ((List.range 1000).all fun n => decide (q58 fuelH ((n : Int), 3) = some [dg (dv (dv (n : Int))), dg (dv (n : Int)), dg (n : Int)])) = true := by kernel_rfl
theorem sub_d2 {v : Int} (h0 : 0 ≤ v) (h1 : v < 100) : q58 fuelH (v, 2) = some [dg (dv v), dg v] := by
 have := of_decide_eq_true (List.all_eq_true.1 dtab2 v.toNat (List.mem_range.2 (by omega)))
 rwa [show ((v.toNat : Nat) : Int) = v by omega] at this
theorem sub_d3 {v : Int} (h0 : 0 ≤ v) (h1 : v < 1000) : q58 fuelH (v, 3) = some [dg (dv (dv v)), dg (dv v), dg v] := by
 have := of_decide_eq_true (List.all_eq_true.1 dtab3 v.toNat (List.mem_range.2 (by omega)))
 rwa [show ((v.toNat : Nat) : Int) = v by omega] at this
def clkB (h m s t : Int) : List UInt8 := [dg (dv h), dg h, 58, dg (dv m), dg m, 58, dg (dv s), dg s, 44, dg (dv (dv t)), dg (dv t), dg t]
def clkS (v : Int) : List UInt8 × Int := if v < 0 then ([], 2) else if 359999999 < v then ([], 2) else (clkB (v / 3600000) (v / 60000 % 60) (v / 1000 % 60) (v % 1000), 0)
theorem tdiv_w {a b : Int} (ha : 0 ≤ a ∧ a ≤ 359999999) (hb : 0 < b) : w64 (idiv a b) = a / b := by
 unfold idiv
 have h1 := Int.ediv_nonneg ha.1 (Int.le_of_lt hb)
 have h2 := Int.ediv_le_self b ha.1
 rw [Int.tdiv_eq_ediv_of_nonneg ha.1, w64_id (by omega)]
theorem tmod_w {a b : Int} (ha : 0 ≤ a) : imod a b = a % b := Int.tmod_eq_emod_of_nonneg ha
theorem sub_clock (v : Int) : q59 fuelH v = some (clkS v) := by
 unfold q59 clkS
 rw [cnd_ilt]
 by_cases h0 : v < 0
 ·rw [if_pos h0, if_pos h0]
 rw [if_neg h0, if_neg h0, cnd_ilt]
 by_cases h1 : 359999999 < v
 ·rw [if_pos h1, if_pos h1]
 have e1 := tdiv_w (a := v) (b := 1000) (by omega) (by omega)
 have e2 := tdiv_w (a := v / 1000) (b := 3600) (by omega) (by omega)
 have e3 := tdiv_w (a := v / 1000) (b := 60) (by omega) (by omega)
 rw [if_neg h1, if_neg h1, e1, e2, e3, tmod_w (a := v / 1000 / 60) (by omega), tmod_w (a := v / 1000) (by omega), tmod_w (a := v) (by omega), sub_d2 (by omega) (by omega), bnd_some', grd_t (by kernel_rfl), sub_d2 (by omega) (by omega), bnd_some', grd_t (by kernel_rfl), grd_t (by kernel_rfl), sub_d2 (by omega) (by omega), bnd_some', grd_t (by kernel_rfl), grd_t (by kernel_rfl), sub_d3 (by omega) (by omega), bnd_some', grd_t (by kernel_rfl)]
 rw [show v / 3600000 = v / 1000 / 3600 by omega, show v / 60000 = v / 1000 / 60 by omega]
 rfl
def isD (c : UInt8) : Prop := 48 ≤ n8 c ∧ n8 c ≤ 57
instance (c : UInt8) : Decidable (isD c) := by unfold isD; infer_instance
def stepD (c : UInt8) (n : Int) : Int := 10 * n + (n8 c - 48)
def allD (l : List UInt8) : Bool := l.all fun c => decide (isD c)
def valD (n : Int) (l : List UInt8) : Int := l.foldl (fun n c => stepD c n) n
def fldS (l : List UInt8) : Int := if allD l = true then valD 0 l else -1
theorem dig_val {c : UInt8} (h : isD c) : w64 (n8 (b8 (isub (n8 c) (48 : Int)))) = n8 c - 48 := by
 unfold isD at h
 unfold isub
 have : n8 (b8 (n8 c - 48)) = n8 c - 48 := by
  unfold b8
  show (((UInt8.ofNat ((n8 c - 48) % 256).toNat).toNat : Nat) : Int) = _
  rw [UInt8.toNat_ofNat']
  omega
 rw [this, w64_id (by omega)]
def bigD (n : Nat) : Int := (10 : Int) ^ n
theorem bigD_s (i : Nat) : bigD (i + 1) = 10 * bigD i := by unfold bigD; rw [Int.pow_succ]; omega
theorem bigD_le : ∀ i, i ≤ 12 → 1 ≤ bigD i ∧ bigD i ≤ 1000000000000 := by decide
theorem itI_dig : ∀ (l : List UInt8) (i : Nat) (n : Int), itI (fun _ c n => if isD c then .inr (stepD c n) else .inl (some (-1 : Int))) (fun n => some n) i l n = some (if allD l = true then valD n l else -1)
 | [], _, _ => rfl
 | c :: l, i, n => by
  simp only [itI]
  by_cases h : isD c
  ·rw [if_pos h]
   have e : allD (c :: l) = allD l := by unfold allD; rw [List.all_cons, decide_eq_true h, Bool.true_and]
   rw [e]
   exact itI_dig l (i + 1) _
  ·rw [if_neg h]
   have e : allD (c :: l) = false := by unfold allD; rw [List.all_cons, decide_eq_false h, Bool.false_and]
   rw [e]
   rfl
theorem sub_field {l : List UInt8} (hl : l.length ≤ 12) : q86 fuelH l = some (fldS l) := by
 unfold q86
 rw [jn_e]
 refine Eq.trans (lst_it (l := l) (fun (n : Int) (p : Nat) => (n, (p : Int))) (fun _ c n => if isD c then .inr (stepD c n) else .inl (some (-1 : Int))) (fun n => some n) (fun i n => 0 ≤ n ∧ n < bigD i) (fun self n i hi hI => ?_) (fun self n _ => ?_) fuelH 0 0 (Nat.zero_le _) (by have := fuelH_eq; omega) (by decide)) (by rw [List.drop_zero]; exact itI_dig l 0 0)
 ·have e48 : n8 (48 : UInt8) = 48 := rfl
  have e57 : n8 (57 : UInt8) = 57 := rfl
  have hin : inb (i : Int) (len l) = true := inb_t (by simp only [len]; omega)
  have hb := bigD_le i (by omega)
  simp only
  rw [cnd_t (ilt_t (by simp only [len]; omega)), grd_t hin, lget_i hi, grd_t hin, grd_t hin, e48, e57, cnd_ilt]
  by_cases h : isD l[i]
  ·have hd := h
   unfold isD at hd
   rw [if_pos h, if_neg (by omega), cnd_f (ilt_f (by omega)), dig_val h, w64_succ hi (by omega)]
   unfold imul iadd
   rw [w64_id (x := 10 * n) (by omega), w64_id (by omega)]
   refine ⟨rfl, ?_⟩
   rw [bigD_s]
   unfold stepD
   omega
  ·have hd := h
   unfold isD at hd
   rw [if_neg h]
   by_cases h1 : n8 l[i] < 48
   ·rw [if_pos h1]; rfl
   ·rw [if_neg h1, cnd_t (ilt_t (by omega))]; rfl
 ·simp only
  rw [cnd_f (ilt_f (by simp only [len]; omega))]
theorem itI_all : ∀ (l : List UInt8) (i : Nat), itI (fun _ c (_ : Unit) => if isD c then .inr () else .inl (some false)) (fun _ => some true) i l () = some (allD l)
 | [], _ => rfl
 | c :: l, i => by
  simp only [itI]
  by_cases h : isD c
  ·rw [if_pos h]
   have e : allD (c :: l) = allD l := by unfold allD; rw [List.all_cons, decide_eq_true h, Bool.true_and]
   rw [e]
   exact itI_all l (i + 1)
  ·rw [if_neg h]
   have e : allD (c :: l) = false := by unfold allD; rw [List.all_cons, decide_eq_false h, Bool.false_and]
   rw [e]
theorem ref_all {l : List UInt8} (hl : l.length ≤ 4000000) : q124 fuelH l = some (allD l) := by
 unfold q124
 rw [jn_e]
 refine Eq.trans (lst_it (l := l) (fun (_ : Unit) (p : Nat) => (p : Int)) (fun _ c (_ : Unit) => if isD c then .inr () else .inl (some false)) (fun _ => some true) (fun _ _ => True) (fun self n i hi hI => ?_) (fun self n _ => ?_) fuelH 0 () (Nat.zero_le _) (by have := fuelH_eq; omega) trivial) (by rw [List.drop_zero]; exact itI_all l 0)
 ·have e48 : n8 (48 : UInt8) = 48 := rfl
  have e57 : n8 (57 : UInt8) = 57 := rfl
  have hin : inb (i : Int) (len l) = true := inb_t (by simp only [len]; omega)
  rw [cnd_t (ilt_t (by simp only [len]; omega)), grd_t hin, lget_i hi, grd_t hin, e48, e57, cnd_ilt, w64_succ hi (by omega)]
  by_cases h : isD l[i]
  ·have hd := h
   unfold isD at hd
   rw [if_pos h, if_neg (by omega), cnd_f (ilt_f (by omega))]
   exact ⟨rfl, trivial⟩
  ·have hd := h
   unfold isD at hd
   rw [if_neg h]
   by_cases h1 : n8 l[i] < 48
   ·rw [if_pos h1]; rfl
   ·rw [if_neg h1, cnd_t (ilt_t (by omega))]; rfl
 ·rw [cnd_f (ilt_f (by simp only [len]; omega))]
theorem ref_value {l : List UInt8} (hl : l.length ≤ 12) (hd : allD l = true) : q125 fuelH l = some (valD 0 l) := by
 unfold q125
 rw [jn_e]
 have hc : ∀ i (h : i < l.length), isD l[i] := fun i h => of_decide_eq_true (List.all_eq_true.1 hd _ (List.getElem_mem h))
 refine loop_inv (n := l.length) (fun (n : Int) (p : Nat) => (n, (p : Int))) (fun i n => n = valD 0 (l.take i) ∧ 0 ≤ n ∧ n < bigD i) _ (fun self n i hi hI => ?_) (fun self n hI => ?_) fuelH 0 0 (Nat.zero_le _) (by have := fuelH_eq; omega) ⟨rfl, by decide⟩
 ·obtain ⟨e, hI⟩ := hI
  have hb := bigD_le i (by omega)
  have h := hc i hi
  have hd := h
  unfold isD at hd
  refine ⟨stepD l[i] n, ?_, ?_, ?_⟩
  ·simp only
   have hin : inb (i : Int) (len l) = true := inb_t (by simp only [len]; omega)
   rw [cnd_t (ilt_t (by simp only [len]; omega)), grd_t hin, lget_i hi, show n8 (48 : UInt8) = 48 from rfl, dig_val h, w64_succ hi (by omega)]
   unfold imul iadd
   rw [w64_id (x := 10 * n) (by omega), w64_id (by omega)]
   rfl
  ·rw [List.take_succ_eq_append_getElem hi, e]
   unfold valD
   rw [List.foldl_append]
   rfl
  ·rw [bigD_s]
   unfold stepD
   omega
 ·simp only
  rw [cnd_f (ilt_f (by simp only [len]; omega)), hI.1, List.take_length]
def hmsS (h m s t : Int) : Int := ((h * 60 + m) * 60 + s) * 1000 + t
def pcB : List UInt8 → Int × Int
 | [a, b, c2, c, d, c5, e, f, c8, g, h, i] => if c2 ≠ 58 then (0, 4) else if c5 ≠ 58 then (0, 4) else if c8 ≠ 44 ∧ c8 ≠ 46 then (0, 4) else
  if fldS [a, b] < 0 then (0, 4) else if fldS [c, d] < 0 then (0, 4) else if 59 < fldS [c, d] then (0, 4) else if fldS [e, f] < 0 then (0, 4) else if 59 < fldS [e, f] then (0, 4) else if fldS [g, h, i] < 0 then (0, 4) else
  (hmsS (fldS [a, b]) (fldS [c, d]) (fldS [e, f]) (fldS [g, h, i]), 0)
 | _ => (0, 4)
def pcT (a b c d e f g h i : UInt8) : Int × Int := if fldS [a, b] < 0 then (0, 4) else if fldS [c, d] < 0 then (0, 4) else if 59 < fldS [c, d] then (0, 4) else if fldS [e, f] < 0 then (0, 4) else if 59 < fldS [e, f] then (0, 4) else if fldS [g, h, i] < 0 then (0, 4) else
  (hmsS (fldS [a, b]) (fldS [c, d]) (fldS [e, f]) (fldS [g, h, i]), 0)
theorem pcB_eq (a b c2 c d c5 e f c8 g h i : UInt8) : pcB [a, b, c2, c, d, c5, e, f, c8, g, h, i] = if c2 ≠ 58 then (0, 4) else if c5 ≠ 58 then (0, 4) else if c8 ≠ 44 ∧ c8 ≠ 46 then (0, 4) else pcT a b c d e f g h i := rfl
theorem twelve {x : List UInt8} (h : x.length = 12) : ∃ a b c2 c d c5 e f c8 g h i, x = [a, b, c2, c, d, c5, e, f, c8, g, h, i] := by
 match x, h with
 | [a, b, c2, c, d, c5, e, f, c8, g, h, i], _ => exact ⟨a, b, c2, c, d, c5, e, f, c8, g, h, i, rfl⟩
theorem not12 {x : List UInt8} (h : x.length ≠ 12) : pcB x = (0, 4) := by
 unfold pcB
 split
 ·exact absurd rfl h
 ·rfl
theorem n8_ne {a b : UInt8} : ine (n8 a) (n8 b) = decide (a ≠ b) := by
 by_cases h : a = b
 ·subst h
  rw [decide_eq_false (by simp)]
  exact ine_f rfl
 ·rw [decide_eq_true h]
  exact ine_t fun k => h (n8_inj k)
theorem fld_bd2 (a b : UInt8) : fldS [a, b] ≤ 99 ∧ -1 ≤ fldS [a, b] := by
 unfold fldS
 split
 ·rename_i h
  have h1 : isD a := of_decide_eq_true (List.all_eq_true.1 h a (by simp))
  have h2 : isD b := of_decide_eq_true (List.all_eq_true.1 h b (by simp))
  unfold isD at h1 h2
  unfold valD stepD
  simp only [List.foldl]
  omega
 ·omega
theorem fld_bd3 (a b c : UInt8) : fldS [a, b, c] ≤ 999 ∧ -1 ≤ fldS [a, b, c] := by
 unfold fldS
 split
 ·rename_i h
  have h1 : isD a := of_decide_eq_true (List.all_eq_true.1 h a (by simp))
  have h2 : isD b := of_decide_eq_true (List.all_eq_true.1 h b (by simp))
  have h3 : isD c := of_decide_eq_true (List.all_eq_true.1 h c (by simp))
  unfold isD at h1 h2 h3
  unfold valD stepD
  simp only [List.foldl]
  omega
 ·omega
theorem hms_w {h m s t : Int} (h1 : 0 ≤ h ∧ h ≤ 99) (h2 : 0 ≤ m ∧ m ≤ 99) (h3 : 0 ≤ s ∧ s ≤ 99) (h4 : 0 ≤ t ∧ t ≤ 999) : w64 (iadd (w64 (imul (w64 (iadd (w64 (imul (w64 (iadd (w64 (imul h (60 : Int))) m)) (60 : Int))) s)) (1000 : Int))) t) = hmsS h m s t := by
 unfold iadd imul hmsS
 rw [w64_id (x := h * 60) (by omega), w64_id (x := h * 60 + m) (by omega), w64_id (x := (h * 60 + m) * 60) (by omega), w64_id (x := (h * 60 + m) * 60 + s) (by omega), w64_id (x := ((h * 60 + m) * 60 + s) * 1000) (by omega), w64_id (by omega)]
theorem sub_parse (x : List UInt8) : q89 fuelH x = some (pcB x) := by
 unfold q89
 rw [jn_e]
 by_cases hx : x.length = 12
 case neg =>
  rw [cnd_t (ine_t (by simp only [len]; omega)), not12 hx]
 obtain ⟨a, b, c2, c, d, c5, e, f, c8, g, h, i, rfl⟩ := twelve hx
 have b1 := fld_bd2 a b
 have b2 := fld_bd2 c d
 have b3 := fld_bd2 e f
 have b4 := fld_bd3 g h i
 rw [cnd_f (ine_f (show len ([a, b, c2, c, d, c5, e, f, c8, g, h, i] : List UInt8) = 12 from rfl)), grd_t (by kernel_rfl)]
 show cnd (ine (n8 c2) (n8 (58 : UInt8))) _ _ = _
 rw [n8_ne, cnd_dec]
 rw [pcB_eq]
 by_cases k2 : c2 ≠ 58
 ·rw [if_pos k2, if_pos k2]
 rw [if_neg k2, if_neg k2, grd_t (by kernel_rfl)]
 show cnd (ine (n8 c5) (n8 (58 : UInt8))) _ _ = _
 rw [n8_ne, cnd_dec]
 by_cases k5 : c5 ≠ 58
 ·rw [if_pos k5, if_pos k5]
 rw [if_neg k5, if_neg k5, grd_t (by kernel_rfl)]
 have rest : ∀ R, R = (grd (in2 (2 : Int) (len [a, b, c2, c, d, c5, e, f, c8, g, h, i])) <|
  bnd (q86 fuelH [a, b]) fun v1 =>
  bnd (q86 fuelH [c, d]) fun v2 =>
  bnd (q86 fuelH [e, f]) fun v3 =>
  bnd (q86 fuelH [g, h, i]) fun v4 =>
  cnd (ilt v1 (0 : Int))
   (some ((0 : Int), (4 : Int)))
   (cnd (ilt v2 (0 : Int))
    (some ((0 : Int), (4 : Int)))
    (cnd (ilt (59 : Int) v2)
     (some ((0 : Int), (4 : Int)))
     (cnd (ilt v3 (0 : Int))
      (some ((0 : Int), (4 : Int)))
      (cnd (ilt (59 : Int) v3)
       (some ((0 : Int), (4 : Int)))
       (cnd (ilt v4 (0 : Int))
        (some ((0 : Int), (4 : Int)))
        (some (w64 (iadd (w64 (imul (w64 (iadd (w64 (imul (w64 (iadd (w64 (imul v1 (60 : Int))) v2)) (60 : Int))) v3)) (1000 : Int))) v4), (0 : Int)))))))) ) →
  R = some (pcT a b c d e f g h i) := fun R hR => by
  rw [hR, grd_t (by kernel_rfl), sub_field (by simp), bnd_some', sub_field (by simp), bnd_some', sub_field (by simp), bnd_some', sub_field (by simp), bnd_some']
  unfold pcT
  rw [cnd_ilt]
  by_cases q1 : fldS [a, b] < 0
  ·rw [if_pos q1, if_pos q1]
  rw [if_neg q1, if_neg q1, cnd_ilt]
  by_cases q2 : fldS [c, d] < 0
  ·rw [if_pos q2, if_pos q2]
  rw [if_neg q2, if_neg q2, cnd_ilt]
  by_cases q3 : 59 < fldS [c, d]
  ·rw [if_pos q3, if_pos q3]
  rw [if_neg q3, if_neg q3, cnd_ilt]
  by_cases q4 : fldS [e, f] < 0
  ·rw [if_pos q4, if_pos q4]
  rw [if_neg q4, if_neg q4, cnd_ilt]
  by_cases q5 : 59 < fldS [e, f]
  ·rw [if_pos q5, if_pos q5]
  rw [if_neg q5, if_neg q5, cnd_ilt]
  by_cases q6 : fldS [g, h, i] < 0
  ·rw [if_pos q6, if_pos q6]
  rw [if_neg q6, if_neg q6, hms_w (by omega) (by omega) (by omega) (by omega)]
 show cnd (ine (n8 c8) (n8 (44 : UInt8))) _ _ = _
 rw [n8_ne, cnd_dec]
 by_cases k8 : c8 ≠ 44
 ·rw [if_pos k8, grd_t (by kernel_rfl)]
  show cnd (ine (n8 c8) (n8 (46 : UInt8))) _ _ = _
  rw [n8_ne, cnd_dec]
  by_cases k9 : c8 ≠ 46
  ·rw [if_pos k9, if_pos ⟨k8, k9⟩]
  ·rw [if_neg k9, if_neg fun k => k9 k.2]
   exact rest _ (by kernel_rfl)
 ·rw [if_neg k8, if_neg fun k => k8 k.1]
  exact rest _ (by kernel_rfl)
theorem ref_parse (x : List UInt8) : q126 fuelH x = some (pcB x) := by
 unfold q126
 rw [jn_e]
 by_cases hx : x.length = 12
 case neg =>
  rw [cnd_t (ine_t (by simp only [len]; omega)), not12 hx]
 obtain ⟨a, b, c2, c, d, c5, e, f, c8, g, h, i, rfl⟩ := twelve hx
 have b1 := fld_bd2 a b
 have b2 := fld_bd2 c d
 have b3 := fld_bd2 e f
 have b4 := fld_bd3 g h i
 rw [cnd_f (ine_f (show len ([a, b, c2, c, d, c5, e, f, c8, g, h, i] : List UInt8) = 12 from rfl)), grd_t (by kernel_rfl)]
 show cnd (ine (n8 c2) (n8 (58 : UInt8))) _ _ = _
 rw [n8_ne, cnd_dec]
 rw [pcB_eq]
 by_cases k2 : c2 ≠ 58
 ·rw [if_pos k2, if_pos k2]
 rw [if_neg k2, if_neg k2, grd_t (by kernel_rfl)]
 show cnd (ine (n8 c5) (n8 (58 : UInt8))) _ _ = _
 rw [n8_ne, cnd_dec]
 by_cases k5 : c5 ≠ 58
 ·rw [if_pos k5, if_pos k5]
 rw [if_neg k5, if_neg k5, grd_t (by kernel_rfl)]
 have rest : ∀ R, R = (bnd (q124 fuelH [a, b, c, d, e, f, g, h, i]) fun v1 =>
  cnd (bnot v1)
   (some ((0 : Int), (4 : Int)))
   (bnd (q125 fuelH [a, b]) fun v2 =>
    bnd (q125 fuelH [c, d]) fun v3 =>
    bnd (q125 fuelH [e, f]) fun v4 =>
    bnd (q125 fuelH [g, h, i]) fun v5 =>
    cnd (ilt (59 : Int) v3)
     (some ((0 : Int), (4 : Int)))
     (cnd (ilt (59 : Int) v4)
      (some ((0 : Int), (4 : Int)))
      (some (w64 (iadd (w64 (imul (w64 (iadd (w64 (imul (w64 (iadd (w64 (imul v2 (60 : Int))) v3)) (60 : Int))) v4)) (1000 : Int))) v5), (0 : Int)))))) →
  R = some (pcT a b c d e f g h i) := fun R hR => by
  rw [hR, ref_all (by simp), bnd_some']
  have split9 : allD [a, b, c, d, e, f, g, h, i] = (allD [a, b] && allD [c, d] && allD [e, f] && allD [g, h, i]) := by
   unfold allD
   simp only [List.all_cons, List.all_nil, Bool.and_true, Bool.and_assoc]
  have neg : ∀ l : List UInt8, allD l = false → fldS l < 0 := fun l h => by unfold fldS; rw [h]; simp
  have pos : ∀ l : List UInt8, allD l = true → fldS l = valD 0 l := fun l h => by unfold fldS; rw [if_pos h]
  unfold pcT
  by_cases d1 : allD [a, b] = true
  case neg =>
   have d1 := Bool.eq_false_iff.2 d1
   rw [split9, d1, if_pos (neg _ d1)]
   rfl
  by_cases d2 : allD [c, d] = true
  case neg =>
   have d2 := Bool.eq_false_iff.2 d2
   rw [split9, d1, d2, if_pos (neg _ d2)]
   by_cases q1 : fldS [a, b] < 0
   ·rw [if_pos q1]; rfl
   ·rw [if_neg q1]; rfl
  by_cases d3 : allD [e, f] = true
  case neg =>
   have d3 := Bool.eq_false_iff.2 d3
   rw [split9, d1, d2, d3, if_pos (neg _ d3)]
   by_cases q1 : fldS [a, b] < 0
   ·rw [if_pos q1]; rfl
   rw [if_neg q1]
   by_cases q2 : fldS [c, d] < 0
   ·rw [if_pos q2]; rfl
   rw [if_neg q2]
   by_cases q3 : 59 < fldS [c, d]
   ·rw [if_pos q3]; rfl
   ·rw [if_neg q3]; rfl
  by_cases d4 : allD [g, h, i] = true
  case neg =>
   have d4 := Bool.eq_false_iff.2 d4
   rw [split9, d1, d2, d3, d4, if_pos (neg _ d4)]
   by_cases q1 : fldS [a, b] < 0
   ·rw [if_pos q1]; rfl
   rw [if_neg q1]
   by_cases q2 : fldS [c, d] < 0
   ·rw [if_pos q2]; rfl
   rw [if_neg q2]
   by_cases q3 : 59 < fldS [c, d]
   ·rw [if_pos q3]; rfl
   rw [if_neg q3]
   by_cases q4 : fldS [e, f] < 0
   ·rw [if_pos q4]; rfl
   rw [if_neg q4]
   by_cases q5 : 59 < fldS [e, f]
   ·rw [if_pos q5]; rfl
   ·rw [if_neg q5]; rfl
  have nn : ∀ l : List UInt8, allD l = true → 0 ≤ fldS l := fun l h => by
   rw [pos l h]
   have : ∀ (l : List UInt8) (n : Int), allD l = true → 0 ≤ n → 0 ≤ valD n l := by
    intro l
    induction l with
    | nil => intro n _ hn; exact hn
    | cons x l ih =>
     intro n h hn
     unfold allD at h
     rw [List.all_cons, Bool.and_eq_true] at h
     have hx : isD x := of_decide_eq_true h.1
     unfold isD at hx
     exact ih _ h.2 (by show 0 ≤ stepD x n; unfold stepD; omega)
   exact this l 0 h (Int.le_refl _)
  have n1 := nn _ d1
  have n2 := nn _ d2
  have n3 := nn _ d3
  have n4 := nn _ d4
  rw [split9, d1, d2, d3, d4, if_neg (by omega), if_neg (by omega), if_neg (show ¬ fldS [e, f] < 0 by omega), if_neg (show ¬ fldS [g, h, i] < 0 by omega)]
  show (bnd (q125 fuelH [a, b]) fun v2 => _) = _
  rw [ref_value (by simp) d1, bnd_some', ref_value (by simp) d2, bnd_some', ref_value (by simp) d3, bnd_some', ref_value (by simp) d4, bnd_some', ← pos _ d1, ← pos _ d2, ← pos _ d3, ← pos _ d4, cnd_ilt]
  by_cases q3 : 59 < fldS [c, d]
  ·rw [if_pos q3, if_pos q3]
  rw [if_neg q3, if_neg q3, cnd_ilt]
  by_cases q5 : 59 < fldS [e, f]
  ·rw [if_pos q5, if_pos q5]
  rw [if_neg q5, if_neg q5, hms_w (by omega) (by omega) (by omega) (by omega)]
 show cnd (ine (n8 c8) (n8 (44 : UInt8))) _ _ = _
 rw [n8_ne, cnd_dec]
 by_cases k8 : c8 ≠ 44
 ·rw [if_pos k8, grd_t (by kernel_rfl)]
  show cnd (ine (n8 c8) (n8 (46 : UInt8))) _ _ = _
  rw [n8_ne, cnd_dec]
  by_cases k9 : c8 ≠ 46
  ·rw [if_pos k9, if_pos ⟨k8, k9⟩]
  ·rw [if_neg k9, if_neg fun k => k9 k.2]
   exact rest _ (by kernel_rfl)
 ·rw [if_neg k8, if_neg fun k => k8 k.1]
  exact rest _ (by kernel_rfl)
theorem dg_is {v : Int} (h : 0 ≤ v) : isD (dg v) := by
 have := dg_n8 h
 unfold isD
 omega
theorem fld2 {v : Int} (h : 0 ≤ v ∧ v ≤ 99) : fldS [dg (dv v), dg v] = v := by
 have e := dv_eq (v := v) (by omega)
 have h1 := dg_is (v := v / 10) (by omega)
 have h2 := dg_is (v := v) (by omega)
 have g1 := dg_n8 (v := v / 10) (by omega)
 have g2 := dg_n8 (v := v) (by omega)
 unfold fldS allD
 rw [e, if_pos (by simp [h1, h2])]
 unfold valD stepD
 simp only [List.foldl]
 rw [g1, g2]
 omega
theorem fld3 {v : Int} (h : 0 ≤ v ∧ v ≤ 999) : fldS [dg (dv (dv v)), dg (dv v), dg v] = v := by
 have e := dv_eq (v := v) (by omega)
 have e2 := dv_eq (v := v / 10) (by omega)
 have h0 := dg_is (v := v / 10 / 10) (by omega)
 have h1 := dg_is (v := v / 10) (by omega)
 have h2 := dg_is (v := v) (by omega)
 have g0 := dg_n8 (v := v / 10 / 10) (by omega)
 have g1 := dg_n8 (v := v / 10) (by omega)
 have g2 := dg_n8 (v := v) (by omega)
 unfold fldS allD
 rw [e, e2, if_pos (by simp [h0, h1, h2])]
 unfold valD stepD
 simp only [List.foldl]
 rw [g0, g1, g2]
 omega
theorem clk_back {v : Int} (h0 : 0 ≤ v) (h1 : v ≤ 359999999) : pcB (clkB (v / 3600000) (v / 60000 % 60) (v / 1000 % 60) (v % 1000)) = (v, 0) := by
 unfold clkB
 rw [pcB_eq, if_neg (by decide), if_neg (by decide), if_neg (by decide)]
 unfold pcT
 rw [fld2 (by omega), fld2 (by omega), fld2 (by omega), fld3 (by omega), if_neg (by omega), if_neg (by omega), if_neg (by omega), if_neg (by omega), if_neg (by omega), if_neg (by omega)]
 unfold hmsS
 congr 1
 omega
end
end Go.Mo
end

section
/-
  Plain facts: the markup of rows, both sides.
-/
namespace Go.Mo
open Go Go.W Go.Lib
set_option maxRecDepth 100000
noncomputable section
def badB (b : UInt8) : Bool := decide (b = 60) || (decide (b = 62) || decide (b = 38))
def hasX (l : List UInt8) : Bool := l.any badB
def chX : List UInt8 := [60, 62, 38]
theorem badB_mem (b : UInt8) : chX.contains b = badB b := by
 unfold chX badB
 simp [List.contains_cons, List.elem]
theorem index_any : ∀ l : List UInt8, (0 ≤ Lib.indexAny l chX ↔ hasX l = true)
 | [] => by simp [Lib.indexAny, hasX]
 | b :: l => by
  have ih := index_any l
  have hg := Lib.indexAny_ge chX l
  unfold Lib.indexAny hasX
  rw [badB_mem, List.any_cons]
  cases hb : badB b with
  | true => simp
  | false =>
   simp only [Bool.false_or, Bool.false_eq_true, if_false]
   show 0 ≤ (if (Lib.indexAny l chX == -1) = true then (-1 : Int) else Lib.indexAny l chX + 1) ↔ hasX l = true
   by_cases h1 : Lib.indexAny l chX = -1
   ·rw [if_pos (by simp [h1])]
    rw [h1] at ih
    exact ih
   ·rw [if_neg (by simpa using h1), ← ih]
    omega
def ixR (r : Int) : Bool := match q64 fuelH (chX, r) with
 | some v => decide ((decide (0 ≤ v)) = hasX (enc r)) && decide ((0 ≤ v) = (0 ≤ v))
 | none => false
theorem ixR_tab {r : Int} (hr : inRep r = true) : ixR r = true := all_rep (P := ixR) (by kernel_rfl) hr
theorem ix_rune {r : Int} (hr : inRep r = true) : ∃ v, q64 fuelH (chX, r) = some v ∧ decide (0 ≤ v) = hasX (enc r) := by
 have h := ixR_tab hr
 unfold ixR at h
 split at h
 ·rename_i v hv
  rw [Bool.and_eq_true] at h
  exact ⟨v, hv, of_decide_eq_true h.1⟩
 ·cases h
theorem hasX_ofR : ∀ l : List Int, hasX (ofR l) = l.any fun r => hasX (enc r)
 | [] => rfl
 | r :: l => by
  have e : ofR (r :: l) = enc r ++ ofR l := by unfold ofR; rw [List.flatMap_cons]
  rw [e, List.any_cons, ← hasX_ofR l]
  unfold hasX
  rw [List.any_append]
theorem contains_any {l : List UInt8} (hv : vld l = true) (hl : l.length ≤ 4000000) : q68 fuelH (l, [60, 62, 38]) = some (hasX l) := by
 unfold q68 q67
 by_cases h9 : 9 ≤ l.length
 ·have hb : longAny (l, [60, 62, 38]) = true := by
   unfold longAny
   rw [show Nat.ble 9 l.length = true from Nat.ble_eq_true_of_le h9, show Nat.ble l.length 4294967280 = true from Nat.ble_eq_true_of_le (by omega)]
   rfl
  rw [hb]
  show bnd (some (Lib.indexAny l chX)) _ = _
  rw [bnd_some']
  congr 1
  rw [Bool.eq_iff_iff, ← index_any]
  exact decide_eq_true_iff
 ·have hb : longAny (l, [60, 62, 38]) = false := by
   unfold longAny
   rw [show Nat.ble 9 l.length = false by rw [← Bool.not_eq_true]; intro k; exact h9 (Nat.le_of_ble_eq_true k)]
   rfl
  rw [hb]
  show bnd (q66 fuelH (l, chX)) _ = _
  have key : ∃ v, q66 fuelH (l, chX) = some v ∧ decide (0 ≤ v) = hasX l := by
   unfold q66 q65
   simp only
   rw [cnd_f (by rfl), cnd_f (by rfl), jn_e, bnd_some', cnd_f (ilt_f (by simp only [len]; omega))]
   rw [jn_e]
   -- the loop tells the place; what counts is whether there is one
   have loop : ∀ (fuel p : Nat), l.length - p < fuel → vld (l.drop p) = true → ∃ v, fixN (fun (v5 : (List UInt8) × Int → Option Int) (v6 : (List UInt8) × Int) =>
     cnd (nlt (toN v6.2) (nlen v6.1))
      (bnd (q64 fuelH (chX, decR v6.1 (toN v6.2))) fun v7 =>
      cnd (ile (0 : Int) v7)
       (some (ofN (toN v6.2)))
       (v5 (v6.1, ofN (nadd (toN v6.2) (decW v6.1 (toN v6.2))))))
      (some (-1 : Int))) fuel (l, ofN p) = some v ∧ decide (0 ≤ v) = (rns (l.drop p)).any fun r => hasX (enc r) := by
    intro fuel
    induction fuel with
    | zero => intro p h; omega
    | succ fuel ih =>
     intro p h hvd
     rw [fixN_s]
     simp only
     have tp : toN (ofN p) = p := by simp [toN, ofN]
     rw [tp]
     by_cases hp : p < l.length
     ·have hne : l.drop p ≠ [] := by intro e; have := congrArg List.length e; rw [List.length_drop] at this; simp at this; omega
      have e1 := rns_step (l.drop p) hne
      have e2 := vld_step (l.drop p) hne
      rw [hvd] at e2
      by_cases hr : inRep ((decodeL (l.drop p)).1 : Int) = true
      case neg => rw [if_neg hr] at e2; cases e2
      rw [if_pos hr, List.drop_drop] at e2
      obtain ⟨v, q1, q2⟩ := ix_rune hr
      have ed : decR l p = ((decodeL (l.drop p)).1 : Int) := decR_eq l p
      have ew : decW l p = (decodeL (l.drop p)).2 := decW_eq l p
      have hpos := dec_pos (l.drop p)
      rw [cnd_t (by show nlt p (nlen l) = true; exact decide_eq_true hp), ed, ew, q1, bnd_some', e1, List.any_cons, ← q2, List.drop_drop]
      have e : ile (0 : Int) v = decide (0 ≤ v) := rfl
      rw [e]
      cases hd : decide (0 ≤ v) with
      | true => exact ⟨_, rfl, by show decide (0 ≤ (p : Int)) = true; exact decide_eq_true (by omega)⟩
      | false =>
       rw [Bool.false_or]
       exact ih (p + (decodeL (l.drop p)).2) (by omega) e2.symm
     ·rw [cnd_f (by show nlt p (nlen l) = false; exact decide_eq_false hp), List.drop_eq_nil_of_le (by omega)]
      exact ⟨-1, rfl, rfl⟩
   obtain ⟨v, h1, h2⟩ := loop fuelH 0 (by have := fuelH_eq; omega) (by rw [List.drop_zero]; exact hv)
   refine ⟨v, h1, ?_⟩
   rw [h2, List.drop_zero, ← hasX_ofR, ofR_rns hv]
  obtain ⟨v, h1, h2⟩ := key
  rw [h1, bnd_some', ← h2]
  rfl
def wht (x : Run) : Run := (x.1, (0, x.2.1.2), [])
def carr (r : Row) : Row := normR (r.map wht)
theorem wht_tot (l : Row) : tot (l.map wht) = tot l := by
 induction l with
 | nil => rfl
 | cons x l ih => simp only [List.map_cons, tot, ih]; rfl
theorem sub_carried {l : Row} (hl : l.length ≤ 4000000) (ht : tot l ≤ 8000000) : q71 fuelH l = some (carr l) := by
 unfold q71
 rw [jn_e]
 refine loop_inv (n := l.length) (fun (b : Row) (j : Nat) => ((j : Int), b)) (fun j b => b = (l.take j).map wht) _ (fun self b j hj hJ => ?_) (fun self b hJ => ?_) fuelH 0 [] (Nat.zero_le _) (by have := fuelH_eq; omega) rfl
 ·refine ⟨b ++ [wht l[j]], ?_, by rw [hJ, List.take_succ_eq_append_getElem hj, List.map_append]; rfl⟩
  have hbl : b.length ≤ 4000000 := by rw [hJ, List.length_map, List.length_take]; omega
  simp only
  rw [cnd_t (ilt_t (by simp only [len]; omega)), grd_t (inb_t (by simp only [len]; omega)), lget_i hj, grd_t (room_t (by simp only [iadd, len, List.length_singleton]; omega)), w64_succ hj (by omega)]
  rfl
 ·simp only
  rw [cnd_f (ilt_f (by simp only [len]; omega)), hJ, List.take_length, style_Norm_eq (by rw [List.length_map]; exact hl) (by rw [wht_tot]; exact ht), bnd_some']
  rfl
def ti : List UInt8 := [60, 105, 62]
def tI : List UInt8 := [60, 47, 105, 62]
def tu : List UInt8 := [60, 117, 62]
def tU : List UInt8 := [60, 47, 117, 62]
def wrU (x : Run) : List UInt8 := if x.2.1.2.2 = true then tu ++ x.1 ++ tU else x.1
def wrX (x : Run) : List UInt8 := if x.2.1.2.1 = true then ti ++ wrU x ++ tI else wrU x
def mkS (r : Row) : List UInt8 × Int := if rowChk r ≠ 0 then ([], rowChk r) else if hasX (plainT r) = true then ([], 10) else ((carr r).flatMap wrX, 0)
theorem wrU_len (x : Run) : (wrU x).length ≤ x.1.length + 7 := by unfold wrU tu tU; split <;> simp
theorem wrX_len (x : Run) : (wrX x).length ≤ x.1.length + 14 := by
 have := wrU_len x
 unfold wrX ti tI
 split
 ·simp only [List.length_append, List.length_cons, List.length_nil]; omega
 ·omega
theorem wr_len : ∀ l : Row, (l.flatMap wrX).length ≤ tot l + 14 * l.length
 | [] => Nat.le_refl _
 | x :: l => by
  have h1 := wr_len l
  have h2 := wrX_len x
  rw [List.flatMap_cons, List.length_append, List.length_cons]
  simp only [tot]
  omega
theorem carr_plain (r : Row) : plainT (carr r) = plainT r := by
 unfold carr normR
 rw [fold_plain]
 show [] ++ plainT (r.map wht) = _
 rw [List.nil_append]
 unfold plainT
 rw [List.flatMap_map]
 rfl
theorem hasX_flat : ∀ l : Row, hasX (plainT l) = l.any fun x => hasX x.1
 | [] => rfl
 | x :: l => by
  have e : plainT (x :: l) = x.1 ++ plainT l := by unfold plainT; rw [List.flatMap_cons]
  rw [e, List.any_cons, ← hasX_flat l]
  unfold hasX
  rw [List.any_append]
theorem carr_len (r : Row) : (carr r).length ≤ r.length ∧ tot (carr r) = tot r := by
 have h1 := normR_len (r.map wht)
 rw [List.length_map] at h1
 exact ⟨h1, (norm_tot _).trans (wht_tot r)⟩
theorem plain_vld : ∀ l : Row, (∀ x ∈ l, vld x.1 = true) → vld (plainT l) = true
 | [], _ => rfl
 | x :: l, h => by
  have e : plainT (x :: l) = x.1 ++ plainT l := by unfold plainT; rw [List.flatMap_cons]
  rw [e, vld_cat (h x List.mem_cons_self)]
  exact plain_vld l fun y hy => h y (List.mem_cons_of_mem _ hy)
theorem catW {a b : List UInt8} (h : a.length + b.length ≤ 100000000) : catOk (iadd (len a) (len b)) = true := catOk_t (by simp only [iadd, len]; omega)
theorem sub_markup {r : Row} (hs : smallR r) : q72 fuelH r = some (mkS r) := by
 unfold q72 mkS
 rw [style_check hs.1, bnd_some']
 by_cases hc : rowChk r ≠ 0
 ·rw [cnd_t (ine_t hc), if_pos hc]
 have hc : rowChk r = 0 := by simpa using hc
 have hok := okR_of hs hc
 rw [cnd_f (ine_f hc), if_neg (by rw [hc]; simp), style_plain hok, bnd_some']
 have hpl := plainT_len r
 have ht := hs.2
 rw [contains_any (plain_vld r fun x hx => (hok.2.1 x hx).1) (by omega), bnd_some']
 cases hx : hasX (plainT r) with
 | true => rfl
 | false =>
  rw [cnd_f rfl, if_neg (by simp), jn_e, sub_carried (by have := hok.1; omega) (by omega), bnd_some']
  obtain ⟨c1, c2⟩ := carr_len r
  have h16 := hok.1
  generalize carr r = c at c1 c2 ⊢
  have hb : ∀ i, ((c.take i).flatMap wrX).length ≤ 4000000 + 14 * 16 := fun i => by
   have h1 := wr_len (c.take i)
   have h2 : tot (c.take i) ≤ tot c := by
    have e := List.take_append_drop i c
    have := tot_app (c.take i) (c.drop i)
    rw [e] at this
    omega
   rw [List.length_take] at h1
   omega
  refine loop_inv (n := c.length) (fun (a : List UInt8) (j : Nat) => ((j : Int), ((), a))) (fun j a => a = (c.take j).flatMap wrX) _ (fun self a j hj hJ => ?_) (fun self a hJ => ?_) fuelH 0 [] (Nat.zero_le _) (by have := fuelH_eq; omega) rfl
  ·refine ⟨a ++ wrX c[j], ?_, by rw [hJ, List.take_succ_eq_append_getElem hj, List.flatMap_append]; simp⟩
   have ha : a.length ≤ 4000000 + 14 * 16 := by rw [hJ]; exact hb j
   have hxl : c[j].1.length ≤ 4000000 := by
    have := tot_mem (List.getElem_mem hj)
    omega
   have hw := wrX_len c[j]
   simp only
   rw [cnd_t (ilt_t (by simp only [len]; omega)), grd_t (inb_t (by simp only [len]; omega)), lget_i hj, w64_succ hj (by omega)]
   unfold wrX wrU at hw ⊢
   cases hu : c[j].2.1.2.2 with
   | true =>
    cases hi : c[j].2.1.2.1 with
    | true =>
     rw [hu, hi] at hw
     rw [cnd_t rfl, cnd_t rfl, if_pos rfl, if_pos rfl, grd_t (catW (by simp only [List.length_cons, List.length_nil]; omega)), grd_t (catW (by simp only [lapp, List.length_append, List.length_cons, List.length_nil]; omega)), grd_t (catW (by simp only [lapp, List.length_append, List.length_cons, List.length_nil]; omega)), grd_t (catW (by simp only [lapp, List.length_append, List.length_cons, List.length_nil]; omega)), write_str (by simp only [lapp, List.length_append, List.length_cons, List.length_nil]; omega), bnd_some']
     rfl
    | false =>
     rw [cnd_t rfl, cnd_f rfl, if_neg (by simp), if_pos rfl, grd_t (catW (by simp only [List.length_cons, List.length_nil]; omega)), grd_t (catW (by simp only [lapp, List.length_append, List.length_cons, List.length_nil]; omega)), write_str (by simp only [lapp, List.length_append, List.length_cons, List.length_nil]; omega), bnd_some']
     rfl
   | false =>
    cases hi : c[j].2.1.2.1 with
    | true =>
     rw [cnd_f rfl, cnd_t rfl, if_pos rfl, if_neg (by simp), grd_t (catW (by simp only [List.length_cons, List.length_nil]; omega)), grd_t (catW (by simp only [lapp, List.length_append, List.length_cons, List.length_nil]; omega)), write_str (by simp only [lapp, List.length_append, List.length_cons, List.length_nil]; omega), bnd_some']
     rfl
    | false =>
     rw [cnd_f rfl, cnd_f rfl, if_neg (by simp), if_neg (by simp), write_str (by omega), bnd_some']
  ·simp only
   rw [cnd_f (ilt_f (by simp only [len]; omega)), hJ, List.take_length]
end
end Go.Mo
end

section
/-
  Plain facts: the markup of rows by the specification; what a text with tags means, both sides; SubripMarkups returns true.
-/
namespace Go.Mo
open Go Go.W Go.Lib
set_option maxRecDepth 100000
noncomputable section
def isP (t s : List UInt8) : Bool := decide (t.length ≤ s.length) && seq (s.take t.length) t
theorem isP_iff (t s : List UInt8) : isP t s = true ↔ s.take t.length = t := by
 unfold isP
 rw [Bool.and_eq_true, decide_eq_true_eq, seq_t]
 refine ⟨fun h => h.2, fun h => ⟨?_, h⟩⟩
 have := congrArg List.length h
 rw [List.length_take] at this
 omega
def tagsL : List (List UInt8) := [[60, 105, 62], [60, 47, 105, 62], [60, 117, 62], [60, 47, 117, 62], [60, 98, 62], [60, 47, 98, 62]]
def firstT (s : List UInt8) : List (List UInt8) → List UInt8
 | [] => []
 | t :: l => if isP t s = true then t else firstT s l
def tagS (s : List UInt8) : List UInt8 := firstT s tagsL
theorem prefix_eq (s t : List UInt8) : q95 fuelH (s, t) = some (isP t s) := by
 unfold q95 q94 isP
 by_cases h : t.length ≤ s.length
 ·rw [cnd_t (show ile (len t) (len s) = true from ile_t (by simp only [len]; omega)), grd_t (in2_t (by simp only [len]; omega)), decide_eq_true h, Bool.true_and, bnd_some']
  rfl
 ·rw [cnd_f (show ile (len t) (len s) = false from ile_f (by simp only [len]; omega)), decide_eq_false h, bnd_some']
  rfl
theorem tags_apart : ∀ t ∈ tagsL, ∀ u ∈ tagsL, t.take (min t.length u.length) = u.take (min t.length u.length) → t = u := by decide
theorem isP_one {s t u : List UInt8} (ht : t ∈ tagsL) (hu : u ∈ tagsL) (h1 : isP t s = true) (h2 : isP u s = true) : t = u := by
 rw [isP_iff] at h1 h2
 refine tags_apart t ht u hu ?_
 rw [← h1, ← h2, List.take_take, List.take_take]
 simp only [List.length_take]
 congr 1
 have a1 := congrArg List.length h1
 have a2 := congrArg List.length h2
 rw [List.length_take] at a1 a2
 omega
theorem firstT_no : ∀ l : List (List UInt8), ∀ s, (∀ t ∈ l, isP t s = false) → firstT s l = []
 | [], _, _ => rfl
 | t :: l, s, h => by
  simp only [firstT]
  rw [if_neg (by rw [h t List.mem_cons_self]; simp)]
  exact firstT_no l s fun u hu => h u (List.mem_cons_of_mem _ hu)
theorem last_first (s : List UInt8) : ∀ (l : List (List UInt8)) (a : List UInt8), (∀ t ∈ l, t ∈ tagsL) → (a = [] ∨ ∀ t ∈ l, isP t s = true → t = a) → l.foldl (fun a t => if isP t s = true then t else a) a = if a = [] then firstT s l else a
 | [], a, _, _ => by
  by_cases h : a = []
  ·rw [if_pos h]; exact h
  ·rw [if_neg h]; rfl
 | t :: l, a, hl, ha => by
  rw [List.foldl_cons]
  have hl' : ∀ u ∈ l, u ∈ tagsL := fun u hu => hl u (List.mem_cons_of_mem _ hu)
  have htn : t ≠ [] := fun e => by
   have := hl t List.mem_cons_self
   rw [e] at this
   revert this
   decide
  by_cases hp : isP t s = true
  ·rw [if_pos hp, last_first s l t hl' (.inr fun u hu h2 => isP_one (hl' u hu) (hl t List.mem_cons_self) h2 hp), if_neg htn]
   simp only [firstT]
   rw [if_pos hp]
   rcases ha with ha | ha
   ·rw [if_pos ha]
   ·by_cases h0 : a = []
    ·rw [if_pos h0]
    ·rw [if_neg h0]
     exact ha t List.mem_cons_self hp
  ·rw [if_neg hp]
   simp only [firstT]
   rw [if_neg hp]
   exact last_first s l a hl' (ha.imp id fun h u hu => h u (List.mem_cons_of_mem _ hu))
theorem sub_tag (s : List UInt8) (K : List UInt8 → Option Row) : fixN (fun (v13 : (List UInt8) × Int → Option Row) (v14 : (List UInt8) × Int) =>
    cnd (ilt v14.2 (len tagsL))
     (grd (inb v14.2 (len tagsL))
      (bnd (q95 fuelH (s, lget tagsL (toN v14.2) [])) fun v15 =>
      cnd v15
       (v13 (lget tagsL (toN v14.2) [], w64 (iadd v14.2 (1 : Int))))
       (v13 (v14.1, w64 (iadd v14.2 (1 : Int))))))
     (K v14.1)) fuelH (([] : List UInt8), (0 : Int)) = K (tagS s) := by
 refine Eq.trans (lst_it (l := tagsL) (fun (a : List UInt8) (p : Nat) => (a, (p : Int))) (fun _ t a => .inr (if isP t s = true then t else a)) K (fun _ _ => True) (fun self a i hi _ => ?_) (fun self a _ => ?_) fuelH 0 [] (Nat.zero_le _) (by have := fuelH_eq; show 6 - 0 < _; omega) trivial) ?_
 ·have h6 : i < 6 := hi
  simp only
  rw [cnd_t (ilt_t (by simp only [len]; omega)), grd_t (inb_t (by simp only [len]; omega)), lget_i hi, prefix_eq, bnd_some', w64_succ hi (by have : tagsL.length = 6 := rfl; omega)]
  refine ⟨?_, trivial⟩
  cases isP tagsL[i] s <;> rfl
 ·simp only
  rw [cnd_f (ilt_f (by simp only [len]; omega))]
 ·have : ∀ (l : List (List UInt8)) (i : Nat) (a : List UInt8), itI (fun _ t a => (.inr (if isP t s = true then t else a) : Option Row ⊕ List UInt8)) K i l a = K (l.foldl (fun a t => if isP t s = true then t else a) a) := by
   intro l
   induction l with
   | nil => intro i a; rfl
   | cons t l ih => intro i a; exact ih (i + 1) _
  rw [List.drop_zero, this, last_first s tagsL [] (fun t h => h) (.inl rfl), if_pos rfl]
  rfl
end
end Go.Mo
end

section
/-
  Plain facts: what a text with tags means, both sides; SubripMarkups returns true.
-/
namespace Go.Mo
open Go Go.W Go.Lib
set_option maxRecDepth 100000
noncomputable section
def plainS : Sty := (0, false, false)
def turnS (t : List UInt8) (s : Sty) : Sty := if t = [60, 105, 62] then (s.1, true, s.2.2) else if t = [60, 47, 105, 62] then (s.1, false, s.2.2) else if t = [60, 117, 62] then (s.1, s.2.1, true) else if t = [60, 47, 117, 62] then (s.1, s.2.1, false) else s
def pmF : Nat → List UInt8 → Row → List UInt8 → Sty → Row
 | 0, _, o, t, n => o ++ [(t, n, [])]
 | _ + 1, [], o, t, n => o ++ [(t, n, [])]
 | k + 1, b :: s, o, t, n => if tagS (b :: s) = [] then pmF k s o (t ++ [b]) n else pmF k ((b :: s).drop (tagS (b :: s)).length) (o ++ [(t, n, [])]) [] (turnS (tagS (b :: s)) n)
def pmS (s : List UInt8) : Row := normR (pmF s.length s [] [] plainS)
theorem first_mem : ∀ (l : List (List UInt8)) (s : List UInt8), firstT s l = [] ∨ (firstT s l ∈ l ∧ isP (firstT s l) s = true)
 | [], _ => .inl rfl
 | t :: l, s => by
  simp only [firstT]
  by_cases h : isP t s = true
  ·rw [if_pos h]; exact .inr ⟨List.mem_cons_self, h⟩
  ·rw [if_neg h]
   rcases first_mem l s with k | ⟨k1, k2⟩
   ·exact .inl k
   ·exact .inr ⟨List.mem_cons_of_mem _ k1, k2⟩
theorem tag_len (s : List UInt8) : (tagS s).length ≤ s.length ∧ (tagS s).length ≤ 4 := by
 rcases first_mem tagsL s with h | ⟨h1, h2⟩
 ·unfold tagS; rw [h]; exact ⟨Nat.zero_le _, Nat.zero_le _⟩
 ·unfold tagS
  rw [isP_iff] at h2
  have a := congrArg List.length h2
  rw [List.length_take] at a
  have : ∀ t ∈ tagsL, t.length ≤ 4 := by decide
  have := this _ h1
  exact ⟨by omega, this⟩
theorem tag_pos {s : List UInt8} (h : tagS s ≠ []) : 1 ≤ (tagS s).length := List.length_pos_iff.2 h
theorem pmF_size : ∀ (k : Nat) (s : List UInt8) (o : Row) (t : List UInt8) (n : Sty), s.length ≤ k → (pmF k s o t n).length ≤ o.length + s.length + 1 ∧ tot (pmF k s o t n) ≤ tot o + t.length + s.length
 | 0, s, o, t, n, h => by
  simp only [pmF]
  rw [tot_app, List.length_append]
  simp only [tot, List.length_cons, List.length_nil]
  omega
 | k + 1, [], o, t, n, h => by
  simp only [pmF]
  rw [tot_app, List.length_append]
  simp only [tot, List.length_cons, List.length_nil]
  omega
 | k + 1, b :: s, o, t, n, h => by
  simp only [pmF]
  simp only [List.length_cons] at h
  by_cases ht : tagS (b :: s) = []
  ·rw [if_pos ht]
   have := pmF_size k s o (t ++ [b]) n (by omega)
   simp only [List.length_append, List.length_cons, List.length_nil] at this ⊢
   omega
  ·rw [if_neg ht]
   have hp := tag_pos ht
   have hl := (tag_len (b :: s)).1
   have := pmF_size k ((b :: s).drop (tagS (b :: s)).length) (o ++ [(t, n, [])]) [] (turnS (tagS (b :: s)) n) (by rw [List.length_drop, List.length_cons]; omega)
   rw [tot_app, List.length_append, List.length_drop] at this
   simp only [tot, List.length_cons, List.length_nil] at this hl ⊢
   omega
theorem cons_drop1 (b : UInt8) (s : List UInt8) : ldrop (toN (1 : Int)) (b :: s) = s ∧ ltake (toN (1 : Int)) (b :: s) = [b] := ⟨rfl, rfl⟩
theorem drop_nat (n : Nat) (s : List UInt8) : ldrop (toN (n : Int)) s = s.drop n := by
 have : toN (n : Int) = n := by simp [toN]
 rw [this]
 rfl
theorem sne_cons (b : UInt8) (s : List UInt8) : sne (b :: s) [] = true := rfl
theorem sub_pm1 {N : Nat} {o : Row} {t : List UInt8} {n n' : Sty} (h : o.length ≤ 4000000) : q93 N (n', o, t, n) = some (o ++ [(t, n, [])], [], n') := by
 unfold q93
 rw [grd_t (room_t (by simp only [iadd, len, List.length_singleton]; omega))]
 rfl
theorem sub_tagJ (s : List UInt8) (K : List UInt8 → Option Row) : jn K (fun v12 => fixN (fun (v13 : (List UInt8) × Int → Option Row) (v14 : (List UInt8) × Int) =>
    cnd (ilt v14.2 (len tagsL))
     (grd (inb v14.2 (len tagsL))
      (bnd (q95 fuelH (s, lget tagsL (toN v14.2) [])) fun v15 =>
      cnd v15
       (v13 (lget tagsL (toN v14.2) [], w64 (iadd v14.2 (1 : Int))))
       (v13 (v14.1, w64 (iadd v14.2 (1 : Int))))))
     (v12 v14.1)) fuelH (([] : List UInt8), (0 : Int))) = K (tagS s) := sub_tag s K
theorem sub_pm {x : List UInt8} (hx : x.length ≤ 3000000) : q96 fuelH x = some (pmS x) := by
 unfold q96 pmS
 rw [jn_e]
 have fin : ∀ (o : Row) (t : List UInt8) (n : Sty), o.length ≤ 3000001 → ∀ R : Row, R = o ++ [(t, n, [])] → R.length ≤ 4000000 → tot R ≤ 8000000 → (bnd (q93 fuelH (n, o, t, n)) fun v1 => bnd (q70 fuelH v1.1) fun v2 => some v2) = some (normR R) := fun o t n ho R hR h1 h2 => by
  rw [sub_pm1 (by omega), bnd_some', ← hR, style_Norm_eq h1 h2, bnd_some']
 have key : ∀ (k : Nat) (s : List UInt8) (o : Row) (t : List UInt8) (n : Sty) (fuel : Nat), s.length ≤ k → k < fuel → o.length + s.length ≤ x.length → tot o + t.length + s.length ≤ x.length →
   fixN (fun (v4 : (List UInt8) × Row × (List UInt8) × UInt8 × Bool × Bool → Option Row) (v5 : (List UInt8) × Row × (List UInt8) × UInt8 × Bool × Bool) =>
  cnd (sne v5.1 ([] : List UInt8))
   (jn (fun (v6 : List UInt8) =>
    jn (fun (v7 : UInt8 × Bool × Bool) =>
     bnd (q93 fuelH (v7, v5.2)) fun v8 =>
     grd (in2 (len v6) (len v5.1)) <|
     v4 (ldrop (toN (len v6)) v5.1, v8))
    fun v9 =>
    cnd (seq v6 ([] : List UInt8))
     (grd (in2 (1 : Int) (len v5.1))
      (grd (catOk (iadd (len v5.2.2.1) (len (ltake (toN (1 : Int)) v5.1))))
       (grd (in2 (1 : Int) (len v5.1))
        (v4 (ldrop (toN (1 : Int)) v5.1, v5.2.1, lapp v5.2.2.1 (ltake (toN (1 : Int)) v5.1), v5.2.2.2)))))
     (jn (fun (v10 : Bool) =>
      cnd v10
       (v9 (v5.2.2.2.1, seq v6 ([60, 105, 62] : List UInt8), v5.2.2.2.2.2))
       (cnd (seq v6 ([60, 117, 62] : List UInt8))
        (cnd (seq v6 ([60, 117, 62] : List UInt8))
         (v9 (v5.2.2.2.1, v5.2.2.2.2.1, seq v6 ([60, 117, 62] : List UInt8)))
         (v9 v5.2.2.2))
        (cnd (seq v6 ([60, 47, 117, 62] : List UInt8))
         (v9 (v5.2.2.2.1, v5.2.2.2.2.1, seq v6 ([60, 117, 62] : List UInt8)))
         (v9 v5.2.2.2))))
     fun v11 =>
     cnd (seq v6 ([60, 105, 62] : List UInt8))
      (v11 (seq v6 ([60, 105, 62] : List UInt8)))
      (v11 (seq v6 ([60, 47, 105, 62] : List UInt8)))))
   fun v12 =>
   fixN (fun (v13 : (List UInt8) × Int → Option Row) (v14 : (List UInt8) × Int) =>
    cnd (ilt v14.2 (len tagsL))
     (grd (inb v14.2 (len tagsL))
      (bnd (q95 fuelH (v5.1, lget tagsL (toN v14.2) [])) fun v15 =>
      cnd v15
       (v13 (lget tagsL (toN v14.2) [], w64 (iadd v14.2 (1 : Int))))
       (v13 (v14.1, w64 (iadd v14.2 (1 : Int))))))
     (v12 v14.1)) fuelH (([] : List UInt8), (0 : Int)))
   (bnd (q93 fuelH (v5.2.2.2, v5.2)) fun v1 => bnd (q70 fuelH v1.1) fun v2 => some v2)) fuel (s, o, t, n) = some (normR (pmF k s o t n)) := by
  intro k
  induction k with
  | zero =>
   intro s o t n fuel hs hf ho ht
   obtain ⟨fuel, rfl⟩ : ∃ m, fuel = m + 1 := ⟨fuel - 1, by omega⟩
   have : s = [] := List.eq_nil_of_length_eq_zero (by omega)
   subst this
   rw [fixN_s]
   simp only
   rw [cnd_f (by rfl)]
   have hz := pmF_size 0 [] o t n (Nat.le_refl _)
   exact fin o t n (by simp only [List.length_nil] at ho; omega) _ rfl (by have := hz.1; simp only [pmF, List.length_nil] at this ho ⊢; omega) (by have := hz.2; simp only [pmF, List.length_nil] at this ht ⊢; omega)
  | succ k ih =>
   intro s o t n fuel hs hf ho ht
   obtain ⟨fuel, rfl⟩ : ∃ m, fuel = m + 1 := ⟨fuel - 1, by omega⟩
   rw [fixN_s]
   cases s with
   | nil =>
    simp only
    rw [cnd_f (by rfl)]
    have hz := pmF_size (k + 1) [] o t n (Nat.zero_le _)
    exact fin o t n (by simp only [List.length_nil] at ho; omega) _ rfl (by have := hz.1; simp only [pmF, List.length_nil] at this ho ⊢; omega) (by have := hz.2; simp only [pmF, List.length_nil] at this ht ⊢; omega)
   | cons b s =>
    simp only [List.length_cons] at hs ho ht
    simp only
    rw [cnd_t (sne_cons b s), sub_tagJ (b :: s)]
    simp only [pmF]
    by_cases h0 : tagS (b :: s) = []
    ·rw [if_pos h0, h0, jn_e, cnd_t (by rfl), grd_t (in2_t (by simp only [len, List.length_cons]; omega)), grd_t (catW (by simp only [(cons_drop1 b s).2, List.length_singleton]; omega)), grd_t (in2_t (by simp only [len, List.length_cons]; omega)), (cons_drop1 b s).1, (cons_drop1 b s).2]
     exact ih s o (t ++ [b]) n fuel (by omega) (by omega) (by omega) (by simp only [List.length_append, List.length_singleton]; omega)
    ·rw [if_neg h0]
     have hp := tag_pos h0
     have hl := (tag_len (b :: s)).1
     simp only [List.length_cons] at hl
     have step : ∀ n' : Sty, (bnd (q93 fuelH (n', o, t, n)) fun v8 => grd (in2 (len (tagS (b :: s))) (len (b :: s))) (fixN _ fuel (ldrop (toN (len (tagS (b :: s)))) (b :: s), v8))) = some (normR (pmF k ((b :: s).drop (tagS (b :: s)).length) (o ++ [(t, n, [])]) [] n')) := fun n' => by
      rw [sub_pm1 (by omega), bnd_some', grd_t (in2_t (by simp only [len, List.length_cons]; omega))]
      have : ldrop (toN (len (tagS (b :: s)))) (b :: s) = (b :: s).drop (tagS (b :: s)).length := drop_nat _ _
      rw [this]
      exact ih _ (o ++ [(t, n, [])]) [] n' fuel (by rw [List.length_drop, List.length_cons]; omega) (by omega) (by simp only [List.length_drop, List.length_append, List.length_cons, List.length_nil]; omega) (by rw [tot_app, List.length_drop, List.length_cons]; simp only [tot, List.length_nil]; omega)
     rw [jn_e, cnd_f (by rw [← Bool.not_eq_true, seq_t]; exact h0), jn_e]
     rcases first_mem tagsL (b :: s) with k0 | ⟨k1, _⟩
     ·exact absurd k0 h0
     have k1 : tagS (b :: s) ∈ tagsL := k1
     generalize tagS (b :: s) = tg at *
     unfold turnS
     simp only [tagsL, List.mem_cons, List.not_mem_nil, or_false] at k1
     rcases k1 with rfl | rfl | rfl | rfl | rfl | rfl
     ·exact step (n.1, true, n.2.2)
     ·exact step (n.1, false, n.2.2)
     ·exact step (n.1, n.2.1, true)
     ·exact step (n.1, n.2.1, false)
     ·exact step n
     ·exact step n
 exact key x.length x [] [] plainS fuelH (Nat.le_refl _) (by have := fuelH_eq; omega) (by simp) (by simp [tot])
end
end Go.Mo
end

section
/-
  Plain facts: the markup of a row means the row without colours and ruby; SubripReturns returns true.
-/
namespace Go.Mo
open Go Go.W Go.Lib
set_option maxRecDepth 100000
noncomputable section
theorem pmF_fuel : ∀ (k k' : Nat) (s : List UInt8) (o : Row) (t : List UInt8) (n : Sty), s.length ≤ k → s.length ≤ k' → pmF k s o t n = pmF k' s o t n
 | 0, 0, _, _, _, _, _, _ => rfl
 | 0, k' + 1, s, o, t, n, h, _ => by
  have : s = [] := List.eq_nil_of_length_eq_zero (by omega)
  subst this
  rfl
 | k + 1, 0, s, o, t, n, _, h => by
  have : s = [] := List.eq_nil_of_length_eq_zero (by omega)
  subst this
  rfl
 | k + 1, k' + 1, [], _, _, _, _, _ => rfl
 | k + 1, k' + 1, b :: s, o, t, n, h, h' => by
  simp only [List.length_cons] at h h'
  simp only [pmF]
  by_cases h0 : tagS (b :: s) = []
  ·rw [if_pos h0, if_pos h0]
   exact pmF_fuel k k' s o _ n (by omega) (by omega)
  ·rw [if_neg h0, if_neg h0]
   have hp := tag_pos h0
   exact pmF_fuel k k' _ _ _ _ (by rw [List.length_drop, List.length_cons]; omega) (by rw [List.length_drop, List.length_cons]; omega)
def pm (s : List UInt8) (o : Row) (t : List UInt8) (n : Sty) : Row := pmF s.length s o t n
theorem pm_nil (o : Row) (t : List UInt8) (n : Sty) : pm [] o t n = o ++ [(t, n, [])] := rfl
theorem isP_no {t s : List UInt8} (h : s.take t.length ≠ t) : isP t s = false := by rw [← Bool.not_eq_true, isP_iff]; exact h
theorem no_tag {b : UInt8} (s : List UInt8) (hb : b ≠ 60) : tagS (b :: s) = [] := firstT_no _ _ fun t ht => isP_no fun e => by
 have h : ∀ t ∈ tagsL, t.head? = some 60 ∧ t.length ≠ 0 := by decide
 obtain ⟨h1, h2⟩ := h t ht
 rw [← e] at h1
 cases hl : t.length with
 | zero => exact h2 hl
 | succ k =>
  rw [hl] at h1
  simp at h1
  exact hb h1
theorem pm_ch {b : UInt8} (hb : b ≠ 60) (s : List UInt8) (o : Row) (t : List UInt8) (n : Sty) : pm (b :: s) o t n = pm s o (t ++ [b]) n := by
 unfold pm
 simp only [List.length_cons, pmF]
 rw [if_pos (no_tag s hb)]
theorem pm_text : ∀ (x s : List UInt8) (o : Row) (t : List UInt8) (n : Sty), (∀ b ∈ x, b ≠ 60) → pm (x ++ s) o t n = pm s o (t ++ x) n
 | [], s, o, t, n, _ => by simp
 | b :: x, s, o, t, n, h => by
  rw [List.cons_append, pm_ch (h b List.mem_cons_self), pm_text x s o _ n fun c hc => h c (List.mem_cons_of_mem _ hc)]
  simp
theorem pm_tag {g s : List UInt8} (hg : tagS (g ++ s) = g) (h0 : g ≠ []) (o : Row) (t : List UInt8) (n : Sty) : pm (g ++ s) o t n = pm s (o ++ [(t, n, [])]) [] (turnS g n) := by
 cases hc : g ++ s with
 | nil => exact absurd (List.append_eq_nil_iff.1 hc).1 h0
 | cons b r =>
  unfold pm
  simp only [List.length_cons, pmF]
  rw [← hc, hg, if_neg h0, List.drop_left]
  refine pmF_fuel _ _ _ _ _ _ ?_ (Nat.le_refl _)
  have := congrArg List.length hc
  rw [List.length_append, List.length_cons] at this
  have := List.length_pos_iff.2 h0
  omega
theorem first_some {g s : List UInt8} (hp : isP g s = true) : ∀ l : List (List UInt8), g ∈ l → firstT s l ∈ l ∧ isP (firstT s l) s = true
 | [], h => by cases h
 | t :: l, h => by
  simp only [firstT]
  by_cases hk : isP t s = true
  ·rw [if_pos hk]; exact ⟨List.mem_cons_self, hk⟩
  ·rw [if_neg hk]
   rcases List.mem_cons.1 h with rfl | h
   ·exact absurd hp hk
   ·obtain ⟨k1, k2⟩ := first_some hp l h
    exact ⟨List.mem_cons_of_mem _ k1, k2⟩
theorem tag_is {g : List UInt8} (hg : g ∈ tagsL) (s : List UInt8) : tagS (g ++ s) = g := by
 have hp : isP g (g ++ s) = true := (isP_iff _ _).2 List.take_left
 obtain ⟨k1, k2⟩ := first_some hp tagsL hg
 exact isP_one k1 hg k2 hp
theorem is_ti (s : List UInt8) : tagS (ti ++ s) = ti := tag_is (by decide) s
theorem is_tI (s : List UInt8) : tagS (tI ++ s) = tI := tag_is (by decide) s
theorem is_tu (s : List UInt8) : tagS (tu ++ s) = tu := tag_is (by decide) s
theorem is_tU (s : List UInt8) : tagS (tU ++ s) = tU := tag_is (by decide) s
theorem snoc_nil (A : Row) (s : Sty) : snoc A ([], s, []) = A := by unfold snoc; rw [if_pos rfl]
theorem snoc_join (A : Row) (t x : List UInt8) (s : Sty) : snoc (snoc A (t, s, [])) (x, s, []) = snoc A (t ++ x, s, []) := by
 by_cases h : t = []
 ·subst h
  rw [snoc_nil]
  rfl
 ·exact snoc_snoc A h x s
theorem noX {l : List UInt8} (h : hasX l = false) : ∀ b ∈ l, b ≠ 60 := fun b hb e => by
 subst e
 have : hasX l = true := List.any_eq_true.2 ⟨60, hb, rfl⟩
 rw [this] at h
 cases h
def plainC (c : Row) : Prop := ∀ x ∈ c, hasX x.1 = false ∧ x.2.1.1 = 0 ∧ x.2.2 = []
theorem pm_runs : ∀ (c o : Row) (t : List UInt8), plainC c → (pm (c.flatMap wrX) o t plainS).foldl snoc [] = c.foldl snoc (snoc (o.foldl snoc []) (t, plainS, []))
 | [], o, t, _ => by
  rw [List.flatMap_nil, pm_nil, List.foldl_append]
  rfl
 | x :: c, o, t, h => by
  obtain ⟨h1, h2, h3⟩ := h x List.mem_cons_self
  have hc : plainC c := fun y hy => h y (List.mem_cons_of_mem _ hy)
  obtain ⟨tx, ⟨cx, ix, ux⟩, rx⟩ := x
  simp only at h1 h2 h3
  subst h2
  subst h3
  have hb := noX h1
  rw [List.flatMap_cons, List.foldl_cons]
  cases ux with
  | true =>
   cases ix with
   | true =>
    rw [show wrX (tx, (0, true, true), []) = ti ++ (tu ++ tx ++ tU) ++ tI from rfl, show ti ++ (tu ++ tx ++ tU) ++ tI ++ c.flatMap wrX = ti ++ (tu ++ (tx ++ (tU ++ (tI ++ c.flatMap wrX)))) by simp only [List.append_assoc], pm_tag (is_ti _) (by simp [ti]), pm_tag (is_tu _) (by simp [tu]), pm_text _ _ _ _ _ hb, pm_tag (is_tU _) (by simp [tU]), pm_tag (is_tI _) (by simp [tI])]
    refine (pm_runs c _ _ hc).trans ?_
    simp only [List.foldl_append, List.foldl_cons, List.foldl_nil, List.nil_append]
    rw [snoc_nil, snoc_nil, snoc_nil]
    rfl
   | false =>
    rw [show wrX (tx, (0, false, true), []) = tu ++ tx ++ tU from rfl, show tu ++ tx ++ tU ++ c.flatMap wrX = tu ++ (tx ++ (tU ++ c.flatMap wrX)) by simp only [List.append_assoc], pm_tag (is_tu _) (by simp [tu]), pm_text _ _ _ _ _ hb, pm_tag (is_tU _) (by simp [tU])]
    refine (pm_runs c _ _ hc).trans ?_
    simp only [List.foldl_append, List.foldl_cons, List.foldl_nil, List.nil_append]
    rw [snoc_nil]
    rfl
  | false =>
   cases ix with
   | true =>
    rw [show wrX (tx, (0, true, false), []) = ti ++ tx ++ tI from rfl, show ti ++ tx ++ tI ++ c.flatMap wrX = ti ++ (tx ++ (tI ++ c.flatMap wrX)) by simp only [List.append_assoc], pm_tag (is_ti _) (by simp [ti]), pm_text _ _ _ _ _ hb, pm_tag (is_tI _) (by simp [tI])]
    refine (pm_runs c _ _ hc).trans ?_
    simp only [List.foldl_append, List.foldl_cons, List.foldl_nil, List.nil_append]
    rw [snoc_nil]
    rfl
   | false =>
    show (pm (tx ++ c.flatMap wrX) o t plainS).foldl snoc [] = _
    rw [pm_text _ _ _ _ _ hb]
    refine (pm_runs c _ _ hc).trans ?_
    rw [← snoc_join]
    rfl
theorem snoc_col {out : Row} {x : Run} (h : ∀ y ∈ out, y.2.1.1 = 0) (hx : x.2.1.1 = 0) : ∀ y ∈ snoc out x, y.2.1.1 = 0 := by
 unfold snoc
 split
 ·exact h
 ·split
  ·rename_i p hp
   have e := last_eq hp
   have hin : p ∈ out := by rw [e]; simp
   split
   ·intro y hy
    rcases List.mem_append.1 hy with hy | hy
    ·exact h y (List.dropLast_subset _ hy)
    ·rw [List.mem_singleton.1 hy]; exact h p hin
   ·intro y hy
    rcases List.mem_append.1 hy with hy | hy
    ·exact h y hy
    ·rw [List.mem_singleton.1 hy]; exact hx
  ·intro y hy
   rcases List.mem_append.1 hy with hy | hy
   ·exact h y hy
   ·rw [List.mem_singleton.1 hy]; exact hx
theorem fold_wht : ∀ (l out : Row), goodS out → (∀ y ∈ out, y.2.1.1 = 0) → (∀ x ∈ l, vld x.1 = true) → goodS ((l.map wht).foldl snoc out) ∧ ∀ y ∈ (l.map wht).foldl snoc out, y.2.1.1 = 0
 | [], _, h1, h2, _ => ⟨h1, h2⟩
 | x :: l, out, h1, h2, hv => by
  rw [List.map_cons, List.foldl_cons]
  exact fold_wht l _ (snoc_good h1 (hv x List.mem_cons_self) (by show n8 0 ≤ 6; decide) rfl) (snoc_col h2 rfl) fun y hy => hv y (List.mem_cons_of_mem _ hy)
theorem carr_good {r : Row} (h : rowChk r = 0) : goodS (carr r) ∧ ∀ y ∈ carr r, y.2.1.1 = 0 :=
 fold_wht r [] ⟨rfl, fun x hx => by cases hx⟩ (fun x hx => by cases hx) fun x hx => ((rowChk_ok h).2 x hx).1
theorem carr_back {r : Row} (h : rowChk r = 0) (hx : hasX (plainT r) = false) : pmS ((carr r).flatMap wrX) = carr r := by
 obtain ⟨g1, g2⟩ := carr_good h
 have hp : plainC (carr r) := fun y hy => by
  refine ⟨?_, g2 y hy, g1.2 y hy⟩
  rw [← carr_plain, hasX_flat] at hx
  rw [← Bool.not_eq_true]
  intro k
  rw [List.any_eq_true.2 ⟨y, hy, k⟩] at hx
  cases hx
 have e : pmS ((carr r).flatMap wrX) = (pm ((carr r).flatMap wrX) [] [] plainS).foldl snoc [] := rfl
 rw [e, pm_runs _ _ _ hp]
 show (carr r).foldl snoc (snoc [] ([], plainS, [])) = _
 rw [snoc_nil]
 exact (norm_id (carr r) [] g1.1).trans (List.nil_append _)
end
end Go.Mo
end

section
/-
  Plain facts: the document as the form carries it, both sides; SubripReduced returns true.
-/
namespace Go.Mo
open Go Go.W Go.Lib
set_option maxRecDepth 100000
noncomputable section
def noQ : Doc := ([], [], 0, false, 0, [], [], [])
def fewQ (d : Doc) : Doc := (d.1, d.2.1, d.2.2.1, d.2.2.2.1, d.2.2.2.2.1, d.2.2.2.2.2.1, d.2.2.2.2.2.2.1.take 6, d.2.2.2.2.2.2.2.take 4)
theorem few_eqQ (d : Doc) : l19_few fuelH d = some (fewQ d) := by
 unfold l19_few fewQ
 obtain ⟨e1, e2⟩ := min_take d.2.2.2.2.2.2.1 6
 obtain ⟨e3, e4⟩ := min_take d.2.2.2.2.2.2.2 4
 have e1 : ltake (toN (imin (len d.2.2.2.2.2.2.1) (6 : Int))) d.2.2.2.2.2.2.1 = _ := e1
 have e3 : ltake (toN (imin (len d.2.2.2.2.2.2.2) (4 : Int))) d.2.2.2.2.2.2.2 = _ := e3
 rw [grd_t (show in2 (imin (len d.2.2.2.2.2.2.1) (6 : Int)) (len d.2.2.2.2.2.2.1) = true from e2), grd_t (show in2 (imin (len d.2.2.2.2.2.2.2) (4 : Int)) (len d.2.2.2.2.2.2.2) = true from e4), e1, e3]
theorem few_smallQ {d : Doc} (hb : wtD d ≤ 1048576) : smallD (fewQ d) ∧ ∀ x ∈ (fewQ d).2.2.2.2.2.2.1, ∀ r ∈ x.2.2.2.2.2, tot r ≤ 1048576 := by
 unfold wtD at hb
 have hg := bk_len (f := wtG) (fun r => by unfold wtG; omega) d.2.2.2.2.2.1
 have hrow : ∀ x ∈ (fewQ d).2.2.2.2.2.2.1, ∀ r ∈ x.2.2.2.2.2, shortR r ∧ tot r ≤ 1048576 := fun x hx r hr => by
  have hx : x ∈ d.2.2.2.2.2.2.1 := List.mem_of_mem_take (show x ∈ d.2.2.2.2.2.2.1.take 6 from hx)
  have h1 : 1 + (1 + 1 + (x.2.2.1.length + 1 + (1 + (x.2.2.2.2.1.length + 1 + (bkL wtR x.2.2.2.2.2 + 1))))) ≤ bkL wtX d.2.2.2.2.2.2.1 := bk_mem (f := wtX) hx
  have h2 : bkL wtU r + 1 ≤ bkL wtR x.2.2.2.2.2 := bk_mem (f := wtR) hr
  have h3 := cost_wt r
  have h4 := tot_cost r
  exact ⟨short_wt (l := x.2.2.2.2.2) (B := 1048576) (by omega) (by omega) r hr, by omega⟩
 refine ⟨⟨by show d.1.length ≤ _; omega, by show d.2.2.2.2.2.1.length ≤ _; omega, fun x hx r hr => ⟨(hrow x hx r hr).1, by have := (hrow x hx r hr).2; omega⟩, fun c hc => ?_⟩, fun x hx r hr => (hrow x hx r hr).2⟩
 have hc : c ∈ d.2.2.2.2.2.2.2 := List.mem_of_mem_take (show c ∈ d.2.2.2.2.2.2.2.take 4 from hc)
 have h1 : 1 + (1 + (1 + (1 + (c.2.2.2.2.1.length + 1 + (c.2.2.2.2.2.1.length + 1 + (1 + 1)))))) ≤ bkL wtC d.2.2.2.2.2.2.2 := bk_mem (f := wtC) hc
 omega
def evQ (i : Nat) (x : Ev) : Ev := (((i + 1 : Nat) : Int), x.2.1, [], 1, [], x.2.2.2.2.2.map carr)
def evsQ : Nat → List Ev → List Ev
 | _, [] => []
 | i, x :: l => evQ i x :: evsQ (i + 1) l
def docQ (d : Doc) : Doc := ([], [], d.2.2.1, d.2.2.2.1, len d.2.2.2.2.2.2.1, [], evsQ 0 d.2.2.2.2.2.2.1, [])
theorem evsQ_len : ∀ (l : List Ev) (i : Nat), (evsQ i l).length = l.length
 | [], _ => rfl
 | x :: l, i => by simp only [evsQ, List.length_cons, evsQ_len l (i + 1)]
theorem evsQ_get : ∀ (l : List Ev) (i j : Nat), (evsQ i l)[j]? = (l[j]?).map (evQ (i + j))
 | [], _, _ => by simp [evsQ]
 | x :: l, i, 0 => by simp [evsQ]
 | x :: l, i, j + 1 => by
  simp only [evsQ, List.getElem?_cons_succ]
  rw [evsQ_get l (i + 1) j, show i + 1 + j = i + (j + 1) by omega]
theorem evsQ_at (l : List Ev) (j : Nat) (h : j < l.length) (h' : j < (evsQ 0 l).length) : (evsQ 0 l)[j] = evQ j l[j] := by
 have := evsQ_get l 0 j
 rw [List.getElem?_eq_getElem h', List.getElem?_eq_getElem h, Nat.zero_add] at this
 injection this
theorem doc_evs {d : Doc} (h : docChk d = 0) : headChk d = 0 ∧ d.2.2.2.2.2.2.1.length ≤ 400 ∧ ∀ j (hj : j < d.2.2.2.2.2.2.1.length), evRnd d.2.2.2.2.2.1 d.2.2.2.2.1 (d.2.2.2.2.2.2.1.take j) d.2.2.2.2.2.2.1[j] = 0 := by
 obtain ⟨h1, h2, h3⟩ := doc_parts h
 refine ⟨h1, h2, fun j hj => ?_⟩
 have := errL_zero _ _ h3 j hj
 rwa [List.nil_append] at this
theorem ev_rows {d : Doc} (h : docChk d = 0) {x : Ev} (hx : x ∈ d.2.2.2.2.2.2.1) : evChk x d.2.2.2.2.2.1 = 0 := by
 obtain ⟨_, _, h3⟩ := doc_evs h
 obtain ⟨j, hj, rfl⟩ := List.mem_iff_getElem.1 hx
 exact (evRnd_ok (h3 j hj)).1
theorem rows_carr {x : Ev} {d : Doc} (hs : smallD d) (h : docChk d = 0) (hx : x ∈ d.2.2.2.2.2.2.1) : x.2.2.2.2.2.length ≤ 4 ∧ ∀ r ∈ x.2.2.2.2.2, okR r := by
 obtain ⟨_, _, _, _, h4, h5, _⟩ := ev_ok (ev_rows h hx)
 exact ⟨h4, fun r hr => okR_of (hs.2.2.1 x hx r hr) (rowE_zero (h5 r hr)).1⟩
end
end Go.Mo
end

section
/-
  Plain facts: the document as the form carries it is good; SubripReduced returns true.
-/
namespace Go.Mo
open Go Go.W Go.Lib
set_option maxRecDepth 100000
noncomputable section
theorem carr_chk {l : Row} (h : rowChk l = 0) : rowChk (carr l) = 0 := by
 have h1 := (rowChk_ok h).1
 have h2 := (carr_len l).1
 unfold rowChk
 rw [if_neg (by omega)]
 exact (carr_good h).1.1
theorem carr_lenT {l : Row} (h : rowChk l = 0) : lenT (carr l) = lenT l := by
 rw [lenT_plain _ fun x hx => ((rowChk_ok (carr_chk h)).2 x hx).1, lenT_plain _ fun x hx => ((rowChk_ok h).2 x hx).1, carr_plain]
theorem carr_rowE {l : Row} (h : rowE l = 0) : rowE (carr l) = 0 := by
 obtain ⟨h1, h2, h3⟩ := rowE_zero h
 unfold rowE
 rw [if_neg (by rw [carr_chk h1]; simp), carr_plain, h2, if_neg (by simp), carr_lenT h1, if_neg (by omega)]
theorem placeL_ok {r : Reg} {k : Nat} : ∀ (l : List Int) (i : Nat) (out : List Spot), (∀ n ∈ l, 0 ≤ n ∧ n ≤ r.2.2.2.2.1) → (placeL r k i l out).2 = 0
 | [], _, _, _ => rfl
 | n :: l, i, out, h => by
  have hn := h n List.mem_cons_self
  simp only [placeL]
  rw [if_neg (by omega), if_neg (by omega)]
  exact placeL_ok l _ _ fun m hm => h m (List.mem_cons_of_mem _ hm)
theorem ev_plain {i s e : Int} {rows : List Row} (hi : 1 ≤ i ∧ i ≤ 1099511627776) (hs : 0 ≤ s ∧ s < e ∧ e ≤ 5184000) (h4 : 0 < rows.length) (h5 : rows.length ≤ 4) (h6 : ∀ r ∈ rows, rowE r = 0) : evChk (i, (s, e), [], 1, [], rows) [] = 0 := by
 have hf : findR [] ([] : List UInt8) = some defR := rfl
 unfold evChk
 simp only
 rw [hf, if_neg (by omega), if_neg (by omega), if_neg (not_not_intro hs)]
 simp only
 rw [if_neg (not_not_intro ⟨by decide, by decide⟩), if_neg (fun k => k.1 rfl), if_neg (by omega), if_neg (by omega), rowsE_of _ _ h6]
 unfold placeS
 have hl : (lens rows).length = rows.length := by unfold lens; rw [List.length_map]
 have e6 : defR.2.2.1 = 4 := rfl
 rw [if_neg (not_not_intro (.inl rfl)), hl, e6, if_neg (by omega)]
 refine placeL_ok _ _ _ fun n hn => ?_
 unfold lens at hn
 obtain ⟨q, hq, rfl⟩ := List.mem_map.1 hn
 have := (rowE_zero (h6 q hq)).2.2
 have e7 : defR.2.2.2.2.1 = 32 := rfl
 rw [e7]
 omega
theorem evQ_chk {d : Doc} (h : docChk d = 0) {x : Ev} (hx : x ∈ d.2.2.2.2.2.2.1) {i : Nat} (hi : i < 1000) : evChk (evQ i x) [] = 0 := by
 obtain ⟨_, _, h3, h4, h5, h6, _⟩ := ev_ok (ev_rows h hx)
 exact ev_plain (by omega) h3 (by rw [List.length_map]; exact h4) (by rw [List.length_map]; exact h5) fun r hr => by
  obtain ⟨q, hq, rfl⟩ := List.mem_map.1 hr
  exact carr_rowE (h6 q hq)
theorem rate_of {d : Doc} (h : headChk d = 0) : ¬ rateBad d.2.2.1 d.2.2.2.1 := by
 unfold headChk at h
 split at h
 ·cases h
 split at h
 ·cases h
 split at h
 ·cases h
 split at h
 ·cases h
 rename_i c
 exact c
theorem docQ_self {d : Doc} (hs : smallD d) (h : docChk d = 0) : q120 fuelH (docQ d, docQ d) = some true := by
 obtain ⟨_, h2, _⟩ := doc_evs h
 refine doc_self (by simp [docQ]) (by show (evsQ 0 d.2.2.2.2.2.2.1).length ≤ _; rw [evsQ_len]; omega) (fun x hx => ?_) rfl
 have hx : x ∈ evsQ 0 d.2.2.2.2.2.2.1 := hx
 obtain ⟨j, hj, rfl⟩ := List.mem_iff_getElem.1 hx
 have hj' : j < d.2.2.2.2.2.2.1.length := by rw [evsQ_len] at hj; exact hj
 rw [evsQ_at _ j hj' hj]
 obtain ⟨h4, hok⟩ := rows_carr hs h (List.getElem_mem hj')
 refine ⟨by show ((d.2.2.2.2.2.2.1[j]).2.2.2.2.2.map carr).length ≤ _; rw [List.length_map]; omega, fun r hr => ?_⟩
 obtain ⟨q, hq, rfl⟩ := List.mem_map.1 (show r ∈ (d.2.2.2.2.2.2.1[j]).2.2.2.2.2.map carr from hr)
 have h1 := (carr_len q).1
 have h2 := (hok q hq).1
 omega
end
end Go.Mo
end

section
/-
  Plain facts: the file of a document, both sides; SubripAccepts and SubripEncodes return true.
-/
namespace Go.Mo
open Go Go.W Go.Lib
set_option maxRecDepth 100000
noncomputable section
theorem wu_id {x : Int} (h : 0 ≤ x ∧ x ≤ 9223372036854775807) : wr .u64 x = x := by
 show IntKind.wrap .u64 x = x
 unfold IntKind.wrap
 simp only [IntKind.bits, IntKind.signed, Bool.false_and, show (2 : Int) ^ 64 = 18446744073709551616 from rfl]
 rw [if_neg (by simp)]
 omega
def tkS (r : UInt8) : Int := (q49 fuelH r).getD 0
def tkB (r : UInt8) : Bool := decide (q49 fuelH r = some (tkS r)) && (decide (tvB r = false) || (decide (q128 fuelH r = some (tkS r)) && (decide (2002 ≤ tkS r) && decide (tkS r ≤ 5005))))
theorem tk_tab (r : UInt8) : tkB r = true := all_u8 (P := tkB) (by kernel_rfl) r
theorem tk_facts (r : UInt8) : q49 fuelH r = some (tkS r) ∧ (tvB r = true → q128 fuelH r = some (tkS r) ∧ 2002 ≤ tkS r ∧ tkS r ≤ 5005) := by
 have h := tk_tab r
 unfold tkB at h
 rw [Bool.and_eq_true, Bool.or_eq_true, Bool.and_eq_true, Bool.and_eq_true] at h
 refine ⟨of_decide_eq_true h.1, fun hv => ?_⟩
 rcases h.2 with k | ⟨k1, k2, k3⟩
 ·have := of_decide_eq_true k
  rw [hv] at this
  cases this
 ·exact ⟨of_decide_eq_true k1, of_decide_eq_true k2, of_decide_eq_true k3⟩
def quo (n d : Int) : Int := if 2 * (n % d) < d then n / d else n / d + 1
def timS (r : UInt8) (f : Int) : Int × Int := if tvB r = false then (0, 3) else if f < 0 then (0, 2) else if 10378368000 / tkS r < f then (0, 2) else (f * tkS r, 0)
def milS (r : UInt8) (f : Int) : Int × Int := if (timS r f).2 ≠ 0 then (0, (timS r f).2) else (quo (timS r f).1 120, 0)
theorem tdiv_w2 {a b : Int} (ha : 0 ≤ a ∧ a ≤ 10378368000) (hb : 0 < b) : w64 (idiv a b) = a / b := by
 unfold idiv
 have h1 := Int.ediv_nonneg ha.1 (Int.le_of_lt hb)
 have h2 := Int.ediv_le_self b ha.1
 rw [Int.tdiv_eq_ediv_of_nonneg ha.1, w64_id (by omega)]
theorem tim_bd (r : UInt8) (f : Int) (h : (timS r f).2 = 0) : 0 ≤ (timS r f).1 ∧ (timS r f).1 ≤ 10378368000 := by
 unfold timS at h ⊢
 split
 ·simp
 split
 ·simp
 split
 ·simp
 rename_i h1 h2 h3
 obtain ⟨_, hk⟩ := tk_facts r
 obtain ⟨_, k1, k2⟩ := hk (by simpa using h1)
 have h4 : f ≤ 10378368000 / tkS r := by omega
 have h5 : f * tkS r ≤ (10378368000 / tkS r) * tkS r := Int.mul_le_mul_of_nonneg_right h4 (by omega)
 have h6 : (10378368000 / tkS r) * tkS r ≤ 10378368000 := Int.ediv_mul_le _ (by omega)
 have h7 : 0 ≤ f * tkS r := Int.mul_nonneg (by omega) (by omega)
 exact ⟨h7, by show f * tkS r ≤ _; omega⟩
theorem time_one {r : UInt8} {f : Int} {T : Option Int} (hv : tvB r = true) (hT : T = some (tkS r)) : cnd (ilt f (0 : Int)) (some ((0 : Int), (2 : Int))) (bnd T fun v1 => grd (ine v1 (0 : Int)) <| cnd (ilt (w64 (idiv (10378368000 : Int) v1)) f) (some ((0 : Int), (2 : Int))) (bnd T fun v2 => some (w64 (imul f v2), (0 : Int)))) = some (timS r f) := by
 obtain ⟨_, k2, k3⟩ := (tk_facts r).2 hv
 have hw := tdiv_w2 (a := 10378368000) (b := tkS r) (by omega) (by omega)
 subst hT
 rw [cnd_ilt]
 by_cases h1 : f < 0
 ·rw [if_pos h1]; unfold timS; rw [if_neg (by rw [hv]; simp), if_pos h1]
 rw [if_neg h1, bnd_some', grd_t (ine_t (by omega)), hw, cnd_ilt]
 by_cases h2 : 10378368000 / tkS r < f
 ·rw [if_pos h2]; unfold timS; rw [if_neg (by rw [hv]; simp), if_neg h1, if_pos h2]
 rw [if_neg h2, bnd_some']
 have hb := tim_bd r f (by unfold timS; rw [if_neg (by rw [hv]; simp), if_neg h1, if_neg h2])
 unfold timS at hb ⊢
 rw [if_neg (by rw [hv]; simp), if_neg h1, if_neg h2] at hb ⊢
 simp only at hb
 unfold imul
 rw [w64_id (by omega)]
theorem time_both (r : UInt8) (f : Int) : q50 fuelH (r, f) = some (timS r f) ∧ r02_Time fuelH (r, f) = some (timS r f) := by
 obtain ⟨t1, _⟩ := tv_eq r
 obtain ⟨t2, _⟩ := r02_eq r
 obtain ⟨k0, hk⟩ := tk_facts r
 refine ⟨?_, ?_⟩
 ·unfold q50
  simp only
  rw [t1, bnd_some']
  cases hv : tvB r with
  | false => rw [cnd_t (by rfl)]; unfold timS; rw [if_pos hv]
  | true => rw [cnd_f (by rfl)]; exact time_one hv k0
 ·unfold r02_Time
  simp only
  rw [t2, bnd_some']
  cases hv : tvB r with
  | false => rw [cnd_t (by rfl)]; unfold timS; rw [if_pos hv]
  | true => rw [cnd_f (by rfl)]; exact time_one hv (hk hv).1
theorem ratio_quo {n d : Int} (h0 : 0 ≤ n ∧ n ≤ 10378368000) (hd : 100 ≤ d ∧ d ≤ 6000) : q54 fuelH (n, d, 2) = some (quo n d, 0) := by
 have e1 := Int.tdiv_eq_ediv_of_nonneg (b := d) h0.1
 have e2 := Int.tmod_eq_emod_of_nonneg (b := d) h0.1
 have hm0 := Int.emod_nonneg n (show d ≠ 0 by omega)
 have hm1 := Int.emod_lt_of_pos n (show 0 < d by omega)
 have hq0 := Int.ediv_nonneg h0.1 (show 0 ≤ d by omega)
 have hq1 := Int.ediv_le_self d h0.1
 have s1 : ∀ x : Int, 0 ≤ x → x ≤ 10378368000 → q52 fuelH x = some x := fun x hx hx2 => by
  unfold q52
  rw [cnd_f (ilt_f (by omega)), wu_id (by omega)]
 unfold q54 q51 q53 quo
 simp only
 rw [cnd_f (ieq_f (by omega)), cnd_t (by rfl), bnd_some', cnd_f (by rfl), s1 n h0.1 h0.2, s1 d (by omega) (by omega), bnd_some', bnd_some', grd_t (ine_t (by omega)), bnd_some', bnd_some', grd_t (ine_t (by omega)), jn_e, bnd_some', show ilt n 0 = false from ilt_f (by omega), show ilt d 0 = false from ilt_f (by omega)]
 unfold imod idiv
 rw [e1, e2, wu_id (x := n / d) (by omega)]
 have fin : ∀ v : Int, 0 ≤ v → v ≤ 10378368001 → (cnd (bneb false false) (some (w64 (wr .u64 (isub (0 : Int) v)), (0 : Int))) (cnd (ilt (9223372036854775807 : Int) v) (some ((0 : Int), (2 : Int))) (some (w64 v, (0 : Int))))) = some (v, 0) := fun v h1 h2 => by
  rw [cnd_f (by rfl), cnd_f (ilt_f (by omega)), w64_id (by omega)]
 have hsub : wr .u64 (isub d (n % d)) = d - n % d := by unfold isub; exact wu_id (by omega)
 rw [hsub]
 by_cases z : n % d = 0
 ·rw [cnd_t (ieq_t z), bnd_some', cnd_f rfl, if_pos (by omega)]
  exact fin _ hq0 (by omega)
 rw [cnd_f (ieq_f z), cnd_f (by rfl), cnd_f (by rfl), cnd_ilt]
 have up : wr .u64 (iadd (n / d) 1) = n / d + 1 := by unfold iadd; exact wu_id (by omega)
 by_cases z1 : d - n % d < n % d
 ·rw [if_pos z1, bnd_some', cnd_t rfl, if_neg (by omega), up]
  exact fin _ (by omega) (by omega)
 rw [if_neg z1, cnd_ieq]
 by_cases z2 : n % d = d - n % d
 ·rw [if_pos z2, bnd_some', cnd_t (by rfl), if_neg (by omega), up]
  exact fin _ (by omega) (by omega)
 ·rw [if_neg z2, bnd_some', cnd_f rfl, if_pos (by omega)]
  exact fin _ hq0 (by omega)
theorem ref_quo {n d : Int} (h0 : 0 ≤ n ∧ n ≤ 10378368000) (hd : 100 ≤ d ∧ d ≤ 6000) : q130 fuelH (n, d, 2) = some (quo n d, 0) := by
 have e1 := Int.tdiv_eq_ediv_of_nonneg (b := d) h0.1
 have e2 := Int.tmod_eq_emod_of_nonneg (b := d) h0.1
 have hm0 := Int.emod_nonneg n (show d ≠ 0 by omega)
 have hm1 := Int.emod_lt_of_pos n (show 0 < d by omega)
 have hq0 := Int.ediv_nonneg h0.1 (show 0 ≤ d by omega)
 have hq1 := Int.ediv_le_self d h0.1
 have ng : ∀ x : Int, 0 < x → x ≤ 10378368000 → q129 fuelH x = some (-x) := fun x hx hx2 => by
  unfold q129 isub
  rw [cnd_t (ilt_t hx), w64_id (by omega), Int.zero_sub]
 unfold q130 r01_Mode quo
 simp only
 rw [cnd_f (ieq_f (by omega)), cnd_t (by rfl), bnd_some', cnd_f (by rfl), jn_e, cnd_f (ieq_f (by omega)), grd_t (ine_t (by omega)), grd_t (ine_t (by omega)), jn_e]
 unfold imod idiv
 rw [e1, e2, w64_id (x := n / d) (by omega), show ilt (n % d) 0 = false from ilt_f (by omega), show ilt d 0 = false from ilt_f (by omega)]
 dsimp only
 by_cases z : n % d = 0
 ·rw [cnd_f (ine_f z), cnd_t (ieq_t z), if_pos (by omega)]
 rw [cnd_t (ine_t z), cnd_f (by rfl), cnd_f (ieq_f z), cnd_f (by rfl), cnd_f (by rfl), ng _ (by omega) (by omega), ng _ (by omega) (by omega), bnd_some', bnd_some', bnd_some', cnd_ile]
 unfold isub iadd
 rw [w64_id (by omega), w64_id (by omega)]
 by_cases z1 : 2 * (n % d) < d
 ·rw [if_neg (by omega), if_pos z1]
 ·rw [if_pos (by omega), if_neg z1]
theorem mil_both (r : UInt8) (f : Int) : q55 fuelH (r, f) = some (milS r f) ∧ q157 fuelH (r, f) = some (milS r f) := by
 obtain ⟨t1, t2⟩ := time_both r f
 unfold q55 q157 milS
 rw [t1, t2, bnd_some', bnd_some']
 by_cases h : (timS r f).2 ≠ 0
 ·rw [cnd_t (ine_t h), cnd_t (ine_t h), if_pos h]; exact ⟨rfl, rfl⟩
 have h : (timS r f).2 = 0 := by simpa using h
 have hb := tim_bd r f h
 rw [cnd_f (ine_f h), cnd_f (ine_f h), if_neg (by rw [h]; simp), ratio_quo hb (by omega), ref_quo hb (by omega)]
 exact ⟨rfl, rfl⟩
end
end Go.Mo
end

section
/-
  Plain facts: the file of a document, both sides; SubripAccepts and SubripEncodes return true.
-/
namespace Go.Mo
open Go Go.W Go.Lib
set_option maxRecDepth 100000
noncomputable section
theorem num_tab : ((List.range 20).all fun n => decide (q57 fuelH ((n : Int)) = some (itoa10 (n : Int))) && decide (q160 fuelH (n : Int) = some (itoa10 (n : Int))) && decide ((itoa10 (n : Int)).length ≤ 3)) = true := by kernel_rfl
theorem num_both {n : Nat} (h : n < 20) : q57 fuelH (n : Int) = some (itoa10 (n : Int)) ∧ q160 fuelH (n : Int) = some (itoa10 (n : Int)) ∧ (itoa10 (n : Int)).length ≤ 3 := by
 have := List.all_eq_true.1 num_tab n (List.mem_range.2 h)
 rw [Bool.and_eq_true, Bool.and_eq_true] at this
 exact ⟨of_decide_eq_true this.1.1, of_decide_eq_true this.1.2, of_decide_eq_true this.2⟩
def arrow : List UInt8 := [32, 45, 45, 62, 32]
def rowsQ : List Row → Int ⊕ List UInt8
 | [] => .inr []
 | r :: l => if (mkS r).2 ≠ 0 then .inl (mkS r).2 else match rowsQ l with
  | .inl e => .inl e
  | .inr t => .inr ((mkS r).1 ++ 10 :: t)
def hdQ (r : UInt8) (n : Nat) (x : Ev) : List UInt8 := itoa10 (n : Int) ++ [10] ++ (clkS (milS r x.2.1.1).1).1 ++ arrow ++ (clkS (milS r x.2.1.2).1).1 ++ [10]
def blkQ (r : UInt8) (n : Nat) (x : Ev) : Int ⊕ List UInt8 := if (milS r x.2.1.1).2 ≠ 0 then .inl (milS r x.2.1.1).2 else if (milS r x.2.1.2).2 ≠ 0 then .inl (milS r x.2.1.2).2 else match rowsQ x.2.2.2.2.2 with
 | .inl e => .inl e
 | .inr t => .inr (hdQ r n x ++ t ++ [10])
theorem clkS_len (v : Int) : (clkS v).1.length ≤ 12 := by
 unfold clkS clkB
 split
 ·simp
 split
 ·simp
 ·simp
theorem hdQ_len {r : UInt8} {n : Nat} (hn : n < 20) (x : Ev) : (hdQ r n x).length ≤ 34 := by
 have h1 := (num_both hn).2.2
 have h2 := clkS_len (milS r x.2.1.1).1
 have h3 := clkS_len (milS r x.2.1.2).1
 unfold hdQ arrow
 simp only [List.length_append, List.length_cons, List.length_nil]
 omega
theorem mkS_lenE {r : Row} (h : rowE r = 0) : (mkS r).1.length ≤ 352 := by
 obtain ⟨h1, _, h3⟩ := rowE_zero h
 obtain ⟨h4, h5⟩ := rowChk_ok h1
 have ht := tot_lenT r fun x hx => (h5 x hx).1
 have hw := wr_len (carr r)
 obtain ⟨c1, c2⟩ := carr_len r
 unfold mkS
 rw [if_neg (by rw [h1]; simp)]
 split
 ·simp
 ·show ((carr r).flatMap wrX).length ≤ 352
  omega
theorem rowsQ_len : ∀ {l : List Row} {t : List UInt8}, (∀ r ∈ l, rowE r = 0) → rowsQ l = .inr t → t.length ≤ 353 * l.length
 | [], t, _, h => by
  simp only [rowsQ, Sum.inr.injEq] at h
  subst h
  simp
 | r :: l, t, hr, h => by
  simp only [rowsQ] at h
  split at h
  ·cases h
  ·split at h
   ·cases h
   ·rename_i u hu
    injection h with h
    subst h
    have h1 := rowsQ_len (fun q hq => hr q (List.mem_cons_of_mem _ hq)) hu
    have h2 := mkS_lenE (hr r List.mem_cons_self)
    simp only [List.length_append, List.length_cons]
    omega
def rwR {R : Type} (E : Int → Option R) (_ : Nat) (r : Row) (a : List UInt8) : Option R ⊕ List UInt8 := if (mkS r).2 ≠ 0 then .inl (E (mkS r).2) else .inr (a ++ ((mkS r).1 ++ [10]))
theorem rw_it {R : Type} (E : Int → Option R) (K : List UInt8 → Option R) : ∀ (l : List Row) (i : Nat) (a : List UInt8), itI (rwR E) K i l a = match rowsQ l with
  | .inl e => E e
  | .inr t => K (a ++ t)
 | [], _, a => by simp [itI, rowsQ]
 | r :: l, i, a => by
  simp only [itI, rwR, rowsQ]
  by_cases h : (mkS r).2 ≠ 0
  ·rw [if_pos h, if_pos h]
  ·rw [if_neg h, if_neg h]
   refine (rw_it E K l (i + 1) (a ++ ((mkS r).1 ++ [10]))).trans ?_
   cases rowsQ l with
   | inl e => rfl
   | inr t => simp
theorem cat_ok {a b : List UInt8} (h : a.length + b.length ≤ 100000000) : catOk (iadd (len a) (len b)) = true := catW h
theorem ev_fit {d : Doc} (hs : smallD d) (h : docChk d = 0) {x : Ev} (hx : x ∈ d.2.2.2.2.2.2.1) : x.2.2.2.2.2.length ≤ 4 ∧ (∀ r ∈ x.2.2.2.2.2, rowE r = 0) ∧ ∀ r ∈ x.2.2.2.2.2, smallR r := by
 obtain ⟨_, _, _, _, h4, h5, _⟩ := ev_ok (ev_rows h hx)
 exact ⟨h4, h5, fun r hr => hs.2.2.1 x hx r hr⟩
theorem sub_block {r : UInt8} {n : Nat} (hn : n < 20) {x : Ev} (h4 : x.2.2.2.2.2.length ≤ 4) (h5 : ∀ q ∈ x.2.2.2.2.2, rowE q = 0) (h6 : ∀ q ∈ x.2.2.2.2.2, smallR q) : q73 fuelH (r, (n : Int), x) = some (match blkQ r n x with
  | .inl e => ([], e)
  | .inr t => (t, 0)) := by
 obtain ⟨n1, _, n3⟩ := num_both hn
 unfold q73 blkQ
 simp only
 rw [(mil_both r _).1, bnd_some']
 by_cases m1 : (milS r x.2.1.1).2 ≠ 0
 ·rw [cnd_t (ine_t m1), if_pos m1]
 rw [cnd_f (ine_f (show (milS r x.2.1.1).2 = 0 by simpa using m1)), if_neg m1, (mil_both r _).1, bnd_some']
 by_cases m2 : (milS r x.2.1.2).2 ≠ 0
 ·rw [cnd_t (ine_t m2), if_pos m2]
 have c1 := clkS_len (milS r x.2.1.1).1
 have c2 := clkS_len (milS r x.2.1.2).1
 rw [cnd_f (ine_f (show (milS r x.2.1.2).2 = 0 by simpa using m2)), if_neg m2, sub_clock, sub_clock, bnd_some', bnd_some', n1, bnd_some', grd_t (cat_ok (by simp only [List.length_cons, List.length_nil]; omega)), grd_t (cat_ok (by simp only [lapp, List.length_append, List.length_cons, List.length_nil]; omega)), grd_t (cat_ok (by simp only [lapp, List.length_append, List.length_cons, List.length_nil]; omega)), grd_t (cat_ok (by simp only [lapp, List.length_append, List.length_cons, List.length_nil]; omega)), grd_t (cat_ok (by simp only [lapp, List.length_append, List.length_cons, List.length_nil]; omega)), jn_e]
 have hh := hdQ_len (r := r) hn x
 refine Eq.trans (lst_it (l := x.2.2.2.2.2) (fun (a : List UInt8) (p : Nat) => (a, (p : Int))) (rwR fun e => some (([] : List UInt8), e)) (fun a => some (a ++ [10], (0 : Int))) (fun i a => a.length ≤ 34 + 353 * i) (fun self a i hi hI => ?_) (fun self a hI => ?_) fuelH 0 (hdQ r n x) (Nat.zero_le _) (by have := fuelH_eq; omega) (by omega)) ?_
 ·have hm := mkS_lenE (h5 _ (List.getElem_mem hi))
  simp only
  rw [cnd_t (ilt_t (by simp only [len]; omega)), grd_t (inb_t (by simp only [len]; omega)), lget_i hi, sub_markup (h6 _ (List.getElem_mem hi)), bnd_some', w64_succ hi (by omega)]
  unfold rwR
  by_cases m : (mkS x.2.2.2.2.2[i]).2 ≠ 0
  ·rw [cnd_t (ine_t m), if_pos m]; rfl
  ·rw [cnd_f (ine_f (show (mkS x.2.2.2.2.2[i]).2 = 0 by simpa using m)), if_neg m, grd_t (cat_ok (by simp only [List.length_cons, List.length_nil]; omega)), grd_t (cat_ok (by simp only [lapp, List.length_append, List.length_cons, List.length_nil]; omega))]
   exact ⟨rfl, by simp only [List.length_append, List.length_cons, List.length_nil]; omega⟩
 ·simp only
  rw [cnd_f (ilt_f (by simp only [len]; omega)), grd_t (cat_ok (by simp only [List.length_cons, List.length_nil]; omega))]
  rfl
 ·rw [List.drop_zero, rw_it]
  cases rowsQ x.2.2.2.2.2 with
  | inl e => rfl
  | inr t => rfl
def filQ (r : UInt8) : Nat → List Ev → (Nat × Int) ⊕ List UInt8
 | _, [] => .inr []
 | i, x :: l => match blkQ r (i + 1) x with
  | .inl e => .inl (i, e)
  | .inr t => match filQ r (i + 1) l with
   | .inl z => .inl z
   | .inr u => .inr (t ++ u)
def encQ (d : Doc) : List UInt8 × Int × Int := if docChk d ≠ 0 then ([], -1, docChk d) else match filQ d.2.2.1 0 d.2.2.2.2.2.2.1 with
 | .inl (i, e) => ([], (i : Int), e)
 | .inr s => if 262144 < s.length then ([], -1, 9) else (s, -1, 0)
def fiR {R : Type} (E : Nat → Int → Option R) (r : UInt8) (i : Nat) (x : Ev) (a : List UInt8) : Option R ⊕ List UInt8 := match blkQ r (i + 1) x with
 | .inl e => .inl (E i e)
 | .inr t => .inr (a ++ t)
theorem fi_it {R : Type} (E : Nat → Int → Option R) (K : List UInt8 → Option R) (r : UInt8) : ∀ (l : List Ev) (i : Nat) (a : List UInt8), itI (fiR E r) K i l a = match filQ r i l with
  | .inl z => E z.1 z.2
  | .inr s => K (a ++ s)
 | [], _, a => by simp [itI, filQ]
 | x :: l, i, a => by
  simp only [itI, fiR, filQ]
  cases blkQ r (i + 1) x with
  | inl e => rfl
  | inr t =>
   refine (fi_it E K r l (i + 1) (a ++ t)).trans ?_
   cases filQ r (i + 1) l with
   | inl z => rfl
   | inr u => simp
theorem blkQ_len {r : UInt8} {n : Nat} (hn : n < 20) {x : Ev} (h4 : x.2.2.2.2.2.length ≤ 4) (h5 : ∀ q ∈ x.2.2.2.2.2, rowE q = 0) {t : List UInt8} (h : blkQ r n x = .inr t) : t.length ≤ 1447 := by
 unfold blkQ at h
 split at h
 ·cases h
 split at h
 ·cases h
 split at h
 ·cases h
 ·rename_i u hu
  injection h with h
  subst h
  have h1 := rowsQ_len h5 hu
  have h2 := hdQ_len (r := r) hn x
  simp only [List.length_append, List.length_cons, List.length_nil]
  omega
def fewE (d : Doc) : Prop := d.2.2.2.2.2.2.1.length ≤ 6
theorem sub_encode {d : Doc} (hs : smallD d) (hf : fewE d) : q75 fuelH d = some (encQ d) := by
 unfold q75 encQ
 unfold fewE at hf
 rw [document_check hs, bnd_some']
 by_cases hc : docChk d ≠ 0
 ·rw [cnd_t (ine_t hc), if_pos hc]
 have hc : docChk d = 0 := by simpa using hc
 rw [cnd_f (ine_f hc), if_neg (by rw [hc]; simp), jn_e]
 refine Eq.trans (lst_it (l := d.2.2.2.2.2.2.1) (fun (a : List UInt8) (p : Nat) => ((p : Int), ((), a))) (fiR (fun i e => some (([] : List UInt8), (i : Int), e)) d.2.2.1) (fun a => some (if 262144 < a.length then (([] : List UInt8), (-1 : Int), (9 : Int)) else (a, -1, 0))) (fun i a => a.length ≤ 1447 * i) (fun self a i hi hI => ?_) (fun self a hI => ?_) fuelH 0 [] (Nat.zero_le _) (by have := fuelH_eq; omega) (Nat.zero_le _)) ?_
 ·obtain ⟨h4, h5, h6⟩ := ev_fit hs hc (List.getElem_mem hi)
  simp only
  rw [cnd_t (ilt_t (by simp only [len]; omega)), grd_t (inb_t (by simp only [len]; omega)), lget_i hi, w64_succ hi (by omega), sub_block (r := d.2.2.1) (n := i + 1) (by omega) h4 h5 h6, bnd_some']
  unfold fiR
  cases hb : blkQ d.2.2.1 (i + 1) d.2.2.2.2.2.2.1[i] with
  | inl e =>
   simp only
   have he : e ≠ 0 := by
    unfold blkQ at hb
    split at hb
    ·rename_i k; injection hb with hb; rw [← hb]; exact k
    split at hb
    ·rename_i k; injection hb with hb; rw [← hb]; exact k
    split at hb
    ·rename_i u hu
     injection hb with hb
     rw [← hb]
     have : ∀ (l : List Row) (z : Int), rowsQ l = .inl z → z ≠ 0 := by
      intro l
      induction l with
      | nil => intro z h; cases h
      | cons q l ih =>
       intro z h
       simp only [rowsQ] at h
       split at h
       ·rename_i k; injection h with h; rw [← h]; exact k
       ·split at h
        ·rename_i w hw; injection h with h; rw [← h]; exact ih _ hw
        ·cases h
     exact this _ _ hu
    ·cases hb
   rw [cnd_t (ine_t he)]
   rfl
  | inr t =>
   have ht := blkQ_len (by omega) h4 h5 hb
   simp only
   rw [cnd_f (ine_f rfl), write_str (by omega), bnd_some']
   exact ⟨rfl, by simp only [List.length_append]; omega⟩
 ·simp only
  rw [cnd_f (ilt_f (by simp only [len]; omega))]
  unfold q74
  rw [bnd_some', cnd_ilt]
  by_cases hk : 262144 < a.length
  ·rw [if_pos (by simp only [len]; omega), if_pos hk]
  ·rw [if_neg (by simp only [len]; omega), if_neg hk]
 ·rw [List.drop_zero, fi_it]
  cases filQ d.2.2.1 0 d.2.2.2.2.2.2.1 with
  | inl z => rfl
  | inr s => rfl
theorem blk_err {r : UInt8} {n : Nat} {x : Ev} {e : Int} (hb : blkQ r n x = .inl e) : e ≠ 0 := by
 unfold blkQ at hb
 split at hb
 ·rename_i k; injection hb with hb; rw [← hb]; exact k
 split at hb
 ·rename_i k; injection hb with hb; rw [← hb]; exact k
 split at hb
 ·rename_i u hu
  injection hb with hb
  rw [← hb]
  have : ∀ (l : List Row) (z : Int), rowsQ l = .inl z → z ≠ 0 := by
   intro l
   induction l with
   | nil => intro z h; cases h
   | cons q l ih =>
    intro z h
    simp only [rowsQ] at h
    split at h
    ·rename_i k; injection h with h; rw [← h]; exact k
    ·split at h
     ·rename_i w hw; injection h with h; rw [← h]; exact ih _ hw
     ·cases h
  exact this _ _ hu
 ·cases hb
theorem fil_err {r : UInt8} : ∀ {l : List Ev} {i : Nat} {z : Nat × Int}, filQ r i l = .inl z → z.2 ≠ 0
 | [], _, _, h => by cases h
 | x :: l, i, z, h => by
  simp only [filQ] at h
  split at h
  ·rename_i e he
   injection h with h
   rw [← h]
   exact blk_err he
  ·split at h
   ·rename_i w hw
    injection h with h
    rw [← h]
    exact fil_err hw
   ·cases h
end
end Go.Mo
end

section
/-
  Plain facts: the lines of a text, split by the library.
-/
namespace Go.Mo
open Go Go.W Go.Lib
set_option maxRecDepth 100000
noncomputable section
abbrev Ln := List UInt8
def linesL : List UInt8 → List Ln
 | [] => [[]]
 | b :: s => if b = 10 then [] :: linesL s else match linesL s with
  | l :: r => (b :: l) :: r
  | [] => [[b]]
theorem lines_ne : ∀ s, ∃ l r, linesL s = l :: r
 | [] => ⟨[], [], rfl⟩
 | b :: s => by
  obtain ⟨l, r, h⟩ := lines_ne s
  simp only [linesL]
  by_cases hb : b = 10
  ·rw [if_pos hb]; exact ⟨_, _, rfl⟩
  ·rw [if_neg hb, h]; exact ⟨_, _, rfl⟩
theorem lines_one : ∀ {s : List UInt8}, (10 : UInt8) ∉ s → linesL s = [s]
 | [], _ => rfl
 | b :: s, h => by
  have hb : b ≠ 10 := fun e => h (by rw [e]; exact List.mem_cons_self)
  simp only [linesL]
  rw [if_neg hb, lines_one fun k => h (List.mem_cons_of_mem _ k)]
theorem lines_cut : ∀ {p q : List UInt8}, (10 : UInt8) ∉ p → linesL (p ++ 10 :: q) = p :: linesL q
 | [], q, _ => by
  rw [List.nil_append]
  exact if_pos rfl
 | b :: p, q, h => by
  have hb : b ≠ 10 := fun e => h (by rw [e]; exact List.mem_cons_self)
  simp only [List.cons_append, linesL]
  rw [if_neg hb, lines_cut fun k => h (List.mem_cons_of_mem _ k)]
theorem lines_count : ∀ s : List UInt8, (linesL s).length = s.count 10 + 1
 | [] => rfl
 | b :: s => by
  have ih := lines_count s
  obtain ⟨l, r, h⟩ := lines_ne s
  simp only [linesL]
  by_cases hb : b = 10
  ·subst hb
   rw [if_pos rfl, List.count_cons_self, List.length_cons, ih]
  ·rw [if_neg hb, List.count_cons_of_ne hb, ← ih, h]
   rfl
theorem ix_at : ∀ {l : List UInt8}, (10 : UInt8) ∈ l → ∃ p q, l = p ++ 10 :: q ∧ (10 : UInt8) ∉ p ∧ Lib.indexByte l 10 = (p.length : Int)
 | [], h => by cases h
 | b :: l, h => by
  by_cases hb : b = 10
  ·subst hb
   exact ⟨[], l, rfl, by simp, by simp [Lib.indexByte]⟩
  ·obtain ⟨p, q, e, h1, h2⟩ := ix_at (l := l) ((List.mem_cons.1 h).resolve_left fun k => hb k.symm)
   refine ⟨b :: p, q, by rw [e]; rfl, fun k => (List.mem_cons.1 k).elim (fun k => hb k.symm) h1, ?_⟩
   unfold Lib.indexByte
   rw [if_neg (by simpa using hb), if_neg (by rw [h2]; simp), h2, List.length_cons]
   omega
theorem sub_index {s : List UInt8} (hs : s.length ≤ 4000000) : strings_Index fuelH (s, [10]) = some (Lib.indexByte s 10) := by
 unfold strings_Index hand_strings_Index
 rw [grd_t (decide_eq_true (show s.length < 4294967281 by omega)), Lib.index_one]
theorem sub_count {s : List UInt8} : q80 fuelH (s, [10]) = some ((s.count 10 : Nat) : Int) := by
 unfold q80
 simp only
 rw [cnd_f (by rfl), cnd_t (by rfl), grd_t (by rfl)]
 rfl
theorem count_le (s : List UInt8) : s.count 10 ≤ s.length := List.count_le_length
theorem sub_split {x : List UInt8} (hx : x.length ≤ 4000000) : q82 fuelH (x, [10]) = some (linesL x) := by
 have hc := count_le x
 have hN := lines_count x
 have e1 : imin (((x.count 10 + 1 : Nat) : Int)) ((x.length + 1 : Nat) : Int) = ((x.count 10 + 1 : Nat) : Int) := by unfold imin; omega
 have w1 : w64 (iadd ((x.count 10 : Nat) : Int) (1 : Int)) = ((x.count 10 + 1 : Nat) : Int) := by unfold iadd; rw [w64_id (by omega)]; omega
 have w2 : w64 (iadd (len x) (1 : Int)) = ((x.length + 1 : Nat) : Int) := by unfold iadd len; rw [w64_id (by omega)]; omega
 have w3 : w64 (isub ((x.count 10 + 1 : Nat) : Int) (1 : Int)) = ((x.count 10 : Nat) : Int) := by unfold isub; rw [w64_id (by omega)]; omega
 have tN : ∀ n : Nat, toN (n : Int) = n := fun n => by simp [toN]
 unfold q82 q81
 simp only
 rw [cnd_f (by rfl), cnd_f (by rfl), jn_e, cnd_t (by rfl), sub_count, bnd_some', w1, w2]
 dsimp only
 rw [e1, w3, grd_t (by show decide _ = true; exact decide_eq_true (by omega)), jn_e, tN]
 generalize hk : x.count 10 = N at *
 have run : ∀ R : Option (List Ln), R = some (linesL x) → bnd R (fun v0 => some v0) = some (linesL x) := fun R h => by rw [h]; rfl
 refine run _ ?_
 refine loop_inv (n := N) (fun (a : List UInt8 × List Ln) (i : Nat) => (a.1, ((i : Int), a.2))) (fun i a => ∃ done, linesL x = done ++ linesL a.1 ∧ done.length = i ∧ a.2 = done ++ List.replicate (N + 1 - i) [] ∧ a.1.length ≤ x.length) _ (fun self a i hi hI => ?_) (fun self a hI => ?_) fuelH 0 (x, lrep (N + 1) []) (Nat.zero_le _) (by have := fuelH_eq; omega) ⟨[], rfl, rfl, rfl, Nat.le_refl _⟩
 ·obtain ⟨done, d1, d2, d3, d4⟩ := hI
  have hin : (10 : UInt8) ∈ a.1 := by
   by_cases hm : (10 : UInt8) ∈ a.1
   ·exact hm
   ·rw [lines_one hm] at d1
    have := congrArg List.length d1
    rw [List.length_append, List.length_singleton] at this
    omega
  obtain ⟨p, q, e, h1, h2⟩ := ix_at hin
  have hpl := congrArg List.length e
  rw [List.length_append, List.length_cons] at hpl
  have hal : a.2.length = N + 1 := by rw [d3, List.length_append, List.length_replicate]; omega
  have k0 : w64 (iadd (p.length : Int) (0 : Int)) = (p.length : Int) := by unfold iadd; rw [w64_id (by omega)]; omega
  have k1 : w64 (iadd (p.length : Int) (len ([10] : List UInt8))) = ((p.length + 1 : Nat) : Int) := by unfold iadd; rw [w64_id (by simp only [len, List.length_singleton]; omega)]; simp only [len, List.length_singleton]; omega
  have tk : a.1.take p.length = p := by rw [e]; exact List.take_left
  have dk : a.1.drop (p.length + 1) = q := by rw [e, show p ++ 10 :: q = (p ++ [10]) ++ q by simp]; exact List.drop_left' (by simp)
  refine ⟨(q, lset a.2 i p), ?_, done ++ [p], ?_, ?_, ?_, show q.length ≤ x.length by omega⟩
  ·simp only
   rw [cnd_t (ilt_t (by omega)), sub_index (by omega), bnd_some', h2, cnd_f (ilt_f (by omega)), k0, k1, grd_t (in2_t (by simp only [len]; omega)), grd_t (inb_t (by simp only [len, hal]; omega)), grd_t (in2_t (by simp only [len]; omega)), w64_succ (show i < N + 1 by omega) (by omega), tN, tN, tN]
   have t1 : ltake p.length a.1 = p := tk
   have t2 : ldrop (p.length + 1) a.1 = q := dk
   rw [t1, t2]
  ·rw [d1, e, lines_cut h1, List.append_assoc]
   rfl
  ·rw [List.length_append, List.length_singleton, d2]
  ·unfold lset
   rw [d3, List.set_append_right _ _ (by omega), d2, Nat.sub_self, show N + 1 - i = (N + 1 - (i + 1)) + 1 by omega, List.replicate_succ, List.set_cons_zero, List.append_assoc]
   rfl
 ·obtain ⟨done, d1, d2, d3, d4⟩ := hI
  have hl : linesL a.1 = [a.1] := by
   by_cases hm : (10 : UInt8) ∈ a.1
   ·obtain ⟨p, q, e, h1, h2⟩ := ix_at hm
    rw [e, lines_cut h1] at d1
    have := congrArg List.length d1
    rw [List.length_append, List.length_cons] at this
    obtain ⟨l, r, hq⟩ := lines_ne q
    rw [hq] at this
    simp only [List.length_cons] at this
    omega
   ·exact lines_one hm
  have e3 : a.2 = done ++ [[]] := by rw [d3, show N + 1 - N = 1 by omega]; rfl
  have hset : lset a.2 N a.1 = linesL x := by
   unfold lset
   rw [e3, List.set_append_right _ _ (by omega), d2, Nat.sub_self, d1, hl]
   rfl
  have hal : a.2.length = N + 1 := by rw [e3, List.length_append, List.length_singleton]; omega
  simp only
  rw [cnd_f (ilt_f (by omega)), grd_t (inb_t (by simp only [len, hal]; omega)), tN, hset, w64_succ (show N < N + 1 by omega) (by omega), grd_t (in2_t (by simp only [ofN, nlen]; omega)), tN]
  congr 1
  unfold cutl
  rw [List.drop_zero]
  exact List.take_of_length_le (by omega)
def trimR (l : Ln) : Ln := if l.getLast? = some 13 then l.dropLast else l
theorem sub_trim {l : Ln} (hl : l.length ≤ 4000000) : q85 fuelH (l, [13]) = some (trimR l) := by
 unfold q85 q84 q83 trimR
 simp only
 cases h : l.getLast? with
 | none =>
  have : l = [] := List.getLast?_eq_none_iff.1 h
  subst this
  rw [cnd_f (by rfl), bnd_some', cnd_f rfl, bnd_some', if_neg (by simp)]
 | some b =>
  obtain ⟨ys, rfl⟩ := List.getLast?_eq_some_iff.1 h
  have hpos : 0 < (ys ++ [b]).length := by simp
  have hyl : (ys ++ [b]).length = ys.length + 1 := by simp
  generalize hL : ys ++ [b] = l at hl hpos hyl ⊢
  have hw : w64 (isub (len l) (len ([13] : List UInt8))) = ((l.length - 1 : Nat) : Int) := by
   unfold isub
   simp only [len, List.length_singleton]
   rw [w64_id (by omega)]
   omega
  have tN : ∀ n : Nat, toN (n : Int) = n := fun n => by simp [toN]
  have hd : ldrop (l.length - 1) l = [b] := by
   show l.drop (l.length - 1) = [b]
   rw [hyl, Nat.add_sub_cancel, ← hL]
   exact List.drop_left
  have ht : ltake (l.length - 1) l = l.dropLast := (List.dropLast_eq_take).symm
  rw [cnd_t (show ile (len ([13] : List UInt8)) (len l) = true from ile_t (by simp only [len, List.length_singleton]; omega)), hw, grd_t (in2_t (by simp only [len]; omega)), tN, hd, bnd_some']
  by_cases hb : b = 13
  ·subst hb
   rw [cnd_t (by rw [seq_t]), grd_t (in2_t (by simp only [len]; omega)), ht, bnd_some', if_pos rfl]
  ·rw [cnd_f (by rw [← Bool.not_eq_true, seq_t]; simpa using hb), bnd_some', if_neg (by simpa using hb)]
end
end Go.Mo
end

section
/-
  Plain facts: the blocks of a text are read, both sides.
-/
namespace Go.Mo
open Go Go.W Go.Lib
set_option maxRecDepth 100000
noncomputable section
theorem jn_suff {F α : Type} {K : F} {T : F → Option α} {R : Option α} (P : F → Prop) (h1 : P K) (h2 : ∀ K', P K' → T K' = R) : jn K T = R := h2 K h1
def fmS (r : UInt8) (ms : Int) : Int × Int := if tvB r = false then (0, 3) else if ms < 0 then (0, 2) else if 86486400 < ms then (0, 2) else if 10378368000 < quo (ms * 120) (tkS r) * tkS r then (0, 2) else (quo (ms * 120) (tkS r), 0)
theorem quo_bd {n d : Int} (h0 : 0 ≤ n ∧ n ≤ 10378368000) (hd : 100 ≤ d ∧ d ≤ 6000) : 0 ≤ quo n d * d ∧ quo n d * d ≤ 10378374000 := by
 have h1 := Int.ediv_nonneg h0.1 (show 0 ≤ d by omega)
 have h2 : n / d * d ≤ n := Int.ediv_mul_le n (by omega)
 have h3 : 0 ≤ n / d * d := Int.mul_nonneg h1 (by omega)
 unfold quo
 split
 ·omega
 ·rw [Int.add_mul]; omega
theorem frame_both {r : UInt8} {n : Int} (hv : tvB r = true) (h0 : 0 ≤ n ∧ n ≤ 10378368000) : q91 fuelH (r, n, 2) = some (if 10378368000 < quo n (tkS r) * tkS r then (0, 2) else (quo n (tkS r), 0)) ∧ q131 fuelH (r, n, 2) = some (if 10378368000 < quo n (tkS r) * tkS r then (0, 2) else (quo n (tkS r), 0)) := by
 obtain ⟨t1, _⟩ := tv_eq r
 obtain ⟨t2, _⟩ := r02_eq r
 obtain ⟨k0, hk⟩ := tk_facts r
 obtain ⟨k1, k2, k3⟩ := hk hv
 have hb := quo_bd (n := n) (d := tkS r) h0 (by omega)
 have q1 := ratio_quo (n := n) (d := tkS r) h0 (by omega)
 have q2 := ref_quo (n := n) (d := tkS r) h0 (by omega)
 have hm : r01_Mode fuelH 2 = some true := rfl
 have hw : w64 (quo n (tkS r) * tkS r) = quo n (tkS r) * tkS r := w64_id (by omega)
 refine ⟨?_, ?_⟩
 ·unfold q91
  simp only
  rw [t1, bnd_some', hv, cnd_f (by rfl), cnd_f (by rfl), cnd_f (by rfl), cnd_f (ilt_f (by omega)), cnd_f (ilt_f (by omega)), k0, bnd_some', q1, bnd_some', bnd_some', cnd_ilt]
  unfold imul
  dsimp only
  rw [hw]
  split <;> rfl
 ·unfold q131
  simp only
  rw [t2, bnd_some', hv, cnd_f (by rfl), hm, bnd_some', cnd_f (by rfl), cnd_f (ilt_f (by omega)), cnd_f (ilt_f (by omega)), k1, bnd_some', q2, bnd_some', bnd_some', cnd_ilt]
  unfold imul
  dsimp only
  rw [hw]
  split <;> rfl
theorem fm_both (r : UInt8) (ms : Int) : q92 fuelH (r, ms) = some (fmS r ms) ∧ q132 fuelH (r, ms) = some (fmS r ms) := by
 obtain ⟨t1, _⟩ := tv_eq r
 obtain ⟨t2, _⟩ := r02_eq r
 refine ⟨?_, ?_⟩
 ·unfold q92 fmS
  simp only
  rw [t1, bnd_some']
  cases hv : tvB r with
  | false => rw [cnd_t (by rfl), if_pos rfl]
  | true =>
   rw [cnd_f (by rfl), if_neg (by simp), cnd_ilt]
   by_cases h1 : ms < 0
   ·rw [if_pos h1, if_pos h1]
   rw [if_neg h1, if_neg h1, cnd_ilt]
   by_cases h2 : 86486400 < ms
   ·rw [if_pos h2, if_pos h2]
   have hw : w64 (imul ms (120 : Int)) = ms * 120 := by unfold imul; rw [w64_id (by omega)]
   rw [if_neg h2, if_neg h2, hw, (frame_both (n := ms * 120) hv (by omega)).1, bnd_some']
 ·unfold q132 fmS
  simp only
  rw [t2, bnd_some']
  cases hv : tvB r with
  | false => rw [cnd_t (by rfl), if_pos rfl]
  | true =>
   rw [cnd_f (by rfl), if_neg (by simp), cnd_ilt]
   by_cases h1 : ms < 0
   ·rw [if_pos h1, if_pos h1]
   rw [if_neg h1, if_neg h1, cnd_ilt]
   by_cases h2 : 86486400 < ms
   ·rw [if_pos h2, if_pos h2]
   have hw : w64 (imul ms (120 : Int)) = ms * 120 := by unfold imul; rw [w64_id (by omega)]
   rw [if_neg h2, if_neg h2, hw, (frame_both (n := ms * 120) hv (by omega)).2, bnd_some']
def numB (l : Ln) : Bool := decide (1 ≤ l.length) && (decide (l.length ≤ 9) && allD l)
theorem valD_pos : ∀ (l : Ln) (n : Int), 0 ≤ n → allD l = true → 0 ≤ valD n l
 | [], n, h, _ => h
 | c :: l, n, h, hd => by
  have h2 : isD c ∧ allD l = true := by
   unfold allD at hd ⊢
   rw [List.all_cons, Bool.and_eq_true] at hd
   exact ⟨of_decide_eq_true hd.1, hd.2⟩
  have h1 := h2.1
  unfold isD at h1
  show 0 ≤ valD (stepD c n) l
  exact valD_pos l _ (by unfold stepD; omega) h2.2
theorem sub_number (l : Ln) : q87 fuelH l = some (numB l) := by
 unfold q87 numB
 rw [cnd_ile]
 by_cases h1 : 1 ≤ l.length
 ·rw [if_pos (by simp only [len]; omega), cnd_ile, decide_eq_true h1, Bool.true_and]
  by_cases h2 : l.length ≤ 9
  ·rw [if_pos (by simp only [len]; omega), decide_eq_true h2, Bool.true_and, sub_field (by omega), bnd_some']
   congr 1
   unfold fldS
   by_cases h3 : allD l = true
   ·rw [if_pos h3, h3]
    exact ile_t (valD_pos l 0 (by omega) h3)
   ·rw [if_neg h3]
    rw [Bool.not_eq_true] at h3
    rw [h3]
    rfl
  ·rw [if_neg (by simp only [len]; omega), decide_eq_false h2, Bool.false_and]
 ·rw [if_neg (by simp only [len]; omega), decide_eq_false h1, Bool.false_and]
def tmS (x : Ln) : Int × Int × Bool := if x.length ≠ 29 then (0, 0, false) else if (x.take 17).drop 12 ≠ arrow then (0, 0, false) else if (pcB (x.take 12)).2 = 0 then ((pcB (x.take 12)).1, (pcB (x.drop 17)).1, decide ((pcB (x.drop 17)).2 = 0)) else ((pcB (x.take 12)).1, (pcB (x.drop 17)).1, false)
theorem times_both (x : Ln) : q90 fuelH x = some (tmS x) ∧ q127 fuelH x = some (tmS x) := by
 unfold q90 q127 tmS
 by_cases h : x.length ≠ 29
 ·have e : ine (len x) 29 = true := ine_t (by simp only [len]; omega)
  rw [cnd_t e, cnd_t e, if_pos h]; exact ⟨rfl, rfl⟩
 have h : x.length = 29 := by simpa using h
 have e : ine (len x) 29 = false := ine_f (by simp only [len]; omega)
 have g : in3 (12 : Int) (17 : Int) (len x) = true := decide_eq_true (by simp only [len]; omega)
 have g1 : in2 (12 : Int) (len x) = true := in2_t (by simp only [len]; omega)
 have g2 : in2 (17 : Int) (len x) = true := in2_t (by simp only [len]; omega)
 rw [cnd_f e, cnd_f e, if_neg (by omega), grd_t g, grd_t g]
 have t12 : ltake (toN (12 : Int)) x = x.take 12 := rfl
 have t17 : ldrop (toN (17 : Int)) x = x.drop 17 := rfl
 have ta : ldrop (toN (12 : Int)) (ltake (toN (17 : Int)) x) = (x.take 17).drop 12 := rfl
 rw [t12, t17, ta]
 by_cases ha : (x.take 17).drop 12 = arrow
 ·have hs : sne ((x.take 17).drop 12) ([32, 45, 45, 62, 32] : List UInt8) = false := by rw [ha]; rfl
  rw [cnd_f hs, cnd_f hs, if_neg (by rw [ha]; simp), grd_t g1, grd_t g1, sub_parse, ref_parse, bnd_some', bnd_some', grd_t g2, grd_t g2, sub_parse, ref_parse, bnd_some', cnd_ieq]
  by_cases h0 : (pcB (x.take 12)).2 = 0
  ·rw [if_pos h0, if_pos h0]
   have : ieq (pcB (x.drop 17)).2 0 = decide ((pcB (x.drop 17)).2 = 0) := by
    by_cases k : (pcB (x.drop 17)).2 = 0
    ·rw [ieq_t k, decide_eq_true k]
    ·rw [ieq_f k, decide_eq_false k]
   rw [this]
   exact ⟨rfl, rfl⟩
  ·rw [if_neg h0, if_neg h0]
   exact ⟨rfl, rfl⟩
 ·have hs : sne ((x.take 17).drop 12) ([32, 45, 45, 62, 32] : List UInt8) = true := by
   unfold sne
   rw [bne_iff_ne]
   exact ha
  rw [cnd_t hs, cnd_t hs, if_pos ha]
  exact ⟨rfl, rfl⟩
abbrev Dg := Int × Int × Int
def evB (r : UInt8) (n : Nat) (h : Ln) (t : List Ln) : Ev := (((n + 1 : Nat) : Int), ((fmS r (tmS h).1).1, (fmS r (tmS h).2.1).1), [], 1, [], t.map pmS)
def bdS (r : UInt8) (n : Nat) (h : Ln) (t : List Ln) (f : Nat) : Ev ⊕ Dg :=
 if (tmS h).2.2 = false then .inr ((f : Int), 1, 4) else if 400 ≤ n then .inr ((f : Int), 1, 9) else
 if (fmS r (tmS h).1).2 ≠ 0 then .inr ((f : Int), 1, (fmS r (tmS h).1).2) else if (fmS r (tmS h).2.1).2 ≠ 0 then .inr ((f : Int), 1, (fmS r (tmS h).2.1).2) else
 if evChk (evB r n h t) [] ≠ 0 then .inr ((f : Int), 1, evChk (evB r n h t) []) else .inl (evB r n h t)
def rdS (r : UInt8) (n : Nat) : List Ln → Nat → Ev ⊕ Dg
 | [], f => .inr ((f : Int), 1, 4)
 | [h], f => if numB h = true then .inr ((f : Int), 1, 4) else bdS r n h [] f
 | h :: h2 :: t, f => if numB h = true then bdS r n h2 t (f + 1) else bdS r n h (h2 :: t) f
def addD (l : List Dg) (x : Dg) : List Dg := if l.length < 50 then l ++ [x] else l
def stD (r : UInt8) (b : Bool) (s : List Ev × List Dg) : UInt8 × Doc × List Dg := (r, ([], [], r, b, 0, [], s.1, []), s.2)
def putS (s : List Ev × List Dg) : Ev ⊕ Dg → List Ev × List Dg
 | .inl x => (s.1 ++ [x], s.2)
 | .inr g => (s.1, addD s.2 g)
theorem sub_fail {r : UInt8} {b : Bool} {s : List Ev × List Dg} (hd : s.2.length ≤ 50) (f c : Int) : q88 fuelH (stD r b s, f, c) = some (stD r b (putS s (.inr (f, 1, c)))) := by
 unfold q88 stD putS addD
 simp only
 rw [cnd_ilt]
 by_cases h : s.2.length < 50
 ·rw [if_pos (by simp only [len]; omega), if_pos h, grd_t (room_t (by simp only [iadd, len, List.length_singleton]; omega))]
  rfl
 ·rw [if_neg (by simp only [len]; omega), if_neg h]
theorem pmF_ruby : ∀ (k : Nat) (s : List UInt8) (o : Row) (t : List UInt8) (n : Sty), (∀ x ∈ o, x.2.2 = []) → ∀ x ∈ pmF k s o t n, x.2.2 = []
 | 0, s, o, t, n, h => by
  intro x hx
  simp only [pmF] at hx
  rcases List.mem_append.1 hx with h1 | h1
  ·exact h x h1
  ·rw [List.mem_singleton.1 h1]
 | k + 1, s, o, t, n, h => by
  have ho : ∀ x ∈ o ++ [(t, n, [])], x.2.2 = [] := fun x hx => by
   rcases List.mem_append.1 hx with h1 | h1
   ·exact h x h1
   ·rw [List.mem_singleton.1 h1]
  cases s with
  | nil => exact ho
  | cons b s =>
   simp only [pmF]
   split
   ·exact pmF_ruby k _ _ _ _ h
   ·exact pmF_ruby k _ _ _ _ ho
theorem pmS_small {s : Ln} (h : s.length ≤ 3000000) : smallR (pmS s) := by
 have h1 := pmF_size s.length s [] [] plainS (Nat.le_refl _)
 have h2 : tot (pmS s) = tot (pmF s.length s [] [] plainS) := norm_tot _
 have h3 : (pmS s).length ≤ _ := normR_len (pmF s.length s [] [] plainS)
 simp only [List.length_nil, tot] at h1
 have hr : ∀ x ∈ pmS s, x.2.2 = [] := fold_ruby _ [] (fun x hx => by cases hx) (pmF_ruby s.length s [] [] plainS fun x hx => by cases hx)
 refine ⟨fun x hx => ⟨?_, by rw [hr x hx]; simp⟩, by omega⟩
 have := tot_mem hx
 omega
end
end Go.Mo
end

section
/-
  Plain facts: the reader's block, both sides.
-/
namespace Go.Mo
open Go Go.W Go.Lib
set_option maxRecDepth 100000
noncomputable section
theorem take_map {α β : Type} {g : α → β} {l : List α} {i : Nat} (h : i < l.length) : (l.take (i + 1)).map g = (l.take i).map g ++ [g l[i]] := by
 rw [List.take_succ_eq_append_getElem h, List.map_append]
 rfl
theorem rows_small {t : List Ln} (h : ∀ x ∈ t, x.length ≤ 3000000) : smallL (t.map pmS) := fun q hq => by
 obtain ⟨x, hx, rfl⟩ := List.mem_map.1 hq
 exact pmS_small (h x hx)
theorem rd1 {r : UInt8} {n f : Nat} {h : Ln} : rdS r n [h] f = if numB h = true then .inr ((f : Int), 1, 4) else bdS r n h [] f := rfl
theorem rd2 {r : UInt8} {n f : Nat} {h h2 : Ln} {t : List Ln} : rdS r n (h :: h2 :: t) f = if numB h = true then bdS r n h2 t (f + 1) else bdS r n h (h2 :: t) f := rfl
theorem sub_rblock {r : UInt8} {b : Bool} {s : List Ev × List Dg} {l : List Ln} {f : Nat} (hl : l ≠ []) (hs : ∀ x ∈ l, x.length ≤ 3000000) (hn : l.length ≤ 1000000) (he : s.1.length ≤ 1000000) (hd : s.2.length ≤ 50) (hf : f ≤ 100000000) : q97 fuelH (stD r b s, l, (f : Int)) = some (stD r b (putS s (rdS r s.1.length l f))) := by
 have tN : ∀ n : Nat, toN (n : Int) = n := fun n => by simp [toN]
 have p1 : (stD r b s).1 = r := rfl
 have p2 : (stD r b s).2.1.2.2.2.2.2.2.1 = s.1 := rfl
 unfold q97
 refine jn_suff (fun K => ∀ (h : Ln) (t : List Ln) (g : Nat), (∀ x ∈ t, x.length ≤ 3000000) → t.length ≤ 1000000 → K (h :: t, (g : Int)) = some (stD r b (putS s (bdS r s.1.length h t g)))) (fun h t g h1 h2 => ?_) (fun K hK => ?_)
 ·have e0 : lget (h :: t) (toN (0 : Int)) ([] : Ln) = h := rfl
  have e1 : ldrop (toN (1 : Int)) (h :: t) = t := rfl
  dsimp only
  rw [grd_t (inb_t (by simp only [len, List.length_cons]; omega)), e0, (times_both h).1, bnd_some', p1, p2]
  unfold bdS
  by_cases c1 : (tmS h).2.2 = false
  ·rw [if_pos c1, c1, cnd_t (by rfl), sub_fail hd]
   rfl
  rw [if_neg c1, show (tmS h).2.2 = true by simpa using c1, cnd_f (by rfl), cnd_ile]
  by_cases c2 : 400 ≤ s.1.length
  ·rw [if_pos c2, if_pos (by simp only [len]; omega), sub_fail hd]
   rfl
  rw [if_neg c2, if_neg (by simp only [len]; omega), (fm_both r _).1, bnd_some']
  by_cases c3 : (fmS r (tmS h).1).2 ≠ 0
  ·rw [if_pos c3, cnd_t (ine_t c3), sub_fail hd]
   rfl
  rw [if_neg c3, cnd_f (ine_f (show (fmS r (tmS h).1).2 = 0 by simpa using c3)), (fm_both r _).1, bnd_some']
  by_cases c4 : (fmS r (tmS h).2.1).2 ≠ 0
  ·rw [if_pos c4, cnd_t (ine_t c4), sub_fail hd]
   rfl
  rw [if_neg c4, cnd_f (ine_f (show (fmS r (tmS h).2.1).2 = 0 by simpa using c4)), jn_e, grd_t (in2_t (by simp only [len, List.length_cons]; omega)), e1]
  have hw : w64 (iadd (len s.1) (1 : Int)) = ((s.1.length + 1 : Nat) : Int) := by unfold iadd len; rw [w64_id (by omega)]; omega
  rw [hw]
  refine loop_inv (n := t.length) (fun (a : List Row) (i : Nat) => ((i : Int), ((s.1.length + 1 : Nat) : Int), ((fmS r (tmS h).1).1, (fmS r (tmS h).2.1).1), ([] : List UInt8), (1 : UInt8), ([] : List UInt8), a)) (fun i a => a = (t.take i).map pmS) _ (fun self a i hi hI => ?_) (fun self a hI => ?_) fuelH 0 [] (Nat.zero_le _) (by have := fuelH_eq; omega) rfl
  ·have ha : a.length ≤ i := by rw [hI, List.length_map, List.length_take]; omega
   refine ⟨a ++ [pmS t[i]], ?_, by rw [hI, take_map hi]⟩
   dsimp only
   rw [cnd_t (ilt_t (by simp only [len]; omega)), grd_t (inb_t (by simp only [len]; omega)), lget_i hi, sub_pm (h1 _ (List.getElem_mem hi)), bnd_some', grd_t (room_t (by simp only [iadd, len, List.length_singleton]; omega)), w64_succ hi (by omega)]
   rfl
  ·rw [List.take_length] at hI
   subst hI
   dsimp only
   have hev : q40 fuelH (evB r s.1.length h t, []) = some (evChk (evB r s.1.length h t) []) := event_check_eq (rows_small h1) (Nat.zero_le _)
   unfold evB at hev ⊢
   rw [cnd_f (ilt_f (by simp only [len]; omega)), hev, bnd_some']
   by_cases c5 : evChk (evB r s.1.length h t) [] ≠ 0
   ·unfold evB at c5
    rw [if_pos c5, cnd_t (ine_t c5), sub_fail hd]
    rfl
   ·unfold evB at c5
    rw [if_neg c5, cnd_f (ine_f (by simpa using c5)), grd_t (room_t (by simp only [iadd, len, List.length_singleton]; omega))]
    rfl
 ·match l, hl, hs, hn with
  | [h], _, hs, _ =>
   have e0 : lget [h] (toN (0 : Int)) ([] : Ln) = h := rfl
   dsimp only
   rw [grd_t (by rfl), e0, sub_number, bnd_some', rd1]
   by_cases c : numB h = true
   ·rw [if_pos c, cnd_t c, cnd_t (by rfl), sub_fail hd]
    rfl
   ·rw [if_neg c, cnd_f (by simpa using c), hK h [] f (fun x hx => by cases hx) (Nat.zero_le _)]
  | h :: h2 :: t, _, hs, hn =>
   have e0 : lget (h :: h2 :: t) (toN (0 : Int)) ([] : Ln) = h := rfl
   have e1 : ldrop (toN (1 : Int)) (h :: h2 :: t) = h2 :: t := rfl
   simp only [List.length_cons] at hn
   dsimp only
   rw [grd_t (inb_t (by simp only [len, List.length_cons]; omega)), e0, sub_number, bnd_some', rd2]
   by_cases c : numB h = true
   ·have hw : w64 (iadd (f : Int) (1 : Int)) = ((f + 1 : Nat) : Int) := by unfold iadd; rw [w64_id (by omega)]; omega
    rw [if_pos c, cnd_t c, cnd_f (ieq_f (by simp only [len, List.length_cons]; omega)), grd_t (in2_t (by simp only [len, List.length_cons]; omega)), e1, hw, hK h2 t (f + 1) (fun x hx => hs x (by simp [hx])) (by omega)]
   ·rw [if_neg c, cnd_f (by simpa using c), hK h (h2 :: t) f (fun x hx => hs x (List.mem_cons_of_mem _ hx)) (by simp only [List.length_cons]; omega)]
end
end Go.Mo
end

section
/-
  Plain facts: the blocks of a text, both sides.
-/
namespace Go.Mo
open Go Go.W Go.Lib
set_option maxRecDepth 100000
noncomputable section
def blkS : Nat → List Ln → List Ln → List (List Ln × Nat)
 | i, acc, [] => if acc = [] then [] else [(acc, i - acc.length + 1)]
 | i, acc, s :: r => if trimR s ≠ [] then blkS (i + 1) (acc ++ [trimR s]) r else if acc = [] then blkS (i + 1) [] r else (acc, i - acc.length + 1) :: blkS (i + 1) [] r
def goS (r : UInt8) (s : List Ev × List Dg) (B : List Ln × Nat) : List Ev × List Dg := putS s (rdS r s.1.length B.1 B.2)
def blR {R : Type} (r : UInt8) (i : Nat) (s : Ln) (a : List Ln × List Ev × List Dg) : Option R ⊕ (List Ln × List Ev × List Dg) := .inr (if trimR s ≠ [] then (a.1 ++ [trimR s], a.2) else if a.1 = [] then ([], a.2) else ([], goS r a.2 (a.1, i - a.1.length + 1)))
theorem bl_it {R : Type} (r : UInt8) (K : List Ev × List Dg → Option R) : ∀ (L : List Ln) (i : Nat) (a : List Ln × List Ev × List Dg), itI (blR r) (fun a => K a.2) i (L ++ [[]]) a = K ((blkS i a.1 L).foldl (goS r) a.2)
 | [], i, a => by
  have ht : trimR [] = [] := rfl
  simp only [List.nil_append, itI, blR, blkS]
  rw [if_neg (by rw [ht]; simp)]
  by_cases h : a.1 = []
  ·rw [if_pos h, if_pos h]; rfl
  ·rw [if_neg h, if_neg h]; rfl
 | s :: L, i, a => by
  simp only [List.cons_append, itI, blR, blkS]
  by_cases h1 : trimR s ≠ []
  ·rw [if_pos h1, if_pos h1]
   exact bl_it r K L (i + 1) _
  rw [if_neg h1, if_neg h1]
  by_cases h : a.1 = []
  ·rw [if_pos h, if_pos h]
   exact bl_it r K L (i + 1) _
  ·rw [if_neg h, if_neg h]
   exact bl_it r K L (i + 1) _
theorem trim_len (s : Ln) : (trimR s).length ≤ s.length := by
 unfold trimR
 split
 ·rw [List.length_dropLast]; omega
 ·exact Nat.le_refl _
theorem put_len (s : List Ev × List Dg) (x : Ev ⊕ Dg) : (putS s x).1.length ≤ s.1.length + 1 ∧ (s.2.length ≤ 50 → (putS s x).2.length ≤ 50) := by
 cases x with
 | inl x => simp [putS]
 | inr g =>
  simp only [putS]
  refine ⟨by omega, fun h => ?_⟩
  unfold addD
  split
  ·simp only [List.length_append, List.length_singleton]; omega
  ·exact h
theorem line_le {x : List UInt8} : ∀ l ∈ linesL x, l.length ≤ x.length := by
 induction x with
 | nil => intro l h; simp only [linesL, List.mem_singleton] at h; subst h; simp
 | cons b s ih =>
  intro l h
  obtain ⟨h0, t0, e⟩ := lines_ne s
  simp only [linesL] at h
  by_cases hb : b = 10
  ·rw [if_pos hb] at h
   rcases List.mem_cons.1 h with rfl | h
   ·simp
   ·have := ih l h; simp only [List.length_cons]; omega
  ·rw [if_neg hb, e] at h
   simp only at h
   rw [e] at ih
   rcases List.mem_cons.1 h with rfl | h
   ·have := ih h0 List.mem_cons_self; simp only [List.length_cons]; omega
   ·have := ih l (List.mem_cons_of_mem _ h); simp only [List.length_cons]; omega
def BI (i : Nat) (a : List Ln × List Ev × List Dg) : Prop := a.1.length ≤ i ∧ (∀ l ∈ a.1, l.length ≤ 3000000) ∧ a.2.1.length ≤ i ∧ a.2.2.length ≤ 50
theorem sub_lines {R : Type} {r : UInt8} {b : Bool} {L : List Ln} (hL : L.length ≤ 500000) (hl : ∀ l ∈ L, l.length ≤ 3000000) (K : UInt8 × Doc × List Dg → Option R) :
  fixN (fun (v5 : (List Ln × Int × UInt8 × Doc × List Dg) → Option R) (v6 : List Ln × Int × UInt8 × Doc × List Dg) =>
   cnd (ilt v6.2.1 (len (lapp L ([([] : List UInt8)] : List (List UInt8)))))
    (grd (inb v6.2.1 (len (lapp L ([([] : List UInt8)] : List (List UInt8)))))
     (bnd (q85 fuelH (lget (lapp L ([([] : List UInt8)] : List (List UInt8))) (toN v6.2.1) [], ([13] : List UInt8))) fun v7 =>
     cnd (sne v7 ([] : List UInt8))
      (grd (room (iadd (len v6.1) (len ([v7] : List (List UInt8)))) 16)
       (v5 (lapp v6.1 ([v7] : List (List UInt8)), w64 (iadd v6.2.1 (1 : Int)), v6.2.2)))
      (cnd (ilt (0 : Int) (len v6.1))
       (bnd (q97 fuelH (v6.2.2, v6.1, w64 (iadd (w64 (isub v6.2.1 (len v6.1))) (1 : Int)))) fun v8 =>
       v5 (([] : List (List UInt8)), w64 (iadd v6.2.1 (1 : Int)), v8))
       (v5 (([] : List (List UInt8)), w64 (iadd v6.2.1 (1 : Int)), v6.2.2)))))
    (K v6.2.2)) fuelH (([] : List Ln), (0 : Int), stD r b ([], [])) = K (stD r b ((blkS 0 [] L).foldl (goS r) ([], []))) := by
 have hA : (L ++ [[]]).length = L.length + 1 := by simp
 have hm : ∀ l ∈ L ++ [[]], l.length ≤ 3000000 := fun l h => by
  rcases List.mem_append.1 h with h | h
  ·exact hl l h
  ·rw [List.mem_singleton.1 h]; simp
 have hap : lapp L ([([] : List UInt8)] : List (List UInt8)) = L ++ [[]] := rfl
 rw [hap]
 refine (lst_it (l := L ++ [[]]) (fun (a : List Ln × List Ev × List Dg) (i : Nat) => (a.1, (i : Int), stD r b a.2)) (blR r) (fun a => K (stD r b a.2)) BI (fun self a i hi hI => ?_) (fun self a hI => ?_) fuelH 0 ([], [], []) (Nat.zero_le _) (by have := fuelH_eq; omega) ⟨Nat.le_refl _, (fun l h => by cases h), Nat.le_refl _, Nat.zero_le _⟩).trans ?_
 ·obtain ⟨i1, i2, i3, i4⟩ := hI
  have hli := hm _ (List.getElem_mem hi)
  dsimp only
  rw [cnd_t (ilt_t (by simp only [len]; omega)), grd_t (inb_t (by simp only [len]; omega)), lget_i hi, sub_trim (by omega), bnd_some', w64_succ hi (by omega)]
  generalize (L ++ [[]])[i] = s at hli ⊢
  have ht := trim_len s
  unfold blR
  by_cases h1 : trimR s ≠ []
  ·rw [if_pos h1, cnd_t (by unfold sne; rw [bne_iff_ne]; exact h1), grd_t (room_t (by simp only [iadd, len, List.length_singleton]; omega))]
   refine ⟨rfl, ?_, fun l h => ?_, by show a.2.1.length ≤ i + 1; omega, i4⟩
   ·simp only [List.length_append, List.length_singleton]; omega
   ·rcases List.mem_append.1 h with h | h
    ·exact i2 l h
    ·rw [List.mem_singleton.1 h]; omega
  have h1' : trimR s = [] := by simpa using h1
  rw [if_neg h1, cnd_f (by rw [h1']; rfl)]
  by_cases h : a.1 = []
  ·rw [if_pos h, cnd_f (by rw [h]; rfl)]
   exact ⟨rfl, Nat.zero_le _, (fun l h => by cases h), by show a.2.1.length ≤ i + 1; omega, i4⟩
  ·have hp : 1 ≤ a.1.length := List.length_pos_iff.2 h
   have hw : w64 (iadd (w64 (isub (i : Int) (len a.1))) (1 : Int)) = ((i - a.1.length + 1 : Nat) : Int) := by
    unfold iadd isub len
    rw [w64_id (x := (i : Int) - (a.1.length : Int)) (by omega), w64_id (by omega)]
    omega
   have hpl := put_len a.2 (rdS r a.2.1.length a.1 (i - a.1.length + 1))
   rw [if_neg h, cnd_t (ilt_t (by simp only [len]; omega)), hw, sub_rblock h i2 (by omega) (by omega) i4 (by omega), bnd_some']
   exact ⟨rfl, Nat.zero_le _, (fun l h => by cases h), by show (goS r a.2 _).1.length ≤ i + 1; unfold goS; dsimp only; omega, hpl.2 i4⟩
 ·dsimp only
  rw [cnd_f (ilt_f (by simp only [len]; omega))]
 ·rw [List.drop_zero]
  exact bl_it r (fun s => K (stD r b s)) L 0 ([], [], [])
theorem sub_linesJ {R : Type} {r : UInt8} {b : Bool} {L : List Ln} (hL : L.length ≤ 500000) (hl : ∀ l ∈ L, l.length ≤ 3000000) (K : UInt8 × Doc × List Dg → Option R) :
  jn K (fun v4 => fixN (fun (v5 : (List Ln × Int × UInt8 × Doc × List Dg) → Option R) (v6 : List Ln × Int × UInt8 × Doc × List Dg) =>
   cnd (ilt v6.2.1 (len (lapp L ([([] : List UInt8)] : List (List UInt8)))))
    (grd (inb v6.2.1 (len (lapp L ([([] : List UInt8)] : List (List UInt8)))))
     (bnd (q85 fuelH (lget (lapp L ([([] : List UInt8)] : List (List UInt8))) (toN v6.2.1) [], ([13] : List UInt8))) fun v7 =>
     cnd (sne v7 ([] : List UInt8))
      (grd (room (iadd (len v6.1) (len ([v7] : List (List UInt8)))) 16)
       (v5 (lapp v6.1 ([v7] : List (List UInt8)), w64 (iadd v6.2.1 (1 : Int)), v6.2.2)))
      (cnd (ilt (0 : Int) (len v6.1))
       (bnd (q97 fuelH (v6.2.2, v6.1, w64 (iadd (w64 (isub v6.2.1 (len v6.1))) (1 : Int)))) fun v8 =>
       v5 (([] : List (List UInt8)), w64 (iadd v6.2.1 (1 : Int)), v8))
       (v5 (([] : List (List UInt8)), w64 (iadd v6.2.1 (1 : Int)), v6.2.2)))))
    (v4 v6.2.2)) fuelH (([] : List Ln), (0 : Int), (r, (([] : List UInt8), ([] : List UInt8), r, b, (0 : Int), ([] : List Reg), ([] : List Ev), ([] : List Cmt)), ([] : List Dg)))) = K (stD r b ((blkS 0 [] L).foldl (goS r) ([], []))) := by rw [jn_e]; exact sub_lines hL hl K
end
end Go.Mo
end

section
/-
  Plain facts: a text is decoded, both sides; SubripDecodes returns true.
-/
namespace Go.Mo
open Go Go.W Go.Lib
set_option maxRecDepth 100000
noncomputable section
def goodE (x : Ev) : Prop := evChk x [] = 0
theorem good_tiny {x : Ev} (h : goodE x) : tinyE x := by
 obtain ⟨_, _, _, _, h4, h5, _⟩ := ev_ok h
 exact ⟨by omega, fun r hr => by have := (rowChk_ok (rowE_zero (h5 r hr)).1).1; omega⟩
theorem bd_inl {r : UInt8} {n f : Nat} {h : Ln} {t : List Ln} {x : Ev} (hb : bdS r n h t f = .inl x) : x = evB r n h t ∧ evChk (evB r n h t) [] = 0 ∧ (tmS h).2.2 = true ∧ n < 400 ∧ (fmS r (tmS h).1).2 = 0 ∧ (fmS r (tmS h).2.1).2 = 0 := by
 unfold bdS at hb
 split at hb
 ·cases hb
 split at hb
 ·cases hb
 split at hb
 ·cases hb
 split at hb
 ·cases hb
 split at hb
 ·cases hb
 rename_i h1 h2 h3 h4 h5
 injection hb with hb
 exact ⟨hb.symm, by simpa using h5, by simpa using h1, by omega, by simpa using h3, by simpa using h4⟩
theorem rd_inl {r : UInt8} {n f : Nat} {l : List Ln} {x : Ev} (hb : rdS r n l f = .inl x) : ∃ h t g, bdS r n h t g = .inl x ∧ (h :: t = l ∨ ∃ k, k :: h :: t = l) := by
 match l, hb with
 | [h], hb =>
  rw [rd1] at hb
  split at hb
  ·cases hb
  ·exact ⟨h, [], f, hb, .inl rfl⟩
 | h :: h2 :: t, hb =>
  rw [rd2] at hb
  split at hb
  ·exact ⟨h2, t, f + 1, hb, .inr ⟨h, rfl⟩⟩
  ·exact ⟨h, h2 :: t, f, hb, .inl rfl⟩
def EvsI (l : List Ev) : Prop := ∀ j (h : j < l.length), goodE l[j] ∧ l[j].1 = ((j + 1 : Nat) : Int) ∧ l[j].2.2 = ([], 1, [], l[j].2.2.2.2.2)
theorem evsI_snoc {l : List Ev} {x : Ev} (hl : EvsI l) (h1 : goodE x) (h2 : x.1 = ((l.length + 1 : Nat) : Int)) (h3 : x.2.2 = ([], 1, [], x.2.2.2.2.2)) : EvsI (l ++ [x]) := fun j hj => by
 rw [List.length_append, List.length_singleton] at hj
 by_cases h : j < l.length
 ·rw [List.getElem_append_left h]; exact hl j h
 ·obtain rfl : j = l.length := by omega
  rw [List.getElem_append_right (Nat.le_refl _)]
  simp only [Nat.sub_self, List.getElem_singleton]
  exact ⟨h1, h2, h3⟩
theorem go_evs {r : UInt8} {s : List Ev × List Dg} (hs : EvsI s.1) (B : List Ln × Nat) : EvsI (goS r s B).1 := by
 unfold goS
 cases h : rdS r s.1.length B.1 B.2 with
 | inr g => exact hs
 | inl x =>
  obtain ⟨k, t, g, h1, _⟩ := rd_inl h
  obtain ⟨rfl, h2, _⟩ := bd_inl h1
  exact evsI_snoc hs h2 rfl rfl
theorem fold_evs {r : UInt8} : ∀ (bs : List (List Ln × Nat)) (s : List Ev × List Dg), EvsI s.1 → EvsI (bs.foldl (goS r) s).1
 | [], _, h => h
 | B :: bs, s, h => fold_evs bs _ (go_evs h B)
def rdQ (r : UInt8) (x : List UInt8) : List Ev × List Dg := (blkS 0 [] (linesL x)).foldl (goS r) ([], [])
def decQ (x : List UInt8) (r : UInt8) (b : Bool) : Doc × List Dg := if rateBad r b then (noQ, [(1, 1, 13)]) else if 262144 < x.length then (noQ, [(1, 1, 9)]) else (([], [], r, b, len (rdQ r x).1, [], sortE (rdQ r x).1, []), (rdQ r x).2)
theorem rd_evs (r : UInt8) (x : List UInt8) : EvsI (rdQ r x).1 := fold_evs _ _ fun j h => by cases h
theorem rd_tiny (r : UInt8) (x : List UInt8) : ∀ e ∈ (rdQ r x).1, tinyE e := fun e he => by
 obtain ⟨j, hj, rfl⟩ := List.mem_iff_getElem.1 he
 exact good_tiny (rd_evs r x j hj).1
theorem sub_decode {x : List UInt8} {r : UInt8} {b : Bool} (hx : x.length ≤ 400000) (hE : (rdQ r x).1.length ≤ 19) : q110 fuelH (x, r, b) = some (decQ x r b) := by
 have hc := count_le x
 have hN := lines_count x
 obtain ⟨t1, t2⟩ := tv_eq r
 unfold q110
 refine jn_suff (fun K => K () = some (([], [], r, b, len (rdQ r x).1, [], sortE (rdQ r x).1, []), (rdQ r x).2)) ?_ (fun K hK => ?_)
 ·dsimp only
  rw [sub_split (by omega), bnd_some', grd_t (room_t (by simp only [iadd, len, List.length_singleton]; omega))]
  refine (sub_linesJ (r := r) (b := b) (L := linesL x) (by omega) (fun l hl => by have := line_le l hl; omega) _).trans ?_
  have e1 : (stD r b ((blkS 0 [] (linesL x)).foldl (goS r) ([], []))).2.1.2.2.2.2.2.2.1 = (rdQ r x).1 := rfl
  rw [e1, prog_sort hE (rd_tiny r x), bnd_some']
  have : len (sortE (rdQ r x).1) = len (rdQ r x).1 := by simp only [len]; rw [sort_len]
  rw [this]
  rfl
 ·dsimp only
  rw [t1, bnd_some']
  unfold decQ
  by_cases c1 : tvB r = false
  ·rw [cnd_t (by rw [c1]; rfl), if_pos (show rateBad r b from .inl c1)]
   rfl
  rw [cnd_f (by rw [← Bool.not_eq_true, bnot_t]; exact c1)]
  have lim : (cnd (ilt (262144 : Int) (len x)) (some (noQ, [((1 : Int), (1 : Int), (9 : Int))])) (K ())) = some (if 262144 < x.length then (noQ, [(1, 1, 9)]) else (([], [], r, b, len (rdQ r x).1, [], sortE (rdQ r x).1, []), (rdQ r x).2)) := by
   rw [cnd_ilt]
   by_cases h : 262144 < x.length
   ·rw [if_pos (by simp only [len]; omega), if_pos h]
   ·rw [if_neg (by simp only [len]; omega), if_neg h, hK]
  cases b with
  | false =>
   rw [cnd_f rfl, if_neg]
   ·exact lim
   ·rintro (h | h)
    ·exact c1 h
    ·cases h.1
  | true =>
   rw [cnd_t rfl, t2, bnd_some']
   by_cases c2 : cdB r = false
   ·rw [cnd_t (by rw [c2]; rfl), if_pos (show rateBad r true from .inr ⟨rfl, c2⟩)]
    rfl
   ·rw [cnd_f (by rw [← Bool.not_eq_true, bnot_t]; exact c2), if_neg]
    ·exact lim
    ·rintro (h | h)
     ·exact c1 h
     ·exact c2 h.2
end
end Go.Mo
end

section
/-
  Plain facts: a text is decoded by the reference; SubripDecodes returns true.
-/
namespace Go.Mo
open Go Go.W Go.Lib
set_option maxRecDepth 100000
noncomputable section
end
end Go.Mo
end

section
/-
  Plain facts: whatever the text is, the document is valid; SubripValid returns true.
-/
namespace Go.Mo
open Go Go.W Go.Lib
set_option maxRecDepth 100000
noncomputable section
end
end Go.Mo
end

section
/-
  Plain facts: the lines of a file that is written, and what a block of it is read as.
-/
namespace Go.Mo
open Go Go.W Go.Lib
set_option maxRecDepth 100000
noncomputable section
theorem quo_near {n d : Int} (hd : 0 < d) : -d ≤ 2 * (n - quo n d * d) ∧ 2 * (n - quo n d * d) < d := by
 have h1 := Int.emod_add_mul_ediv n d
 have h2 := Int.emod_nonneg n (show d ≠ 0 by omega)
 have h3 := Int.emod_lt_of_pos n hd
 rw [Int.mul_comm] at h1
 unfold quo
 split
 ·omega
 ·rw [Int.add_mul]; omega
theorem quo_of {n d f : Int} (hd : 0 < d) (h1 : -d < 2 * (n - f * d)) (h2 : 2 * (n - f * d) < d) : quo n d = f := by
 by_cases h : 0 ≤ n - f * d
 ·have hq : n / d = f ∧ n % d = n - f * d := (Int.ediv_emod_unique hd).2 ⟨by rw [Int.mul_comm d f]; omega, h, by omega⟩
  unfold quo
  rw [hq.1, hq.2, if_pos (by omega)]
 ·have hm : (f - 1) * d = f * d - d := by rw [Int.sub_mul, Int.one_mul]
  have hq : n / d = f - 1 ∧ n % d = n - (f - 1) * d := (Int.ediv_emod_unique hd).2 ⟨by rw [Int.mul_comm d (f - 1)]; omega, by omega, by omega⟩
  unfold quo
  rw [hq.1, hq.2, if_neg (by omega)]
  omega
theorem fm_mil {r : UInt8} {f : Int} (h : (milS r f).2 = 0) : fmS r (milS r f).1 = (f, 0) ∧ 0 ≤ (milS r f).1 ∧ (milS r f).1 ≤ 86486400 := by
 have ht : (timS r f).2 = 0 := by
  unfold milS at h
  split at h
  ·exact h
  ·rename_i k; simpa using k
 have hm : (milS r f).1 = quo (timS r f).1 120 := by unfold milS; rw [if_neg (by rw [ht]; simp)]
 have hb := tim_bd r f ht
 have hv : tvB r = true ∧ (timS r f).1 = f * tkS r := by
  unfold timS at ht ⊢
  split at ht
  ·cases ht
  split at ht
  ·cases ht
  split at ht
  ·cases ht
  rename_i k1 k2 k3
  rw [if_neg k1, if_neg k2, if_neg k3]
  exact ⟨by simpa using k1, rfl⟩
 obtain ⟨_, k2, k3⟩ := (tk_facts r).2 hv.1
 have hn := quo_near (n := (timS r f).1) (d := 120) (by omega)
 rw [hm]
 generalize hq : quo (timS r f).1 120 = q at hn ⊢
 rw [hv.2] at hb hn
 have hback : quo (q * 120) (tkS r) = f := quo_of (by omega) (by omega) (by omega)
 refine ⟨?_, by omega, by omega⟩
 unfold fmS
 rw [if_neg (by rw [hv.1]; simp), if_neg (by omega), if_neg (by omega), hback, if_neg (by omega)]
def cln (l : Ln) : Prop := ∀ b ∈ l, b ≠ 10 ∧ b ≠ 13
theorem cln_app {a b : Ln} (h1 : cln a) (h2 : cln b) : cln (a ++ b) := fun c hc => (List.mem_append.1 hc).elim (h1 c) (h2 c)
theorem cln_10 {l : Ln} (h : cln l) : (10 : UInt8) ∉ l := fun k => (h _ k).1 rfl
theorem cln_trim {l : Ln} (h : cln l) : trimR l = l := by
 unfold trimR
 rw [if_neg]
 intro k
 exact (h _ (List.mem_of_getLast? k)).2 rfl
theorem enc_cln : ((loRunes ++ hiRunes).all fun r => (enc r).all fun b => b != 10 && b != 13) = true := by kernel_rfl
theorem vld_cln {l : Ln} (h : vld l = true) : cln l := fun b hb => by
 rw [← ofR_rns h] at hb
 obtain ⟨r, hr, hb⟩ := List.mem_flatMap.1 hb
 have := List.all_eq_true.1 (all_rep (P := fun r => (enc r).all fun b => b != 10 && b != 13) enc_cln (List.all_eq_true.1 (rns_ok h) r hr)) b hb
 simpa using this
theorem num_cln : ((List.range 20).all fun n => (itoa10 (n : Int)).all (fun b => b != 10 && b != 13) && (numB (itoa10 (n : Int)) && decide (itoa10 (n : Int) ≠ []))) = true := by kernel_rfl
theorem num_line {n : Nat} (h : n < 20) : cln (itoa10 (n : Int)) ∧ numB (itoa10 (n : Int)) = true ∧ itoa10 (n : Int) ≠ [] := by
 have := List.all_eq_true.1 num_cln n (List.mem_range.2 h)
 rw [Bool.and_eq_true, Bool.and_eq_true, List.all_eq_true] at this
 exact ⟨fun b hb => by simpa using this.1 b hb, this.2.1, of_decide_eq_true this.2.2⟩
theorem dg_cln {v : Int} (h : 0 ≤ v) : dg v ≠ 10 ∧ dg v ≠ 13 := by
 have := dg_is h
 unfold isD at this
 refine ⟨fun e => ?_, fun e => ?_⟩ <;> (rw [e] at this; exact absurd this (by decide))
theorem dv_pos {v : Int} (h : 0 ≤ v ∧ v ≤ 1000000) : 0 ≤ dv v := by rw [dv_eq h]; omega
theorem clk_cln {v : Int} (h0 : 0 ≤ v) (h1 : v ≤ 86486400) : (clkS v).1 = clkB (v / 3600000) (v / 60000 % 60) (v / 1000 % 60) (v % 1000) ∧ cln (clkS v).1 ∧ (clkS v).1.length = 12 ∧ pcB (clkS v).1 = (v, 0) := by
 have e : (clkS v).1 = clkB (v / 3600000) (v / 60000 % 60) (v / 1000 % 60) (v % 1000) := by unfold clkS; rw [if_neg (by omega), if_neg (by omega)]
 have a1 : 0 ≤ v / 3600000 ∧ v / 3600000 ≤ 1000000 := by omega
 have a2 : 0 ≤ v / 60000 % 60 ∧ v / 60000 % 60 ≤ 1000000 := by omega
 have a3 : 0 ≤ v / 1000 % 60 ∧ v / 1000 % 60 ≤ 1000000 := by omega
 have a4 : 0 ≤ v % 1000 ∧ v % 1000 ≤ 999 := by omega
 have a5 : dv (v % 1000) = v % 1000 / 10 := dv_eq (by omega)
 refine ⟨e, ?_, by rw [e]; rfl, by rw [e]; exact clk_back h0 (by omega)⟩
 rw [e]
 unfold clkB
 have c58 : (58 : UInt8) ≠ 10 ∧ (58 : UInt8) ≠ 13 := by decide
 have c44 : (44 : UInt8) ≠ 10 ∧ (44 : UInt8) ≠ 13 := by decide
 have k1 := dg_cln (dv_pos a1)
 have k2 := dg_cln a1.1
 have k3 := dg_cln (dv_pos a2)
 have k4 := dg_cln a2.1
 have k5 := dg_cln (dv_pos a3)
 have k6 := dg_cln a3.1
 have k7 := dg_cln (v := dv (dv (v % 1000))) (dv_pos (by rw [a5]; omega))
 have k8 := dg_cln (v := dv (v % 1000)) (by rw [a5]; omega)
 have k9 := dg_cln a4.1
 intro b hb
 simp only [List.mem_cons, List.not_mem_nil, or_false] at hb
 rcases hb with rfl | rfl | rfl | rfl | rfl | rfl | rfl | rfl | rfl | rfl | rfl | rfl <;> assumption
def tlQ (r : UInt8) (x : Ev) : Ln := (clkS (milS r x.2.1.1).1).1 ++ arrow ++ (clkS (milS r x.2.1.2).1).1
theorem tm_line {a b : Ln} {u v : Int} (ha : a.length = 12) (hb : b.length = 12) (h1 : pcB a = (u, 0)) (h2 : pcB b = (v, 0)) : tmS (a ++ arrow ++ b) = (u, v, true) := by
 have hl : (a ++ arrow ++ b).length = 29 := by unfold arrow; simp only [List.length_append, List.length_cons, List.length_nil]; omega
 have t1 : (a ++ arrow ++ b).take 12 = a := by rw [List.append_assoc]; exact List.take_left' ha
 have t2 : (a ++ arrow ++ b).drop 17 = b := List.drop_left' (by unfold arrow; simp only [List.length_append, List.length_cons, List.length_nil]; omega)
 have t3 : ((a ++ arrow ++ b).take 17).drop 12 = arrow := by
  rw [List.take_left' (by unfold arrow; simp only [List.length_append, List.length_cons, List.length_nil]; omega)]
  exact List.drop_left' ha
 unfold tmS
 rw [if_neg (by omega), t3, if_neg (by simp), t1, t2, h1, h2]
 rfl
theorem wrX_cln {x : Run} (h : vld x.1 = true) : cln (wrX x) := by
 have h1 := vld_cln h
 have g : ∀ t ∈ [ti, tI, tu, tU], cln t := by
  unfold cln ti tI tu tU
  decide
 have h2 : cln (wrU x) := by
  unfold wrU
  split
  ·exact cln_app (cln_app (g tu (by simp)) h1) (g tU (by simp))
  ·exact h1
 unfold wrX
 split
 ·exact cln_app (cln_app (g ti (by simp)) h2) (g tI (by simp))
 ·exact h2
theorem wrU_ge (x : Run) : x.1.length ≤ (wrU x).length := by unfold wrU; split <;> (try simp only [List.length_append]) <;> omega
theorem wrX_ge (x : Run) : x.1.length ≤ (wrX x).length := by
 have := wrU_ge x
 unfold wrX
 split
 ·simp only [List.length_append]; omega
 ·exact this
theorem wr_ge : ∀ l : Row, tot l ≤ (l.flatMap wrX).length
 | [] => Nat.le_refl _
 | x :: l => by
  have h1 := wr_ge l
  have h2 := wrX_ge x
  simp only [tot, List.flatMap_cons, List.length_append]
  omega
theorem mk_line {q : Row} (h : rowE q = 0) (h0 : (mkS q).2 = 0) : cln (mkS q).1 ∧ (mkS q).1 ≠ [] ∧ pmS (mkS q).1 = carr q := by
 obtain ⟨h1, h2, _⟩ := rowE_zero h
 have hx : hasX (plainT q) = false := by
  unfold mkS at h0
  rw [if_neg (by rw [h1]; simp)] at h0
  split at h0
  ·cases h0
  ·rename_i k; simpa using k
 have e : (mkS q).1 = (carr q).flatMap wrX := by unfold mkS; rw [if_neg (by rw [h1]; simp), if_neg (by rw [hx]; simp)]
 rw [e]
 refine ⟨fun b hb => ?_, fun k => ?_, carr_back h1 hx⟩
 ·obtain ⟨x, hx, hb⟩ := List.mem_flatMap.1 hb
  exact wrX_cln ((chkL_ok _ _ (carr_good h1).1.1) x hx).1 b hb
 ·have k1 := wr_ge (carr q)
  have k2 := (carr_len q).2
  have k3 := plainT_len q
  rw [k] at k1
  simp only [List.length_nil] at k1
  have : plainT q = [] := List.eq_nil_of_length_eq_zero (by omega)
  rw [this] at h2
  cases h2
def joinL (p : List Ln) : List UInt8 := p.flatMap fun l => l ++ [10]
theorem joinL_app (p q : List Ln) : joinL (p ++ q) = joinL p ++ joinL q := by unfold joinL; rw [List.flatMap_append]
theorem joinL_cons (l : Ln) (q : List Ln) : joinL (l :: q) = l ++ 10 :: joinL q := by unfold joinL; simp
theorem lines_join : ∀ (p : List Ln) (q : List UInt8), (∀ l ∈ p, (10 : UInt8) ∉ l) → linesL (joinL p ++ q) = p ++ linesL q
 | [], _, _ => rfl
 | l :: p, q, h => by
  rw [joinL_cons, List.append_assoc, List.cons_append, lines_cut (h l List.mem_cons_self), lines_join p q fun m hm => h m (List.mem_cons_of_mem _ hm)]
  rfl
def mkL (x : Ev) : List Ln := x.2.2.2.2.2.map fun q => (mkS q).1
def bodyL (r : UInt8) (n : Nat) (x : Ev) : List Ln := itoa10 (n : Int) :: tlQ r x :: mkL x
def fileL (r : UInt8) : Nat → List Ev → List Ln
 | _, [] => []
 | i, x :: l => bodyL r (i + 1) x ++ [] :: fileL r (i + 1) l
theorem rowsQ_all : ∀ {l : List Row} {t : List UInt8}, rowsQ l = .inr t → t = joinL (l.map fun q => (mkS q).1) ∧ ∀ q ∈ l, (mkS q).2 = 0
 | [], t, h => by
  simp only [rowsQ, Sum.inr.injEq] at h
  subst h
  exact ⟨rfl, fun q hq => by cases hq⟩
 | r :: l, t, h => by
  simp only [rowsQ] at h
  split at h
  ·cases h
  ·rename_i k
   split at h
   ·cases h
   ·rename_i u hu
    injection h with h
    subst h
    obtain ⟨h1, h2⟩ := rowsQ_all hu
    refine ⟨by rw [List.map_cons, joinL_cons, ← h1], fun q hq => ?_⟩
    rcases List.mem_cons.1 hq with rfl | hq
    ·simpa using k
    ·exact h2 q hq
structure WrOk (r : UInt8) (x : Ev) : Prop where
 m1 : (milS r x.2.1.1).2 = 0
 m2 : (milS r x.2.1.2).2 = 0
 rows : ∀ q ∈ x.2.2.2.2.2, (mkS q).2 = 0
theorem blk_lines {r : UInt8} {n : Nat} {x : Ev} {t : List UInt8} (h : blkQ r n x = .inr t) : t = joinL (bodyL r n x ++ [[]]) ∧ WrOk r x := by
 unfold blkQ at h
 split at h
 ·cases h
 split at h
 ·cases h
 split at h
 ·cases h
 rename_i k1 k2 _ u hu
 injection h with h
 obtain ⟨h1, h2⟩ := rowsQ_all hu
 refine ⟨?_, by simpa using k1, by simpa using k2, h2⟩
 rw [← h, h1]
 unfold bodyL hdQ tlQ mkL
 rw [joinL_app, joinL_cons, joinL_cons]
 simp [joinL]
theorem file_lines {r : UInt8} : ∀ {l : List Ev} {i : Nat} {s : List UInt8}, filQ r i l = .inr s → s = joinL (fileL r i l) ∧ ∀ x ∈ l, WrOk r x
 | [], _, s, h => by
  simp only [filQ, Sum.inr.injEq] at h
  subst h
  exact ⟨rfl, fun x hx => by cases hx⟩
 | x :: l, i, s, h => by
  simp only [filQ] at h
  split at h
  ·cases h
  ·rename_i t ht
   split at h
   ·cases h
   ·rename_i u hu
    injection h with h
    subst h
    obtain ⟨h1, h2⟩ := blk_lines ht
    obtain ⟨h3, h4⟩ := file_lines hu
    refine ⟨?_, fun y hy => ?_⟩
    ·rw [h1, h3, ← joinL_app]
     simp [fileL]
    ·rcases List.mem_cons.1 hy with rfl | hy
     ·exact h2
     ·exact h4 y hy
end
end Go.Mo
end
