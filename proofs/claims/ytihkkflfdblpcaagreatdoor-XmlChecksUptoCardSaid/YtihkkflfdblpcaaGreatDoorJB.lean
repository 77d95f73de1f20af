/-
  Texts put together, in build order: XB XC XD XE XF XG XH XI XJ XK XL XM XN XP XQ XS XU XV.
-/
import Derived.Test.YtihkkflfdblpcaaGreatDoorJA
import Derived.Test.YtihkkflfdblpcaaGreatDoorZC
import Derived.KernelRfl
import Derived.Lib.ValidLaws
import Derived.Lib.TrimUEq
import Derived.Lib.MapLaws
import Derived.Lib.IndexMore
set_option linter.all false

section
/-
  Plain facts of earlier chapters, put together by a program.
-/
set_option linter.all false
section
/-
  Plain facts on the words of models; what is made of bytes.
-/
namespace Go.Mo
open Go Go.W

theorem grd_t {α : Type} {b : Bool} {k : Option α} (h : b = true) : grd b k = k := by subst h; rfl
theorem cnd_t {α : Type} {b : Bool} {x y : Option α} (h : b = true) : cnd b x y = x := by subst h; rfl
theorem cnd_f {α : Type} {b : Bool} {x y : Option α} (h : b = false) : cnd b x y = y := by subst h; rfl
theorem bnd_s {α β : Type} {x : Option α} {a : α} {k : α → Option β} (h : x = some a) : bnd x k = k a := by subst h; rfl
theorem jn_e {F α : Type} {k : F} {t : F → Option α} : jn k t = t k := rfl
theorem fixN_s {V R : Type} {F : (V → Option R) → V → Option R} {n : Nat} {v : V} : fixN F (n + 1) v = F (fixN F n) v := rfl
theorem w64_id {x : Int} (h : -9223372036854775808 ≤ x ∧ x ≤ 9223372036854775807) : w64 x = x := by
  show IntKind.wrap .i64 x = x
  unfold IntKind.wrap
  simp only [IntKind.bits, IntKind.signed, Bool.true_and, decide_eq_true_eq, show (2 : Int) ^ 64 = 18446744073709551616 from rfl, show (2 : Int) ^ (64 - 1) = 9223372036854775808 from rfl]
  split <;> omega
theorem ilt_t {a b : Int} (h : a < b) : ilt a b = true := decide_eq_true h
theorem ilt_f {a b : Int} (h : ¬ a < b) : ilt a b = false := decide_eq_false h
theorem ile_t {a b : Int} (h : a ≤ b) : ile a b = true := decide_eq_true h
theorem ile_f {a b : Int} (h : ¬ a ≤ b) : ile a b = false := decide_eq_false h
theorem ieq_t {a b : Int} (h : a = b) : ieq a b = true := by subst h; simp [ieq]
theorem ieq_f {a b : Int} (h : a ≠ b) : ieq a b = false := by simp [ieq, h]
theorem ine_t {a b : Int} (h : a ≠ b) : ine a b = true := by simp [ine, h]
theorem ine_f {a b : Int} (h : a = b) : ine a b = false := by simp [ine, h]
theorem inb_t {i n : Int} (h : 0 ≤ i ∧ i < n) : inb i n = true := decide_eq_true h
theorem in2_t {i n : Int} (h : 0 ≤ i ∧ i ≤ n) : in2 i n = true := decide_eq_true h
theorem room_t {n : Int} {b : Nat} (h : n * b ≤ 140737488355328) : room n b = true := decide_eq_true h
theorem n8_inj {a b : UInt8} (h : n8 a = n8 b) : a = b := by
  unfold n8 at h
  apply UInt8.toNat_inj.1
  omega
end Go.Mo
end

section
/-
  Plain facts: rates, labels, the repertoire of characters.
-/
namespace Go.Mo
open Go Go.W
set_option maxRecDepth 100000

theorem all_u8 {P : UInt8 → Bool} (h : ((List.range 256).all fun n => P (UInt8.ofNat n)) = true) (x : UInt8) : P x = true := by
  have h1 : x.toNat < 256 := x.toNat_lt
  have := List.all_eq_true.1 h x.toNat (List.mem_range.2 h1)
  simpa using this
end Go.Mo
end

section
/-
  Plain facts: the repertoire of characters.
-/
namespace Go.Mo
open Go Go.W
set_option maxRecDepth 100000
/-- some number: the kernel does not know which -/
noncomputable def fuelM : Nat := Classical.choose (⟨7995000, rfl⟩ : ∃ n : Nat, n = 7995000)
noncomputable def fuelH : Nat := fuelM + 5000
theorem fuelH_eq : fuelH = 8000000 := by
  have h : fuelM = 7995000 := Classical.choose_spec (⟨7995000, rfl⟩ : ∃ n : Nat, n = 7995000)
  unfold fuelH
  rw [h]
/-- the characters behind ASCII -/
def hiRunes : List Int := [161, 162, 163, 164, 165, 166, 167, 169, 171, 174, 176, 183, 187, 189, 191, 192, 193, 194, 195, 196, 197, 198, 199, 200, 201, 202, 203, 204, 205, 206, 207, 209, 210, 211, 212, 213, 214, 216, 217, 218, 219, 220, 223, 224, 225, 226, 227, 228, 229, 230, 231, 232, 233, 234, 235, 236, 237, 238, 239, 241, 242, 243, 244, 245, 246, 248, 249, 250, 251, 252, 338, 339, 8212, 8216, 8217, 8220, 8221, 8226, 8230, 8482, 9834]
def loRunes : List Int := (List.range 95).map fun n => ((n + 32 : Nat) : Int)
def chain : List Int → Int → Int → Option Int
  | [], _, _ => some (-1)
  | c :: l, i, r => cnd (ieq c r) (some i) (chain l (iadd i 1) r)
def rep : List UInt8 := [32, 33, 34, 35, 36, 37, 38, 39, 40, 41, 42, 43, 44, 45, 46, 47, 48, 49, 50, 51, 52, 53, 54, 55, 56, 57, 58, 59, 60, 61, 62, 63, 64, 65, 66, 67, 68, 69, 70, 71, 72, 73, 74, 75, 76, 77, 78, 79, 80, 81, 82, 83, 84, 85, 86, 87, 88, 89, 90, 91, 92, 93, 94, 95, 96, 97, 98, 99, 100, 101, 102, 103, 104, 105, 106, 107, 108, 109, 110, 111, 112, 113, 114, 115, 116, 117, 118, 119, 120, 121, 122, 123, 124, 125, 126, 194, 161, 194, 162, 194, 163, 194, 164, 194, 165, 194, 166, 194, 167, 194, 169, 194, 171, 194, 174, 194, 176, 194, 183, 194, 187, 194, 189, 194, 191, 195, 128, 195, 129, 195, 130, 195, 131, 195, 132, 195, 133, 195, 134, 195, 135, 195, 136, 195, 137, 195, 138, 195, 139, 195, 140, 195, 141, 195, 142, 195, 143, 195, 145, 195, 146, 195, 147, 195, 148, 195, 149, 195, 150, 195, 152, 195, 153, 195, 154, 195, 155, 195, 156, 195, 159, 195, 160, 195, 161, 195, 162, 195, 163, 195, 164, 195, 165, 195, 166, 195, 167, 195, 168, 195, 169, 195, 170, 195, 171, 195, 172, 195, 173, 195, 174, 195, 175, 195, 177, 195, 178, 195, 179, 195, 180, 195, 181, 195, 182, 195, 184, 195, 185, 195, 186, 195, 187, 195, 188, 197, 146, 197, 147, 226, 128, 148, 226, 128, 152, 226, 128, 153, 226, 128, 156, 226, 128, 157, 226, 128, 162, 226, 128, 166, 226, 132, 162, 226, 153, 170]
theorem place_eqN (N : Nat) (r : Int) : charset_place (N + 300) (rep, r) = chain (loRunes ++ hiRunes) 0 r := by kernel_rfl
theorem place_eq (r : Int) : charset_place fuelH (rep, r) = chain (loRunes ++ hiRunes) 0 r := place_eqN (fuelM + 4700) r
theorem r08_indexN (N : Nat) (r : Int) : r08_Index N r = cnd (ile 32 r) (cnd (ile r 126) (some (w64 (wr .i32 (isub r 32)))) (charset_place N (rep, r))) (charset_place N (rep, r)) := by kernel_rfl
theorem r08_index (r : Int) : r08_Index fuelH r = cnd (ile 32 r) (cnd (ile r 126) (some (w64 (wr .i32 (isub r 32)))) (charset_place fuelH (rep, r))) (charset_place fuelH (rep, r)) := r08_indexN fuelH r
theorem ch_indexN (N : Nat) (r : Int) : charset_Index N r = cnd (ile 32 r) (cnd (ile r 126) (some (w64 (wr .i32 (isub r 32)))) (bnd (charset_place N (rep, r)) fun v => some v)) (bnd (charset_place N (rep, r)) fun v => some v) := by kernel_rfl
theorem ch_index (r : Int) : charset_Index fuelH r = cnd (ile 32 r) (cnd (ile r 126) (some (w64 (wr .i32 (isub r 32)))) (bnd (charset_place fuelH (rep, r)) fun v => some v)) (bnd (charset_place fuelH (rep, r)) fun v => some v) := ch_indexN fuelH r
theorem chain_ok : ∀ (l : List Int) (i r : Int), 0 ≤ i → ∃ k, chain l i r = some k ∧ (k < 0 ↔ l.contains r = false)
  | [], i, r, _ => ⟨-1, rfl, by simp⟩
  | c :: l, i, r, h => by
    by_cases hc : c = r
    · exact ⟨i, by simp only [chain]; rw [cnd_t (ieq_t hc)], by subst hc; simp; omega⟩
    · obtain ⟨k, h1, h2⟩ := chain_ok l (iadd i 1) r (by show 0 ≤ i + 1; omega)
      refine ⟨k, by simp only [chain]; rw [cnd_f (ieq_f hc)]; exact h1, ?_⟩
      rw [h2]
      simp only [List.contains_cons, Bool.or_eq_false_iff]
      exact ⟨fun h => ⟨by simpa using fun e => hc e.symm, h⟩, fun h => h.2⟩
def inRep (r : Int) : Bool := (decide (32 ≤ r) && decide (r ≤ 126)) || hiRunes.contains r
theorem wi32_id {x : Int} (h : 0 ≤ x ∧ x < 1000) : wr .i32 x = x := by
  show IntKind.wrap .i32 x = x
  unfold IntKind.wrap
  simp only [IntKind.bits, IntKind.signed, Bool.true_and, decide_eq_true_eq, show (2 : Int) ^ 32 = 4294967296 from rfl, show (2 : Int) ^ (32 - 1) = 2147483648 from rfl]
  split <;> omega
theorem lo_mem (r : Int) : loRunes.contains r = (decide (32 ≤ r) && decide (r ≤ 126)) := by
  rw [Bool.eq_iff_iff]
  simp only [loRunes, List.contains_iff_mem, List.mem_map, List.mem_range, Bool.and_eq_true, decide_eq_true_eq]
  constructor
  · rintro ⟨n, hn, rfl⟩; omega
  · intro h; exact ⟨(r - 32).toNat, by omega, by omega⟩
theorem index_some (r : Int) : ∃ i, charset_Index fuelH r = some i ∧ r08_Index fuelH r = some i ∧ (i < 0 ↔ inRep r = false) := by
  rw [ch_index, r08_index, place_eq]
  obtain ⟨k, h1, h2⟩ := chain_ok (loRunes ++ hiRunes) 0 r (Int.le_refl _)
  have hin : (loRunes ++ hiRunes).contains r = inRep r := by
    unfold inRep
    rw [← lo_mem]
    simp [List.contains_eq_mem, List.mem_append]
  rw [hin] at h2
  by_cases ha : 32 ≤ r
  · rw [cnd_t (ile_t ha), cnd_t (ile_t ha)]
    by_cases hb : r ≤ 126
    · rw [cnd_t (ile_t hb), cnd_t (ile_t hb)]
      refine ⟨_, rfl, rfl, ?_⟩
      have : w64 (wr .i32 (isub r 32)) = r - 32 := by
        simp only [isub]
        rw [wi32_id (by omega), w64_id (by omega)]
      rw [this]
      simp [inRep, ha, hb]
    · rw [cnd_f (ile_f hb), cnd_f (ile_f hb)]
      exact ⟨k, by rw [bnd_s h1], h1, h2⟩
  · rw [cnd_f (ile_f ha), cnd_f (ile_f ha)]
    exact ⟨k, by rw [bnd_s h1], h1, h2⟩
theorem index_stl (r : Int) : ∃ i, charset_Index fuelH r = some i ∧ (i < 0 ↔ inRep r = false) := by
  rw [ch_index, place_eq]
  obtain ⟨k, h1, h2⟩ := chain_ok (loRunes ++ hiRunes) 0 r (Int.le_refl _)
  have hin : (loRunes ++ hiRunes).contains r = inRep r := by
    unfold inRep
    rw [← lo_mem]
    simp [List.contains_eq_mem, List.mem_append]
  rw [hin] at h2
  by_cases ha : 32 ≤ r
  · rw [cnd_t (ile_t ha)]
    by_cases hb : r ≤ 126
    · rw [cnd_t (ile_t hb)]
      refine ⟨_, rfl, ?_⟩
      have : w64 (wr .i32 (isub r 32)) = r - 32 := by
        simp only [isub]
        rw [wi32_id (by omega), w64_id (by omega)]
      rw [this]
      simp [inRep, ha, hb]
    · rw [cnd_f (ile_f hb)]
      exact ⟨k, by rw [bnd_s h1], h2⟩
  · rw [cnd_f (ile_f ha)]
    exact ⟨k, by rw [bnd_s h1], h2⟩
end Go.Mo
end

section
/-
  Plain facts: texts of the repertoire.
-/
namespace Go.Mo
open Go Go.W Go.Lib
set_option maxRecDepth 100000

theorem dec_pos (l : List UInt8) : 1 ≤ (decodeL l).2 := by
  unfold decodeL Utf8.decode
  simp only
  repeat' split
  all_goals first | exact Nat.le_refl _ | (show 1 ≤ _; omega)
theorem decR_eq (s : List UInt8) (p : Nat) : decR s p = ((decodeL (s.drop p)).1 : Int) := by
  have := decodeL_drop (bst s) p
  have e : (bst s).data.toList = s := rfl
  rw [e] at this
  unfold decR
  rw [this]
theorem decW_eq (s : List UInt8) (p : Nat) : decW s p = (decodeL (s.drop p)).2 := by
  have := decodeL_drop (bst s) p
  have e : (bst s).data.toList = s := rfl
  rw [e] at this
  unfold decW
  rw [this]

def rok : Nat → List UInt8 → Bool
  | 0, _ => true
  | n + 1, l => if l = [] then true else if inRep ((decodeL l).1 : Int) = true then rok n (l.drop (decodeL l).2) else false
/-- characters of the repertoire alone -/
def vld (l : List UInt8) : Bool := rok l.length l
theorem rok_nil : ∀ n, rok n [] = true
  | 0 => rfl
  | n + 1 => by simp [rok]
theorem rok_fuel : ∀ (n m : Nat) (l : List UInt8), l.length ≤ n → l.length ≤ m → rok n l = rok m l
  | 0, m, l, h, _ => by
    have : l = [] := List.eq_nil_of_length_eq_zero (by omega)
    subst this
    rw [rok_nil, rok_nil]
  | n + 1, 0, l, _, h => by
    have : l = [] := List.eq_nil_of_length_eq_zero (by omega)
    subst this
    rw [rok_nil, rok_nil]
  | n + 1, m + 1, l, h1, h2 => by
    by_cases hl : l = []
    · subst hl; rw [rok_nil, rok_nil]
    · have hp := dec_pos l
      have hlen : 0 < l.length := List.length_pos_iff.2 hl
      simp only [rok, hl, if_false]
      split
      · exact rok_fuel n m _ (by simp; omega) (by simp; omega)
      · rfl
theorem vld_step (l : List UInt8) (hl : l ≠ []) : vld l = if inRep ((decodeL l).1 : Int) = true then vld (l.drop (decodeL l).2) else false := by
  have hp := dec_pos l
  have hlen : 0 < l.length := List.length_pos_iff.2 hl
  unfold vld
  obtain ⟨n, hn⟩ : ∃ n, l.length = n + 1 := ⟨l.length - 1, by omega⟩
  rw [hn]
  simp only [rok, hl, if_false]
  split
  · exact rok_fuel _ _ _ (by simp; omega) (Nat.le_refl _)
  · rfl
theorem vld_valid : ∀ (n : Nat) (l : List UInt8), l.length ≤ n → vld l = true → validD l = true
  | n, l, h, hv => by
    by_cases hl : l = []
    · subst hl; rfl
    · have hlen : 0 < l.length := List.length_pos_iff.2 hl
      have hp := dec_pos l
      rw [vld_step l hl] at hv
      split at hv
      · rename_i hr
        rw [validD_step l hl, if_neg ?_]
        · cases n with
          | zero => omega
          | succ n => exact vld_valid n _ (by simp; omega) hv
        · rintro ⟨e, _⟩
          rw [e] at hr
          exact absurd hr (by decide)
      · cases hv

theorem valid_loop {s : List UInt8} (hs : s.length ≤ 100000000) (Ix : Int → Option Int) (hI : ∀ r : Int, ∃ i, Ix r = some i ∧ (i < 0 ↔ inRep r = false)) : ∀ (fuel p : Nat), s.length - p < fuel → p ≤ s.length →
    fixN (fun v2 (v3 : (List UInt8) × Int) =>
    cnd (nlt (toN v3.2) (nlen v3.1))
      (bnd (Ix (decR v3.1 (toN v3.2))) fun v4 =>
      cnd (ilt v4 (0 : Int))
        (some false)
        (v2 (v3.1, ofN (nadd (toN v3.2) (decW v3.1 (toN v3.2))))))
      (some true)) fuel (s, ofN p) = some (vld (s.drop p))
  | 0, p, h, _ => by omega
  | fuel + 1, p, h, hp => by
    rw [fixN_s]
    have et : toN (ofN p) = p := by simp [toN, ofN]
    simp only [et]
    by_cases hl : p < s.length
    · have hne : s.drop p ≠ [] := by intro e; have := congrArg List.length e; simp at this; omega
      have hw := dec_pos (s.drop p)
      have hle := decodeL_le (s.drop p) hne
      rw [List.length_drop] at hle
      rw [cnd_t (show nlt p (nlen s) = true from decide_eq_true hl)]
      obtain ⟨i, h1, h2⟩ := hI (decR s p)
      rw [bnd_s h1]
      rw [vld_step _ hne, ← decR_eq]
      by_cases hi : i < 0
      · rw [cnd_t (ilt_t hi), if_neg (by rw [h2.1 hi]; decide)]
      · rw [cnd_f (ilt_f hi)]
        have hin : inRep (decR s p) = true := by
          cases hq : inRep (decR s p) with
          | true => rfl
          | false => exact absurd (h2.2 hq) hi
        rw [if_pos hin, decW_eq, List.drop_drop]
        show fixN _ fuel (s, ofN (p + (decodeL (s.drop p)).2)) = _
        exact valid_loop hs Ix hI fuel _ (by omega) (by omega)
    · rw [cnd_f (show nlt p (nlen s) = false from decide_eq_false hl)]
      have : s.drop p = [] := by simp; omega
      rw [this]
      rfl
theorem r08_valid (s : List UInt8) (hs : s.length ≤ 4000000) : r08_Valid fuelH s = some (vld s) := by
  unfold r08_Valid
  simp only [jn_e]
  have := valid_loop (s := s) (by omega) (r08_Index fuelH) (fun r => by obtain ⟨i, _, h2, h3⟩ := index_some r; exact ⟨i, h2, h3⟩) fuelH 0 (by have := fuelH_eq; omega) (Nat.zero_le _)
  simpa using this
theorem ch_valid (s : List UInt8) (hs : s.length ≤ 4000000) : charset_Valid fuelH s = some (vld s) := by
  unfold charset_Valid
  have hv : utf8_ValidString fuelH s = some (validD s) := by
    show grd (catOk (len s)) (some (validD s)) = _
    exact grd_t (decide_eq_true (by simp only [len]; omega))
  rw [bnd_s hv]
  simp only [jn_e]
  cases hd : validD s with
  | false =>
    rw [cnd_t (show bnot false = true from rfl)]
    cases hq : vld s with
    | false => rfl
    | true => rw [vld_valid _ s (Nat.le_refl _) hq] at hd; cases hd
  | true =>
    rw [cnd_f (show bnot true = false from rfl)]
    have := valid_loop (s := s) (by omega) (charset_Index fuelH) (fun r => by obtain ⟨i, h2, h3⟩ := index_stl r; exact ⟨i, h2, h3⟩) fuelH 0 (by have := fuelH_eq; omega) (Nat.zero_le _)
    simpa using this
end Go.Mo
end

section
/-
  Plain facts: names; the check of a header.
-/
namespace Go.Mo
open Go Go.W Go.Lib
set_option maxRecDepth 100000

theorem cnd_dec {α : Type} {p : Prop} [Decidable p] {x y : Option α} : cnd (decide p) x y = if p then x else y := by
  by_cases h : p
  · rw [cnd_t (decide_eq_true h), if_pos h]
  · rw [cnd_f (decide_eq_false h), if_neg h]
theorem cnd_ilt {α : Type} {a b : Int} {x y : Option α} : cnd (ilt a b) x y = if a < b then x else y := cnd_dec
theorem cnd_ieq {α : Type} {a b : Int} {x y : Option α} : cnd (ieq a b) x y = if a = b then x else y := by
  by_cases h : a = b
  · rw [cnd_t (ieq_t h), if_pos h]
  · rw [cnd_f (ieq_f h), if_neg h]
/-- may stand in a name -/
def okc (c : Int) : Bool := decide ((65 ≤ c ∧ c ≤ 90) ∨ (48 ≤ c ∧ c ≤ 57) ∨ c = 95 ∨ c = 45)
def upc (c : Int) : Bool := decide (65 ≤ c ∧ c ≤ 90)
/-- a name -/
def nm (s : List UInt8) : Bool := decide (1 ≤ s.length ∧ s.length ≤ 16) && upc (n8 (s.getD 0 0)) && s.all fun c => okc (n8 c)
end Go.Mo
end

section
/-
  Plain facts: the check of a header.
-/
namespace Go.Mo
open Go Go.W Go.Lib
set_option maxRecDepth 100000
abbrev Lbl := Int × Int × Int × Int × Bool
abbrev Hdr := UInt8 × (List UInt8) × (List UInt8) × Int × Int × Lbl × Lbl × Int × Int
theorem bnd_some' {α β : Type} {a : α} {k : α → Option β} : bnd (some a) k = k a := rfl
end Go.Mo
end

section
/-
  Plain facts: the characters of a text, and the text of characters.
-/
namespace Go.Mo
open Go Go.W Go.Lib
set_option maxRecDepth 100000

theorem w64_succ {i n : Nat} (h : i < n) (hn : n ≤ 9223372036854775807) : w64 (iadd (i : Int) 1) = ((i + 1 : Nat) : Int) := by
  simp only [iadd]; rw [w64_id (by omega)]; omega
theorem lget_i {α : Type} {l : List α} {i : Nat} {d : α} (h : i < l.length) : lget l (toN (i : Int)) d = l[i] := by simp [lget, toN, h]
end Go.Mo
end

section
/-
  Plain facts: the characters of the tape form.
-/
namespace Go.Mo
open Go Go.W Go.Lib
set_option maxRecDepth 100000

end Go.Mo
end

section
/-
  Plain facts: texts in the characters of the tape form.
-/
namespace Go.Mo
open Go Go.W Go.Lib
set_option maxRecDepth 100000

end Go.Mo
end

section
/-
  Small plain facts: bytes, lengths, equality of texts.
-/
namespace Go.Mo
open Go Go.W Go.Lib
set_option maxRecDepth 100000
noncomputable section
theorem catOk_t {n : Int} (h : n ≤ 9223372036854775807) : catOk n = true := decide_eq_true h
theorem seq_dec (x y : List UInt8) : seq x y = decide (x = y) := by
  unfold seq
  by_cases h : x = y
  · subst h; simp
  · rw [decide_eq_false h]
    simpa using h
end
end Go.Mo
end

section
/-
  Plain facts: characters of the tape form read back.
-/
namespace Go.Mo
open Go Go.W Go.Lib
set_option maxRecDepth 100000
noncomputable section

/-- the small letter -/
def low (r : Int) : Int := if (65 ≤ r ∧ r ≤ 90) ∨ (192 ≤ r ∧ r < 223) then r + 32 else if r = 338 then 339 else r
end
end Go.Mo
end

section
/-
  Plain facts: rates, names, on both sides.
-/
namespace Go.Mo
open Go Go.W Go.Lib
set_option maxRecDepth 100000
noncomputable section
end
end Go.Mo
end

section
/-
  Plain facts: rows of text, their check, their normal form.
-/
namespace Go.Mo
open Go Go.W Go.Lib
set_option maxRecDepth 100000
theorem seq_t {a b : List UInt8} : (seq a b = true) = (a = b) := by rw [seq_dec]; simp
theorem ieq_tt {a b : Int} : (ieq a b = true) = (a = b) := by simp [ieq]
theorem n8_eq {a b : UInt8} : (n8 a = n8 b) = (a = b) := propext ⟨n8_inj, fun h => by rw [h]⟩
theorem w64_pred {i : Nat} (h : 0 < i) (hn : i ≤ 9223372036854775807) : w64 (isub (i : Int) 1) = ((i - 1 : Nat) : Int) := by
  simp only [isub]; rw [w64_id (by omega)]; omega
theorem w64_back {i : Nat} (hn : i < 9223372036854775807) : w64 (isub ((i + 1 : Nat) : Int) 1) = (i : Int) := by
  rw [w64_pred (Nat.succ_pos i) (by omega)]; rfl
end Go.Mo
end

section
/-
  Plain facts: loops with an invariant; the normal form of a row.
-/
namespace Go.Mo
open Go Go.W Go.Lib
set_option maxRecDepth 100000

end Go.Mo
end

section
/-
  Plain facts: the bytes of rows.
-/
namespace Go.Mo
open Go Go.W Go.Lib
set_option maxRecDepth 100000
noncomputable section

end
end Go.Mo
end

section
/-
  Plain facts: rows that are read from bytes, on both sides.
-/
namespace Go.Mo
open Go Go.W Go.Lib
set_option maxRecDepth 100000
noncomputable section

end
end Go.Mo
end

section
/-
  Plain facts: rows that are read by the reference; equality of rows; StlTexts returns true.
-/
namespace Go.Mo
open Go Go.W Go.Lib
set_option maxRecDepth 100000
noncomputable section

end
end Go.Mo
end

section
/-
  Plain facts: StlTexts returns true.
-/
namespace Go.Mo
open Go Go.W Go.Lib
set_option maxRecDepth 100000
noncomputable section
theorem bk_mem {α : Type} {f : α → Nat} {l : List α} {x : α} (h : x ∈ l) : f x ≤ bkL f l := by
  induction l with
  | nil => cases h
  | cons y l ih =>
    simp only [bkL]
    rcases List.mem_cons.1 h with rfl | h
    · omega
    · have := ih h; omega
theorem bk_len {α : Type} {f : α → Nat} (hf : ∀ x, 1 ≤ f x) (l : List α) : l.length ≤ bkL f l := by
  induction l with
  | nil => exact Nat.le_refl _
  | cons y l ih => have := hf y; simp only [bkL, List.length_cons]; omega
theorem bk_take {α : Type} {f : α → Nat} : ∀ (n : Nat) (l : List α), bkL f (l.take n) ≤ bkL f l
  | 0, _ => Nat.zero_le _
  | n + 1, [] => Nat.le_refl _
  | n + 1, x :: l => by have := bk_take (f := f) n l; simp only [List.take_succ_cons, bkL]; omega
end
end Go.Mo
end

section
/-
  Plain facts: StlReturns returns true.
-/
namespace Go.Mo
open Go Go.W Go.Lib
set_option maxRecDepth 100000
noncomputable section

end
end Go.Mo
end

section
/-
  Plain facts: regions, their check, a region by its name, the places of rows.
-/
namespace Go.Mo
open Go Go.W Go.Lib
set_option maxRecDepth 100000
noncomputable section
end
end Go.Mo
end

section
/-
  Plain facts: the places of rows.
-/
namespace Go.Mo
open Go Go.W Go.Lib
set_option maxRecDepth 100000
noncomputable section

end
end Go.Mo
end

section
/-
  Plain facts: the text and the length of a row; events and their check.
-/
namespace Go.Mo
open Go Go.W Go.Lib
set_option maxRecDepth 100000
noncomputable section
end
end Go.Mo
end

section
/-
  Plain facts: the check of an event, on both sides; spots; the length of an event.
-/
namespace Go.Mo
open Go Go.W Go.Lib
set_option maxRecDepth 100000
noncomputable section

end
end Go.Mo
end

section
/-
  Plain facts: the header of a document; events by their number; the length of an event.
-/
namespace Go.Mo
open Go Go.W Go.Lib
set_option maxRecDepth 100000
noncomputable section
end
end Go.Mo
end

section
/-
  Plain facts: the events of a document, checked one after the other; the length of an event.
-/
namespace Go.Mo
open Go Go.W Go.Lib
set_option maxRecDepth 100000
noncomputable section

end
end Go.Mo
end

section
/-
  Plain facts: the comments of a document, on both sides.
-/
namespace Go.Mo
open Go Go.W Go.Lib
set_option maxRecDepth 100000
noncomputable section

end
end Go.Mo
end

section
/-
  Plain facts: the check of a document is the specified one.
-/
namespace Go.Mo
open Go Go.W Go.Lib
set_option maxRecDepth 100000
noncomputable section

end
end Go.Mo
end

section
/-
  Plain facts: the place of a good event, and its region.
-/
namespace Go.Mo
open Go Go.W Go.Lib
set_option maxRecDepth 100000
noncomputable section

end
end Go.Mo
end

section
/-
  Plain facts: the document as the form carries it, on both sides.
-/
namespace Go.Mo
open Go Go.W Go.Lib
set_option maxRecDepth 100000
noncomputable section

end
end Go.Mo
end

section
/-
  Plain facts: a document is the same as itself; StlAccepts returns true.
-/
namespace Go.Mo
open Go Go.W Go.Lib
set_option maxRecDepth 100000
noncomputable section

end
end Go.Mo
end

section
/-
  Plain facts: StlAccepts returns true.
-/
namespace Go.Mo
open Go Go.W Go.Lib
set_option maxRecDepth 100000
noncomputable section

end
end Go.Mo
end

section
/-
  Plain facts: texts that are joined; the normal form of a row that is good.
-/
namespace Go.Mo
open Go Go.W Go.Lib
set_option maxRecDepth 100000
noncomputable section

end
end Go.Mo
end

section
/-
  Plain facts: the regions of a reduced document; its events stand where they stood.
-/
namespace Go.Mo
open Go Go.W Go.Lib
set_option maxRecDepth 100000
noncomputable section

end
end Go.Mo
end

section
/-
  Plain facts: a reduced document is good; StlReduced returns true.
-/
namespace Go.Mo
open Go Go.W Go.Lib
set_option maxRecDepth 100000
noncomputable section

end
end Go.Mo
end

section
/-
  Plain facts: digits and the bytes of a header.
-/
namespace Go.Mo
open Go Go.W Go.Lib
set_option maxRecDepth 100000

end Go.Mo
end

section
/-
  Plain facts: what the check of a header lets through; the bytes of a header.
-/
namespace Go.Mo
open Go Go.W Go.Lib
set_option maxRecDepth 100000
noncomputable section

def lblOk (l : Lbl) : Prop := (0 ≤ l.1 ∧ l.1 ≤ 23) ∧ (0 ≤ l.2.1 ∧ l.2.1 ≤ 59) ∧ (0 ≤ l.2.2.1 ∧ l.2.2.1 ≤ 59) ∧ (0 ≤ l.2.2.2.1 ∧ l.2.2.2.1 ≤ 59)
structure HdrOk (h : Hdr) : Prop where
  rate : h.1 = 3 ∨ h.1 = 5
  lang : h.2.1 = [] ∨ nm h.2.1 = true
  ttl : vld h.2.2.1 = true
  ttlL : h.2.2.1.length ≤ 400
  blocks : 0 ≤ h.2.2.2.1 ∧ h.2.2.2.1 ≤ 99999
  groups : 0 ≤ h.2.2.2.2.1 ∧ h.2.2.2.2.1 ≤ 99999
  start : lblOk h.2.2.2.2.2.1
  first : lblOk h.2.2.2.2.2.2.1
  rows : 0 ≤ h.2.2.2.2.2.2.2.1 ∧ h.2.2.2.2.2.2.2.1 ≤ 99
  cols : 0 ≤ h.2.2.2.2.2.2.2.2 ∧ h.2.2.2.2.2.2.2.2 ≤ 99
  d1 : h.2.2.2.2.2.1.2.2.2.2 = false
  d2 : h.2.2.2.2.2.2.1.2.2.2.2 = false
end
end Go.Mo
end

section
/-
  Plain facts: numbers and names read back.
-/
namespace Go.Mo
open Go Go.W Go.Lib
set_option maxRecDepth 100000
noncomputable section

end
end Go.Mo
end

section
/-
  Plain facts: a header read back; TapeHeaders.
-/
namespace Go.Mo
open Go Go.W Go.Lib
set_option maxRecDepth 100000
noncomputable section

end
end Go.Mo
end

section
/-
  Plain facts: rows that are read are small; a subtitle that is read, both sides.
-/
namespace Go.Mo
open Go Go.W Go.Lib
set_option maxRecDepth 100000
noncomputable section

end
end Go.Mo
end

section
/-
  Plain facts: events in document order, both sides.
-/
namespace Go.Mo
open Go Go.W Go.Lib
set_option maxRecDepth 100000
noncomputable section

end
end Go.Mo
end

section
/-
  Plain facts: the program's sorting of few events.
-/
namespace Go.Mo
open Go Go.W Go.Lib
set_option maxRecDepth 100000
noncomputable section

end
end Go.Mo
end

section
/-
  Plain facts: what is read is a valid document that the form carries; StlValid returns true.
-/
namespace Go.Mo
open Go Go.W Go.Lib
set_option maxRecDepth 100000
noncomputable section

end
end Go.Mo
end

section
/-
  Plain facts: the blocks of a subtitle lead back to it.
-/
namespace Go.Mo
open Go Go.W Go.Lib
set_option maxRecDepth 100000
noncomputable section

end
end Go.Mo
end

section
/-
  Plain facts: the file of an accepted document is read as the reduced document; StlCarries returns true.
-/
namespace Go.Mo
open Go Go.W Go.Lib
set_option maxRecDepth 100000
noncomputable section

end
end Go.Mo
end
end

section
/-
  Plain facts: loops over a text; letters; the escaped text, both sides.
-/
set_option linter.all false
namespace Go.Mo
open Go Go.W Go.Lib
set_option maxRecDepth 100000
noncomputable section

/-- a loop that goes through a list, by steps of any length -/
theorem drop_loop {V R σ α : Type} {F : (V → Option R) → V → Option R} {s : List α} (st : σ → Nat → V) (spec : σ → List α → Option R) (I : Nat → σ → Prop)
    (hstep : ∀ self a i, i ≤ s.length → I i a → (∀ a' j, i < j → j ≤ s.length → I j a' → self (st a' j) = spec a' (s.drop j)) → F self (st a i) = spec a (s.drop i)) :
    ∀ (fuel i : Nat) (a : σ), s.length - i < fuel → i ≤ s.length → I i a → fixN F fuel (st a i) = spec a (s.drop i)
  | 0, i, a, h, _, _ => by omega
  | fuel + 1, i, a, h, hi, hI => by
    rw [fixN_s]
    exact hstep _ a i hi hI fun a' j hj hj2 hI2 => drop_loop st spec I hstep fuel j a' (by omega) hj2 hI2
theorem fuelH_len {α : Type} {s : List α} (h : s.length ≤ 4000000) (i : Nat) : s.length - i < fuelH := by have := fuelH_eq; omega

def letB (x : UInt8) : Bool := (decide (97 ≤ x.toNat) && decide (x.toNat ≤ 122)) || (decide (65 ≤ x.toNat) && decide (x.toNat ≤ 90))
def digB (x : UInt8) : Bool := decide (48 ≤ x.toNat) && decide (x.toNat ≤ 57)
def namB (x : UInt8) : Bool := letB x || digB x || x == 45
def wsB (x : UInt8) : Bool := x == 9 || x == 10 || x == 13 || x == 32
theorem letters_tab : ((List.range 256).all fun n => decide (xml_letter 0 (UInt8.ofNat n) = some (letB (UInt8.ofNat n)) ∧ r20_letter 0 (UInt8.ofNat n) = some (letB (UInt8.ofNat n)) ∧ xml_nameByte 0 (UInt8.ofNat n) = some (namB (UInt8.ofNat n)) ∧ r20_digit 0 (UInt8.ofNat n) = some (digB (UInt8.ofNat n)) ∧ xml_white 0 (UInt8.ofNat n) = some (wsB (UInt8.ofNat n)))) = true := by kernel_rfl
theorem letters (x : UInt8) : xml_letter 0 x = some (letB x) ∧ r20_letter 0 x = some (letB x) ∧ xml_nameByte 0 x = some (namB x) ∧ r20_digit 0 x = some (digB x) ∧ xml_white 0 x = some (wsB x) :=
  of_decide_eq_true (all_u8 (P := fun x => decide (xml_letter 0 x = some (letB x) ∧ r20_letter 0 x = some (letB x) ∧ xml_nameByte 0 x = some (namB x) ∧ r20_digit 0 x = some (digB x) ∧ xml_white 0 x = some (wsB x))) letters_tab x)
theorem letter_eq (N : Nat) (x : UInt8) : xml_letter N x = some (letB x) := (letters x).1
theorem rletter_eq (N : Nat) (x : UInt8) : r20_letter N x = some (letB x) := (letters x).2.1
theorem namb_eq (N : Nat) (x : UInt8) : xml_nameByte N x = some (namB x) := (letters x).2.2.1
theorem rdigit_eq (N : Nat) (x : UInt8) : r20_digit N x = some (digB x) := (letters x).2.2.2.1
theorem rall_eq {s : List UInt8} (hs : s.length ≤ 600000000) (c : UInt8) (r : List UInt8) (hr : r ≠ [c]) (hr2 : r.length ≤ 6) : strings_ReplaceAll fuelH (s, [c], r) = some (s.flatMap (sub1 c r)) := by
  have h1 : strings_ReplaceAll fuelH (s, [c], r) = grd (decide (s.length < 4294967281)) (grd (decide (1 ≤ ([c] : List UInt8).length)) (grd (decide (s.length + Lib.count s [c] * r.length ≤ 140737488355328)) (some (Lib.replace s [c] r (-1))))) := by
    unfold strings_ReplaceAll strings_Replace hand_strings_Replace
    generalize hX : grd _ _ = X
    cases X <;> rfl
  have hc := Lib.count_le s [c]
  have hm : Lib.count s [c] * r.length ≤ (s.length + 1) * 6 := Nat.mul_le_mul hc hr2
  rw [h1, grd_t (decide_eq_true (by omega)), grd_t (by rfl), grd_t (decide_eq_true (by omega)), replace_flat c r s hr]
theorem escN (N : Nat) (x : List UInt8) : xml_Escape (N + 10) x = bnd (strings_ReplaceAll (N + 10) (x, [38], [38, 97, 109, 112, 59])) fun a => bnd (strings_ReplaceAll (N + 10) (a, [60], [38, 108, 116, 59])) fun b => bnd (strings_ReplaceAll (N + 10) (b, [62], [38, 103, 116, 59])) fun c => bnd (strings_ReplaceAll (N + 10) (c, [34], [38, 113, 117, 111, 116, 59])) fun d => bnd (strings_ReplaceAll (N + 10) (d, [39], [38, 97, 112, 111, 115, 59])) fun e => some e := by kernel_rfl
theorem sub1_len (c : UInt8) {r : List UInt8} {k : Nat} (hr : r.length ≤ k) (hk : 1 ≤ k) (b : UInt8) : (sub1 c r b).length ≤ k := by
  unfold sub1
  split
  · exact hr
  · exact hk
theorem esc_eq {s : List UInt8} (hs : s.length ≤ 1100000) : xml_Escape fuelH s = some (esc s) := by
  have h0 := escN (fuelM + 4990) s
  have l1 := flat_len (sub1_len 38 (r := [38, 97, 109, 112, 59]) (k := 5) (by decide) (by decide)) s
  have l2 := flat_len (sub1_len 60 (r := [38, 108, 116, 59]) (k := 4) (by decide) (by decide)) (s.flatMap (sub1 38 [38, 97, 109, 112, 59]))
  have l3 := flat_len (sub1_len 62 (r := [38, 103, 116, 59]) (k := 4) (by decide) (by decide)) ((s.flatMap (sub1 38 [38, 97, 109, 112, 59])).flatMap (sub1 60 [38, 108, 116, 59]))
  have l4 := flat_len (sub1_len 34 (r := [38, 113, 117, 111, 116, 59]) (k := 6) (by decide) (by decide)) (((s.flatMap (sub1 38 [38, 97, 109, 112, 59])).flatMap (sub1 60 [38, 108, 116, 59])).flatMap (sub1 62 [38, 103, 116, 59]))
  show xml_Escape (fuelM + 4990 + 10) s = _
  rw [h0]
  show (bnd (strings_ReplaceAll fuelH _) _) = _
  rw [rall_eq (by omega) 38 _ (by decide) (by decide), bnd_some']
  show (bnd (strings_ReplaceAll fuelH _) _) = _
  rw [rall_eq (by omega) 60 _ (by decide) (by decide), bnd_some']
  show (bnd (strings_ReplaceAll fuelH _) _) = _
  rw [rall_eq (by omega) 62 _ (by decide) (by decide), bnd_some']
  show (bnd (strings_ReplaceAll fuelH _) _) = _
  rw [rall_eq (by omega) 34 _ (by decide) (by decide), bnd_some']
  show (bnd (strings_ReplaceAll fuelH _) _) = _
  rw [rall_eq (by omega) 39 _ (by decide) (by decide), bnd_some', esc_five]
theorem esc_cons (b : UInt8) (l : List UInt8) : esc (b :: l) = escB b ++ esc l := by unfold esc; rw [List.flatMap_cons]
theorem resc_eq {s : List UInt8} (hs : s.length ≤ 1100000) : r20_Escape fuelH s = some (esc s) := by
  unfold r20_Escape
  rw [jn_e]
  have h := drop_loop (s := s) (fun (a : List UInt8) (i : Nat) => (a, (i : Int))) (fun a l => some (a ++ esc l)) (fun i a => a.length ≤ 6 * i)
    (F := fun v2 (v3 : (List UInt8) × Int) =>
    cnd (ilt v3.2 (len s))
      (jn (fun (v4 : List UInt8) =>
        v2 (v4, w64 (iadd v3.2 (1 : Int))))
      fun v5 =>
      grd (inb v3.2 (len s)) <|
      cnd (ieq (n8 (lget s (toN v3.2) (0 : UInt8))) (n8 (38 : UInt8)))
        (grd (catOk (iadd (len v3.1) (len ([38, 97, 109, 112, 59] : List UInt8))))
          (v5 (lapp v3.1 ([38, 97, 109, 112, 59] : List UInt8))))
        (cnd (ieq (n8 (lget s (toN v3.2) (0 : UInt8))) (n8 (60 : UInt8)))
          (grd (catOk (iadd (len v3.1) (len ([38, 108, 116, 59] : List UInt8))))
            (v5 (lapp v3.1 ([38, 108, 116, 59] : List UInt8))))
          (cnd (ieq (n8 (lget s (toN v3.2) (0 : UInt8))) (n8 (62 : UInt8)))
            (grd (catOk (iadd (len v3.1) (len ([38, 103, 116, 59] : List UInt8))))
              (v5 (lapp v3.1 ([38, 103, 116, 59] : List UInt8))))
            (cnd (ieq (n8 (lget s (toN v3.2) (0 : UInt8))) (n8 (34 : UInt8)))
              (grd (catOk (iadd (len v3.1) (len ([38, 113, 117, 111, 116, 59] : List UInt8))))
                (v5 (lapp v3.1 ([38, 113, 117, 111, 116, 59] : List UInt8))))
              (cnd (ieq (n8 (lget s (toN v3.2) (0 : UInt8))) (n8 (39 : UInt8)))
                (grd (catOk (iadd (len v3.1) (len ([38, 97, 112, 111, 115, 59] : List UInt8))))
                  (v5 (lapp v3.1 ([38, 97, 112, 111, 115, 59] : List UInt8))))
                (grd (in3 v3.2 (w64 (iadd v3.2 (1 : Int))) (len s))
                  (grd (catOk (iadd (len v3.1) (len (ldrop (toN v3.2) (ltake (toN (w64 (iadd v3.2 (1 : Int)))) s)))))
                    (v5 (lapp v3.1 (ldrop (toN v3.2) (ltake (toN (w64 (iadd v3.2 (1 : Int)))) s)))))))))))
      (some v3.1)) ?_ fuelH 0 [] (fuelH_len (by omega) 0) (Nat.zero_le _) (by simp)
  · exact h
  · intro self a i hi hI hself
    by_cases hl : i < s.length
    · have g : lget s (toN (i : Int)) (0 : UInt8) = s[i] := lget_i hl
      have hw : w64 (iadd (i : Int) 1) = ((i + 1 : Nat) : Int) := w64_succ hl (by omega)
      have hsl : ldrop (toN (i : Int)) (ltake (toN ((i + 1 : Nat) : Int)) s) = [s[i]] := by
        simp only [ldrop, ltake, toN, Int.toNat_natCast]
        rw [List.take_succ_eq_append_getElem hl, List.drop_left' (by simp; omega)]
      have he := hself (a ++ escB s[i]) (i + 1) (by omega) (by omega) (by have := (escB_len s[i]).2; simp; omega)
      have hb := (escB_len s[i]).2
      rw [List.drop_eq_getElem_cons hl, esc_cons, ← List.append_assoc, ← he]
      show cnd (ilt (i : Int) (len s)) _ _ = _
      rw [cnd_t (ilt_t (by simp only [len]; omega)), jn_e, grd_t (inb_t (by simp only [len]; omega))]
      simp only [g, hw, hsl, cnd_ieq, n8_eq]
      unfold escB at *
      have hin : in3 (i : Int) ((i + 1 : Nat) : Int) (len s) = true := decide_eq_true (by simp only [len]; omega)
      repeat' split
      all_goals (try rw [grd_t hin])
      all_goals (rw [grd_t (catOk_t (by simp only [len, iadd, List.length_cons, List.length_nil]; omega))]; rfl)
    · obtain rfl : i = s.length := by omega
      show cnd (ilt (s.length : Int) (len s)) _ _ = _
      rw [cnd_f (ilt_f (by simp only [len]; omega)), List.drop_length]
      simp [esc]
end
end Go.Mo
end

section
/-
  Plain facts: what references mean and the text that is meant, both sides.
-/
set_option linter.all false
namespace Go.Mo
open Go Go.W Go.Lib
set_option maxRecDepth 100000
noncomputable section

/-- a loop that goes on while the letters fit -/
theorem scan {R : Type} {F : (Int → Option R) → Int → Option R} {s : List UInt8} (P : UInt8 → Bool) (K : Int → Option R)
    (hin : ∀ self i (h : i < s.length), F self (i : Int) = if P s[i] = true then self ((i + 1 : Nat) : Int) else K i) (hend : ∀ self, F self (s.length : Int) = K s.length) :
    ∀ (fuel i : Nat), s.length - i < fuel → i ≤ s.length → fixN F fuel (i : Int) = K ((i + ((s.drop i).takeWhile P).length : Nat) : Int)
  | 0, i, h, _ => by omega
  | fuel + 1, i, h, hi => by
    rw [fixN_s]
    by_cases hl : i < s.length
    · rw [hin _ i hl, List.drop_eq_getElem_cons hl, List.takeWhile_cons]
      by_cases hp : P s[i] = true
      · rw [if_pos hp, if_pos hp, scan P K hin hend fuel (i + 1) (by omega) (by omega), List.length_cons]
        congr 2
        omega
      · rw [if_neg hp, if_neg hp]
        rfl
    · obtain rfl : i = s.length := by omega
      rw [hend, List.drop_length]
      rfl

def kv (v : Int) : Option (List UInt8 × Int) := cnd (ilt v (0 : Int)) (some (([] : List UInt8), (4 : Int))) (bnd (r08_Index fuelH (wr .i32 v)) fun v2 => cnd (ilt v2 (0 : Int)) (some (([] : List UInt8), (10 : Int))) (bnd (r08_Of fuelH ([wr .i32 v] : List Int)) fun v3 => some (v3, (0 : Int))))
def v8 (x : List UInt8) (b : Bool) : Option (List UInt8 × Int) := cnd b (grd (in2 (2 : Int) (len x)) (bnd (r20_code fuelH (ldrop (toN (2 : Int)) x, (16 : Int), (5 : Int))) kv))
  (cnd (ilt (0 : Int) (len x)) (grd (inb (0 : Int) (len x)) (cnd (ieq (n8 (lget x (toN (0 : Int)) (0 : UInt8))) (n8 (35 : UInt8))) (grd (in2 (1 : Int) (len x)) (bnd (r20_code fuelH (ldrop (toN (1 : Int)) x, (10 : Int), (6 : Int))) kv)) (kv (-1 : Int)))) (kv (-1 : Int)))
theorem all_tw {P : UInt8 → Bool} : ∀ l : List UInt8, (l.takeWhile P).all P = true
  | [] => rfl
  | b :: l => by
    rw [List.takeWhile_cons]
    split
    · rename_i h
      rw [List.all_cons, h, all_tw l]
      rfl
    · rfl
end
end Go.Mo
end

section
/-
  Plain facts: the text that is meant, names, both sides; XmlEscapes and XmlUnescapes return true.
-/
set_option linter.all false
namespace Go.Mo
open Go Go.W Go.Lib
set_option maxRecDepth 100000
noncomputable section

theorem tw_len {P : UInt8 → Bool} (l : List UInt8) : (l.takeWhile P).length ≤ l.length := (List.takeWhile_prefix P).length_le
theorem wstr_eq (a t : List UInt8) (h : a.length + t.length ≤ 100000000) : strings_Builder_WriteString fuelH (((), a), t) = some (len t, (), (), a ++ t) := by
  unfold strings_Builder_WriteString strings_Builder_copyCheck hand_strings_Builder_copyCheck
  rw [bnd_some', grd_t (room_t (by simp only [len, iadd]; omega))]
  rfl
theorem tw_take (P : UInt8 → Bool) : ∀ l : List UInt8, l.take (l.takeWhile P).length = l.takeWhile P
  | [] => rfl
  | b :: l => by
    rw [List.takeWhile_cons]
    split
    · rw [List.length_cons, List.take_succ_cons, tw_take P l]
    · rfl
/-- a name's form -/
def nmX (s : List UInt8) : Bool := decide (1 ≤ s.length) && decide (s.length ≤ 32) && letB (s.getD 0 0) && s.all namB
theorem let_nam {x : UInt8} (h : letB x = true) : namB x = true := by unfold namB; rw [h]; rfl
/-- the longest name at the beginning -/
def namP : List UInt8 → List UInt8
  | [] => []
  | b :: l => if letB b = true then b :: l.takeWhile namB else []
theorem namP_cons (b : UInt8) (l : List UInt8) : namP (b :: l) = if letB b = true then b :: l.takeWhile namB else [] := rfl
theorem nmX_eq (s : List UInt8) : nmX s = (decide (s ≠ []) && decide (s.length ≤ 32) && decide (namP s = s)) := by
  unfold nmX
  match s with
  | [] => rfl
  | b :: l =>
    have h0 : (b :: l).getD 0 0 = b := rfl
    rw [h0, List.all_cons]
    have h1 : decide (1 ≤ (b :: l).length) = true := decide_eq_true (by simp)
    have h2 : decide (b :: l ≠ []) = true := decide_eq_true (by simp)
    rw [h1, h2, Bool.and_assoc (true && decide ((b :: l).length ≤ 32))]
    congr 1
    rw [namP_cons]
    by_cases h : letB b = true
    · rw [h, let_nam h, if_pos rfl, Bool.true_and, Bool.true_and]
      rw [Bool.eq_iff_iff, decide_eq_true_eq]
      refine ⟨fun k => ?_, fun k => ?_⟩
      · have := List.takeWhile_append_of_pos (p := namB) (l₁ := l) (l₂ := []) (by simpa using k)
        simp at this
        rw [this]
      · injection k with _ k
        rw [← k]
        exact all_tw l
    · have : letB b = false := by simpa using h
      rw [this, if_neg (by decide), decide_eq_false (show ¬ (([] : List UInt8) = b :: l) by simp)]
      simp
theorem name_loop {s : List UInt8} (hs : s.length ≤ 4000000) : ∀ (fuel i : Nat), s.length - i < fuel → i ≤ s.length →
    fixN (fun v3 (v4 : Int) => cnd (ilt v4 (len s)) (grd (inb v4 (len s)) (bnd (xml_nameByte fuelH (lget s (toN v4) (0 : UInt8))) fun v5 => cnd (bnot v5) (some false) (v3 (w64 (iadd v4 (1 : Int)))))) (some true)) fuel (i : Int) = some ((s.drop i).all namB)
  | 0, i, h, _ => by omega
  | fuel + 1, i, h, hi => by
    rw [fixN_s]
    by_cases hl : i < s.length
    · rw [cnd_t (ilt_t (by simp only [len]; omega)), grd_t (inb_t (by simp only [len]; omega)), lget_i hl, namb_eq, bnd_some', w64_succ hl (by omega), name_loop hs fuel (i + 1) (by omega) (by omega), List.drop_eq_getElem_cons hl, List.all_cons]
      cases namB s[i] <;> rfl
    · obtain rfl : i = s.length := by omega
      rw [cnd_f (ilt_f (by simp only [len]; omega)), List.drop_length]
      rfl
theorem name_eq (s : List UInt8) : xml_Name fuelH s = some (nmX s) := by
  unfold xml_Name nmX
  by_cases h0 : 1 ≤ s.length
  · rw [cnd_f (ilt_f (by simp only [len]; omega)), decide_eq_true h0]
    by_cases h1 : s.length ≤ 32
    · have hg : lget s (toN (0 : Int)) (0 : UInt8) = s.getD 0 0 := rfl
      rw [cnd_f (ilt_f (by simp only [len]; omega)), decide_eq_true h1, grd_t (inb_t (by simp only [len]; omega)), letter_eq, bnd_some', hg]
      by_cases h2 : letB (s.getD 0 0) = true
      · rw [h2, cnd_f (by rfl), jn_e]
        exact name_loop (by omega) fuelH 0 (fuelH_len (by omega) 0) (Nat.zero_le _)
      · have h2 : letB (s.getD 0 0) = false := by simpa using h2
        rw [h2, cnd_t (by rfl)]
        rfl
    · rw [cnd_t (ilt_t (by simp only [len]; omega)), decide_eq_false h1]
      rfl
  · rw [cnd_t (ilt_t (by simp only [len]; omega)), decide_eq_false h0]
    rfl
theorem rnamb (x : UInt8) (X Y : Option (List UInt8)) (N : Nat) (s : List UInt8) (v : Int) (hv : inb v (len s) = true) (hx : lget s (toN v) 0 = x) :
    (bnd (r20_letter N x) fun v5 => cnd v5 X (grd (inb v (len s)) (bnd (r20_digit N x) fun v6 => cnd v6 X (grd (inb v (len s)) (cnd (ieq (n8 x) (n8 (45 : UInt8))) X Y))))) = if namB x = true then X else Y := by
  rw [rletter_eq, bnd_some', grd_t hv, rdigit_eq, bnd_some', grd_t hv]
  unfold namB
  cases letB x with
  | true => rfl
  | false =>
    rw [cnd_f (by rfl)]
    cases digB x with
    | true => rfl
    | false =>
      rw [cnd_f (by rfl)]
      by_cases h : x = 45
      · subst h; rfl
      · rw [cnd_f (ieq_f (fun k => h (n8_inj k))), if_neg (by simpa using h)]
theorem namep_eq {s : List UInt8} (hs : s.length ≤ 4000000) : r20_namePart fuelH s = some (namP s) := by
  unfold r20_namePart
  match s with
  | [] => rfl
  | b :: l =>
    rw [cnd_f (by rfl), grd_t (inb_t (by simp only [len, List.length_cons]; omega))]
    show (bnd (r20_letter fuelH b) _) = _
    rw [rletter_eq, bnd_some', namP_cons]
    by_cases h : letB b = true
    · rw [h, cnd_f (by rfl), jn_e, if_pos rfl]
      have hb : (1 : Nat) ≤ (b :: l).length := by simp
      refine Eq.trans (scan (s := b :: l) namB (fun v1 => grd (in2 v1 (len (b :: l))) (some (ltake (toN v1) (b :: l)))) (fun self k hk => ?_) (fun self => ?_) fuelH 1 (fuelH_len hs 1) hb) ?_
      · show cnd (ilt (k : Int) (len (b :: l))) _ _ = _
        have hv : inb (k : Int) (len (b :: l)) = true := inb_t (by simp only [len]; omega)
        rw [cnd_t (ilt_t (by simp only [len]; omega)), grd_t hv, w64_succ hk (by omega)]
        have hx := lget_i (l := b :: l) (d := (0 : UInt8)) hk
        rw [hx]
        exact rnamb _ _ _ _ _ _ hv hx
      · show cnd (ilt ((b :: l).length : Int) (len (b :: l))) _ _ = _
        rw [cnd_f (ilt_f (by simp only [len]; omega))]
      · have ht := tw_len (P := namB) l
        show grd (in2 ((1 + (l.takeWhile namB).length : Nat) : Int) (len (b :: l))) _ = _
        rw [grd_t (in2_t (by simp only [len, List.length_cons]; omega))]
        simp only [ltake, toN, Int.toNat_natCast]
        rw [Nat.add_comm, List.take_succ_cons]
        exact congrArg (fun x => some (b :: x)) (tw_take namB l)
    · have h : letB b = false := by simpa using h
      rw [h, cnd_t (by rfl)]
      rfl
theorem rname_eq {s : List UInt8} (hs : s.length ≤ 4000000) : r20_Name fuelH s = some (nmX s) := by
  unfold r20_Name
  rw [nmX_eq]
  by_cases h0 : s = []
  · subst h0; rfl
  rw [cnd_t (by unfold sne; simpa using h0)]
  by_cases h1 : s.length ≤ 32
  · rw [cnd_t (ile_t (by simp only [len]; omega)), namep_eq hs, bnd_some', seq_dec, decide_eq_true h0, decide_eq_true h1]
    rfl
  · rw [cnd_f (ile_f (by simp only [len]; omega)), decide_eq_false h1]
    simp

theorem awake20 : l20_awake fuelH () = some true := by kernel_rfl
theorem esc_len (s : List UInt8) : (esc s).length ≤ 6 * s.length := flat_len (fun b => (escB_len b).2) s
end
end Go.Mo
end

section
/-
  Plain facts: attributes and children; XmlLooks returns true.
-/
set_option linter.all false
namespace Go.Mo
open Go Go.W Go.Lib
set_option maxRecDepth 100000
noncomputable section

abbrev Ln := List UInt8
abbrev At := List UInt8 × List UInt8
abbrev Nd := List UInt8 × List UInt8 × List At × Int
def ndz : Nd := ([], ([], ([], (0 : Int))))
def dep (n : Nd) : Int := n.2.2.2
def i64 (x : Int) : Prop := -9223372036854775808 ≤ x ∧ x ≤ 9223372036854775807
theorem lgetn {l : List Nd} {i : Nat} (h : i < l.length) : lget l (toN (i : Int)) ([], ([], ([], (0 : Int)))) = l[i] := lget_i h
/-- the children behind a place -/
def chS (d : Int) : Nat → List Nd → List Int
  | _, [] => []
  | k, n :: r => if d < dep n then (if dep n = d + 1 then (k : Int) :: chS d (k + 1) r else chS d (k + 1) r) else []
def kids (l : List Nd) (i : Int) : List Int := if i < 0 ∨ (l.length : Int) ≤ i then [] else chS (dep (l.getD i.toNat ndz)) (i.toNat + 1) (l.drop (i.toNat + 1))
theorem kids_loop {l : List Nd} (hl : l.length ≤ 1000000) (hd : ∀ n ∈ l, i64 (dep n)) {i : Nat} (hi : i < l.length) (T : Int → Int → Bool) (hT : ∀ a d, i64 a → i64 d → d < a → T a d = ieq a (d + 1)) :
    fixN (fun v2 (v3 : (List Int) × Int) =>
        cnd (ilt v3.2 (len l))
          (grd (inb v3.2 (len l))
            (grd (inb (i : Int) (len l))
              (cnd (ilt (lget l (toN (i : Int)) ([], ([], ([], (0 : Int))))).2.2.2 (lget l (toN v3.2) ([], ([], ([], (0 : Int))))).2.2.2)
                (grd (inb v3.2 (len l))
                  (grd (inb (i : Int) (len l))
                    (cnd (T (lget l (toN v3.2) ([], ([], ([], (0 : Int))))).2.2.2 (lget l (toN (i : Int)) ([], ([], ([], (0 : Int))))).2.2.2)
                      (grd (room (iadd (len v3.1) (len ([v3.2] : List Int))) 8)
                        (v2 (lapp v3.1 ([v3.2] : List Int), w64 (iadd v3.2 (1 : Int)))))
                      (v2 (v3.1, w64 (iadd v3.2 (1 : Int)))))))
                (some v3.1))))
          (some v3.1)) fuelH (([] : List Int), ((i + 1 : Nat) : Int)) = some (chS (dep l[i]) (i + 1) (l.drop (i + 1))) := by
  have h := drop_loop (s := l) (fun (a : List Int) (k : Nat) => (a, (k : Int))) (fun a r => some (a ++ chS (dep l[i]) (l.length - r.length) r)) (fun k a => a.length ≤ k)
    (F := fun v2 (v3 : (List Int) × Int) =>
        cnd (ilt v3.2 (len l))
          (grd (inb v3.2 (len l))
            (grd (inb (i : Int) (len l))
              (cnd (ilt (lget l (toN (i : Int)) ([], ([], ([], (0 : Int))))).2.2.2 (lget l (toN v3.2) ([], ([], ([], (0 : Int))))).2.2.2)
                (grd (inb v3.2 (len l))
                  (grd (inb (i : Int) (len l))
                    (cnd (T (lget l (toN v3.2) ([], ([], ([], (0 : Int))))).2.2.2 (lget l (toN (i : Int)) ([], ([], ([], (0 : Int))))).2.2.2)
                      (grd (room (iadd (len v3.1) (len ([v3.2] : List Int))) 8)
                        (v2 (lapp v3.1 ([v3.2] : List Int), w64 (iadd v3.2 (1 : Int)))))
                      (v2 (v3.1, w64 (iadd v3.2 (1 : Int)))))))
                (some v3.1))))
          (some v3.1)) ?_ fuelH (i + 1) [] (fuelH_len (by omega) _) (by omega) (by simp)
  · refine Eq.trans h ?_
    rw [List.length_drop, show l.length - (l.length - (i + 1)) = i + 1 by omega]
    rfl
  · intro self a k hk hI hself
    by_cases hkl : k < l.length
    · have hw : w64 (iadd (k : Int) 1) = ((k + 1 : Nat) : Int) := w64_succ hkl (by omega)
      have hdi := hd _ (List.getElem_mem hi)
      have hdk := hd _ (List.getElem_mem hkl)
      have hrl : l.length - (l.drop k).length = k := by rw [List.length_drop]; omega
      have hrl2 : l.length - (l.drop (k + 1)).length = k + 1 := by rw [List.length_drop]; omega
      rw [hrl, List.drop_eq_getElem_cons hkl]
      have e : chS (dep l[i]) k (l[k] :: l.drop (k + 1)) = if dep l[i] < dep l[k] then (if dep l[k] = dep l[i] + 1 then (k : Int) :: chS (dep l[i]) (k + 1) (l.drop (k + 1)) else chS (dep l[i]) (k + 1) (l.drop (k + 1))) else [] := rfl
      rw [e]
      show cnd (ilt (k : Int) (len l)) _ _ = _
      rw [cnd_t (ilt_t (by simp only [len]; omega)), grd_t (inb_t (by simp only [len]; omega)), grd_t (inb_t (by simp only [len]; omega)), grd_t (inb_t (by simp only [len]; omega)), grd_t (inb_t (by simp only [len]; omega)), lgetn hi]
      show cnd (ilt (l[i].2.2.2) (lget l (toN (k : Int)) _).2.2.2) _ _ = _
      rw [lgetn hkl]
      show cnd (ilt (dep l[i]) (dep l[k])) (cnd (T (dep l[k]) (dep l[i])) _ _) _ = _
      by_cases h1 : dep l[i] < dep l[k]
      · rw [cnd_t (ilt_t h1), if_pos h1, hT _ _ hdk hdi h1]
        by_cases h2 : dep l[k] = dep l[i] + 1
        · rw [cnd_t (ieq_t h2), if_pos h2, grd_t (room_t (by simp only [len, iadd, List.length_cons, List.length_nil]; omega))]
          show self (lapp a [(k : Int)], w64 (iadd (k : Int) 1)) = _
          rw [hw]
          refine Eq.trans (hself (a ++ [(k : Int)]) (k + 1) (by omega) (by omega) (by simp; omega)) ?_
          rw [hrl2]
          simp
        · rw [cnd_f (ieq_f h2), if_neg h2]
          show self (a, w64 (iadd (k : Int) 1)) = _
          rw [hw]
          refine Eq.trans (hself a (k + 1) (by omega) (by omega) (by omega)) ?_
          rw [hrl2]
      · rw [cnd_f (ilt_f h1), if_neg h1, List.append_nil]
    · obtain rfl : k = l.length := by omega
      show cnd (ilt (l.length : Int) (len l)) _ _ = _
      rw [cnd_f (ilt_f (by simp only [len]; omega)), List.drop_length]
      simp [chS]
theorem kids_eq {l : List Nd} (hl : l.length ≤ 1000000) (hd : ∀ n ∈ l, i64 (dep n)) (i : Int) : xml_Children fuelH (l, i) = some (kids l i) ∧ r20_Children fuelH (l, i) = some (kids l i) := by
  unfold xml_Children r20_Children kids
  have hlen : len l = (l.length : Int) := rfl
  show cnd (ilt i 0) _ (cnd (ile (len l) i) _ _) = _ ∧ cnd (ilt i 0) _ (cnd (ile (len l) i) _ _) = _
  rw [hlen]
  by_cases h0 : i < 0
  · rw [cnd_t (ilt_t h0), cnd_t (ilt_t h0), if_pos (Or.inl h0)]
    exact ⟨rfl, rfl⟩
  rw [cnd_f (ilt_f h0), cnd_f (ilt_f h0)]
  by_cases h1 : (l.length : Int) ≤ i
  · rw [cnd_t (ile_t h1), cnd_t (ile_t h1), if_pos (Or.inr h1)]
    exact ⟨rfl, rfl⟩
  rw [cnd_f (ile_f h1), cnd_f (ile_f h1), if_neg (by omega), jn_e, jn_e]
  obtain ⟨k, rfl⟩ : ∃ k : Nat, i = (k : Int) := ⟨i.toNat, by omega⟩
  have hk : k < l.length := by omega
  have hw : w64 (iadd (k : Int) 1) = ((k + 1 : Nat) : Int) := w64_succ hk (by omega)
  have hg : l.getD k ndz = l[k] := by simp [List.getD, hk]
  rw [Int.toNat_natCast, hg, hw]
  refine ⟨kids_loop hl hd hk (fun a d => ieq a (w64 (iadd d 1))) fun a d ha hd' h => ?_, kids_loop hl hd hk (fun a d => ieq (w64 (isub a 1)) d) fun a d ha hd' h => ?_⟩
  · have h1 := ha.2
    have h2 := hd'.1
    simp only [iadd]
    rw [w64_id (by omega)]
  · have h1 := ha.2
    have h2 := hd'.1
    simp only [isub]
    rw [w64_id (by omega)]
    by_cases e : a = d + 1
    · rw [ieq_t e, ieq_t (by omega)]
    · rw [ieq_f e, ieq_f (by omega)]

def wtA (a : At) : Nat := a.1.length + 1 + (a.2.length + 1)
def wtN (n : Nd) : Nat := n.1.length + 1 + (n.2.1.length + 1 + (bkL wtA n.2.2.1 + 1 + 1))
structure smN (n : Nd) : Prop where
  nm : n.1.length ≤ 1048576
  tx : n.2.1.length ≤ 1048576
  asz : n.2.2.1.length ≤ 1048576
  an : ∀ a ∈ n.2.2.1, a.1.length ≤ 1048576 ∧ a.2.length ≤ 1048576
theorem sm_of {l : List Nd} (h : bkL wtN l ≤ 1048576) : ∀ n ∈ l, smN n := fun n hn => by
  have h1 : n.1.length + 1 + (n.2.1.length + 1 + (bkL wtA n.2.2.1 + 1 + 1)) ≤ bkL wtN l := bk_mem (f := wtN) hn
  have h2 := bk_len (f := wtA) (fun a => by unfold wtA; omega) n.2.2.1
  refine ⟨by omega, by omega, by omega, fun a ha => ?_⟩
  have h3 : a.1.length + 1 + (a.2.length + 1) ≤ bkL wtA n.2.2.1 := bk_mem (f := wtA) ha
  omega
theorem few20 (x : List Nd) : l20_few fuelH x = some (x.take 24) := by
  unfold l20_few
  rw [grd_t (in2_t (by simp only [len, imin]; omega))]
  simp only [ltake, toN, len, imin]
  congr 1
  by_cases h : x.length ≤ 24
  · rw [show (min (x.length : Int) 24).toNat = x.length by omega, List.take_length, List.take_of_length_le h]
  · rw [show (min (x.length : Int) 24).toNat = 24 by omega]
theorem chS_len (d : Int) : ∀ (k : Nat) (r : List Nd), (chS d k r).length ≤ r.length
  | _, [] => Nat.le_refl _
  | k, n :: r => by
    have := chS_len d (k + 1) r
    unfold chS
    split
    · split
      · simp; omega
      · simp; omega
    · simp
end
end Go.Mo
end

section
/-
  Plain facts: the check of nodes.
-/
set_option linter.all false
namespace Go.Mo
open Go Go.W Go.Lib
set_option maxRecDepth 100000
noncomputable section

/-- the first error of attributes behind others -/
def atE : List Ln → List At → Int
  | _, [] => 0
  | seen, a :: r => if nmX a.1 = false then 5 else if a.1 ∈ seen then 7 else if vld a.2 = false then 10 else atE (seen ++ [a.1]) r
def elE (n : Nd) : Int := if nmX n.1 = false then 5 else if n.2.1 ≠ [] then 4 else if 16 < n.2.2.1.length then 9 else atE [] n.2.2.1
def depE (p : Option Nd) (n : Nd) : Int := match p with
  | none => if dep n ≠ 0 then 8 else 0
  | some q => if dep n < 1 then 8 else if (if q.1 ≠ [] then dep q + 1 else dep q) < dep n then 8 else if 15 < dep n then 9 else 0
def txP (p : Option Nd) (n : Nd) : Bool := match p with
  | none => true
  | some q => decide (q.1 = [] ∧ dep q = dep n)
def txE (p : Option Nd) (n : Nd) : Int :=
  if txP p n = true then 8 else if n.2.1 = [] then 4 else if 0 < n.2.2.1.length then 4 else if vld n.2.1 = false then 10 else 0
def ndE (p : Option Nd) (n : Nd) : Int := if depE p n ≠ 0 then depE p n else if n.1 ≠ [] then elE n else txE p n
def ckE : Option Nd → List Nd → Int
  | _, [] => 0
  | p, n :: r => if ndE p n ≠ 0 then ndE p n else ckE (some n) r
/-- the first error of a list of nodes -/
def chkE (l : List Nd) : Int := if l.length = 0 then 6 else if 8192 < l.length then 9 else ckE none l

theorem mget_names {m : List (Ln × Bool)} (h : ∀ x ∈ m, x.2 = true) (k : Ln) : mget seq false m k = decide (k ∈ m.map Prod.fst) := by
  induction m with
  | nil => rfl
  | cons x m ih =>
    have ih := ih fun y hy => h y (List.mem_cons_of_mem _ hy)
    have hx := h x List.mem_cons_self
    unfold mget
    rw [ih, hx, seq_dec]
    by_cases e : k = x.1
    · subst e; simp
    · simp [e]
theorem mput_names {m : List (Ln × Bool)} {k : Ln} (h : k ∉ m.map Prod.fst) : mput seq m k true = m ++ [(k, true)] := by
  induction m with
  | nil => rfl
  | cons x m ih =>
    simp only [List.map_cons, List.mem_cons, not_or] at h
    unfold mput
    have : seq k x.1 = false := by rw [seq_dec]; simpa using h.1
    rw [this, ih h.2]
    rfl
theorem elem_eq {n : Nd} (hs : smN n) : xml_checkElement fuelH n = some (elE n) := by
  unfold xml_checkElement elE
  rw [name_eq, bnd_some']
  by_cases h1 : nmX n.1 = true
  · rw [h1, cnd_f (by rfl), if_neg (by decide)]
    by_cases h2 : n.2.1 = []
    · rw [cnd_f (by unfold sne; simpa using h2), if_neg (by simpa using h2)]
      by_cases h3 : 16 < n.2.2.1.length
      · rw [cnd_t (ilt_t (by simp only [len]; omega)), if_pos h3]
      rw [cnd_f (ilt_f (by simp only [len]; omega)), if_neg h3, jn_e]
      generalize ha : n.2.2.1 = l at *
      have h := drop_loop (s := l) (fun (m : List (Ln × Bool)) (j : Nat) => ((j : Int), m)) (fun m r => some (atE (m.map Prod.fst) r)) (fun _ m => ∀ x ∈ m, x.2 = true)
        (F := fun v3 (v4 : Int × List ((List UInt8) × Bool)) =>
          cnd (ilt v4.1 (len l))
            (grd (inb v4.1 (len l))
              (bnd (xml_Name fuelH (lget l (toN v4.1) ([], [])).1) fun v5 =>
              cnd (bnot v5)
                (some (5 : Int))
                (cnd (mget seq false v4.2 (lget l (toN v4.1) ([], [])).1)
                  (some (7 : Int))
                  (bnd (charset_Valid fuelH (lget l (toN v4.1) ([], [])).2) fun v6 =>
                  cnd (bnot v6)
                    (some (10 : Int))
                    (v3 (w64 (iadd v4.1 (1 : Int)), mput seq v4.2 (lget l (toN v4.1) ([], [])).1 true))))))
            (some (0 : Int))) ?_ fuelH 0 [] (fuelH_len (by omega) _) (Nat.zero_le _) (by simp)
      · exact h
      · intro self m j hj hI hself
        by_cases hjl : j < l.length
        · have hw : w64 (iadd (j : Int) 1) = ((j + 1 : Nat) : Int) := w64_succ hjl (by omega)
          have hsa := hs.an l[j] (by rw [ha]; exact List.getElem_mem hjl)
          rw [List.drop_eq_getElem_cons hjl]
          show cnd (ilt (j : Int) (len l)) _ _ = some (if nmX (l[j]).1 = false then _ else _)
          rw [cnd_t (ilt_t (by simp only [len]; omega)), grd_t (inb_t (by simp only [len]; omega)), lget_i hjl, name_eq, bnd_some', hw]
          by_cases e1 : nmX (l[j]).1 = true
          · rw [e1, cnd_f (by rfl), if_neg (by decide), mget_names hI]
            by_cases e2 : (l[j]).1 ∈ m.map Prod.fst
            · rw [cnd_t (by simpa using e2), if_pos e2]
            · rw [cnd_f (by simpa using e2), if_neg e2, ch_valid _ (by omega), bnd_some']
              by_cases e3 : vld (l[j]).2 = true
              · rw [e3, cnd_f (by rfl), if_neg (by decide), mput_names e2]
                refine Eq.trans (hself (m ++ [((l[j]).1, true)]) (j + 1) (by omega) (by omega) ?_) ?_
                · intro x hx
                  rcases List.mem_append.1 hx with hx | hx
                  · exact hI x hx
                  · simp at hx; rw [hx]
                · simp
              · have e3 : vld (l[j]).2 = false := by simpa using e3
                rw [e3, cnd_t (by rfl), if_pos rfl]
          · have e1 : nmX (l[j]).1 = false := by simpa using e1
            rw [e1, cnd_t (by rfl), if_pos rfl]
        · obtain rfl : j = l.length := by omega
          show cnd (ilt (l.length : Int) (len l)) _ _ = _
          rw [cnd_f (ilt_f (by simp only [len]; omega)), List.drop_length]
          rfl
    · rw [cnd_t (by unfold sne; simpa using h2), if_pos h2]
  · have h1 : nmX n.1 = false := by simpa using h1
    rw [h1, cnd_t (by rfl), if_pos rfl]
/-- the node before a place -/
def prv (l : List Nd) (i : Nat) : Option Nd := if i = 0 then none else l[i - 1]?
theorem prv_succ {l : List Nd} {i : Nat} (hi : i < l.length) : prv l (i + 1) = some l[i] := by
  unfold prv
  rw [if_neg (by omega)]
  simp [hi]
theorem depth_eq {l : List Nd} (hl : l.length ≤ 4000000) {i : Nat} (hi : i < l.length) (hp : ∀ q, prv l i = some q → 0 ≤ dep q ∧ dep q ≤ 15) : xml_checkDepth fuelH (l, (i : Int)) = some (depE (prv l i) l[i]) := by
  unfold xml_checkDepth
  show grd (inb (i : Int) (len l)) (cnd (ieq (i : Int) 0) (cnd (ine (lget l (toN (i : Int)) ([], ([], ([], (0 : Int))))).2.2.2 0) _ _) _) = _
  rw [grd_t (inb_t (by simp only [len]; omega)), lgetn hi]
  by_cases h0 : i = 0
  · subst h0
    rw [cnd_t (by rfl)]
    show cnd (ine (dep l[0]) 0) _ _ = some (if dep l[0] ≠ 0 then (8 : Int) else 0)
    by_cases e : dep l[0] = 0
    · rw [cnd_f (ine_f e), if_neg (by simpa using e)]
    · rw [cnd_t (ine_t e), if_pos e]
  · obtain ⟨k, rfl⟩ : ∃ k, i = k + 1 := ⟨i - 1, by omega⟩
    have hq := hp _ (prv_succ (by omega))
    rw [cnd_f (ieq_f (by omega)), prv_succ (by omega)]
    have hb : w64 (isub ((k + 1 : Nat) : Int) 1) = (k : Int) := w64_back (by omega)
    dsimp only
    have hg : inb (k : Int) (len l) = true := inb_t (by simp only [len]; omega)
    rw [hb, lgetn (show k < l.length by omega), grd_t hg, jn_e, grd_t hg]
    show cnd (sne l[k].1 []) (cnd (ilt (dep l[k + 1]) 1) (some 8) (cnd (ilt (w64 (iadd (dep l[k]) 1)) (dep l[k + 1])) (some 8) (cnd (ilt 15 (dep l[k + 1])) (some 9) (some 0)))) (cnd (ilt (dep l[k + 1]) 1) (some 8) (cnd (ilt (dep l[k]) (dep l[k + 1])) (some 8) (cnd (ilt 15 (dep l[k + 1])) (some 9) (some 0)))) =
      some (if dep l[k + 1] < 1 then (8 : Int) else if (if l[k].1 ≠ [] then dep l[k] + 1 else dep l[k]) < dep l[k + 1] then 8 else if 15 < dep l[k + 1] then 9 else 0)
    have hw : w64 (iadd (dep l[k]) 1) = dep l[k] + 1 := by
      simp only [iadd]
      rw [w64_id (by omega)]
    rw [hw]
    simp only [cnd_ilt]
    by_cases e : l[k].1 = []
    · rw [cnd_f (by unfold sne; simpa using e)]
      simp only [e, ne_eq, not_true, if_false]
      repeat' split
      all_goals rfl
    · rw [cnd_t (by unfold sne; simpa using e)]
      simp only [e, ne_eq, not_false_eq_true, if_true]
      repeat' split
      all_goals rfl
theorem text_eq {l : List Nd} (hl : l.length ≤ 4000000) {i : Nat} (hi : i < l.length) (hs : smN l[i]) : xml_checkText fuelH (l, (i : Int)) = some (txE (prv l i) l[i]) := by
  have fin : ∀ b : Bool, (cnd b (some (8 : Int)) (cnd (seq l[i].2.1 []) (some (4 : Int)) (cnd (ilt 0 (len l[i].2.2.1)) (some (4 : Int)) (bnd (charset_Valid fuelH l[i].2.1) fun v1 => cnd (bnot v1) (some (10 : Int)) (some (0 : Int)))))) =
      some (if b = true then 8 else if l[i].2.1 = [] then 4 else if 0 < l[i].2.2.1.length then 4 else if vld l[i].2.1 = false then 10 else 0) := fun b => by
    cases b with
    | true => rfl
    | false =>
      rw [cnd_f (by rfl), if_neg (by decide)]
      by_cases h1 : l[i].2.1 = []
      · rw [cnd_t (by rw [seq_t]; exact h1), if_pos h1]
      rw [cnd_f (by rw [seq_dec]; simpa using h1), if_neg h1]
      by_cases h2 : 0 < l[i].2.2.1.length
      · rw [cnd_t (ilt_t (by simp only [len]; omega)), if_pos h2]
      rw [cnd_f (ilt_f (by simp only [len]; omega)), if_neg h2, ch_valid _ (by have := hs.tx; omega), bnd_some']
      cases vld l[i].2.1 <;> rfl
  unfold xml_checkText
  dsimp only
  rw [grd_t (inb_t (by simp only [len]; omega)), jn_e]
  simp only [lgetn hi]
  by_cases h0 : i = 0
  · subst h0
    rw [cnd_t (by rfl)]
    refine Eq.trans (fin true) ?_
    rfl
  · obtain ⟨k, rfl⟩ : ∃ k, i = k + 1 := ⟨i - 1, by omega⟩
    have hb : w64 (isub ((k + 1 : Nat) : Int) 1) = (k : Int) := w64_back (by omega)
    have hg : inb (k : Int) (len l) = true := inb_t (by simp only [len]; omega)
    rw [cnd_f (ieq_f (by omega)), prv_succ (by omega), hb, grd_t hg, grd_t hg, lgetn (show k < l.length by omega)]
    unfold txE
    by_cases e : l[k].1 = []
    · rw [cnd_t (by rw [seq_t]; exact e)]
      refine Eq.trans (fin _) ?_
      have hc : ieq l[k].2.2.2 l[k + 1].2.2.2 = txP (some l[k]) l[k + 1] := by
        unfold txP
        rw [Bool.eq_iff_iff, ieq_tt, decide_eq_true_eq]
        exact ⟨fun h => ⟨e, h⟩, fun h => h.2⟩
      rw [hc]
    · rw [cnd_f (by rw [seq_dec]; simpa using e)]
      refine Eq.trans (fin _) ?_
      have hc : txP (some l[k]) l[k + 1] = false := by
        unfold txP
        exact decide_eq_false fun h => e h.1
      rw [hc]
theorem depE_ok {p : Option Nd} {n : Nd} (h : depE p n = 0) : 0 ≤ dep n ∧ dep n ≤ 15 := by
  unfold depE at h
  cases p with
  | none =>
    simp only at h
    split at h
    · cases h
    · rename_i k; simp at k; omega
  | some q =>
    simp only at h
    repeat' split at h
    all_goals (first | (cases h; done) | omega)
theorem ndE_dep {p : Option Nd} {n : Nd} (h : ndE p n = 0) : depE p n = 0 := by
  unfold ndE at h
  by_cases e : depE p n = 0
  · exact e
  · rw [if_pos e] at h
    exact h
theorem check_eq {l : List Nd} (hl : l.length ≤ 4000000) (hs : ∀ n ∈ l, smN n) : xml_Check fuelH l = some (chkE l) := by
  unfold xml_Check chkE
  by_cases h0 : l.length = 0
  · rw [cnd_t (ieq_t (by simp only [len]; omega)), if_pos h0]
  rw [cnd_f (ieq_f (by simp only [len]; omega)), if_neg h0]
  by_cases h1 : 8192 < l.length
  · rw [cnd_t (ilt_t (by simp only [len]; omega)), if_pos h1]
  rw [cnd_f (ilt_f (by simp only [len]; omega)), if_neg h1, jn_e]
  have h := drop_loop (s := l) (fun (_ : Unit) (j : Nat) => (j : Int)) (fun _ r => some (ckE (prv l (l.length - r.length)) r)) (fun j _ => ∀ q, prv l j = some q → 0 ≤ dep q ∧ dep q ≤ 15)
    (F := fun v2 (v3 : Int) =>
        cnd (ilt v3 (len l))
          (grd (inb v3 (len l))
            (bnd (xml_checkDepth fuelH (l, v3)) fun v4 =>
            cnd (ine v4 (0 : Int))
              (some v4)
              (cnd (sne (lget l (toN v3) ([], ([], ([], (0 : Int))))).1 ([] : List UInt8))
                (bnd (xml_checkElement fuelH (lget l (toN v3) ([], ([], ([], (0 : Int)))))) fun v5 =>
                cnd (ine v5 (0 : Int))
                  (some v5)
                  (v2 (w64 (iadd v3 (1 : Int)))))
                (bnd (xml_checkText fuelH (l, v3)) fun v6 =>
                cnd (ine v6 (0 : Int))
                  (some v6)
                  (v2 (w64 (iadd v3 (1 : Int))))))))
          (some (0 : Int))) ?_ fuelH 0 () (fuelH_len hl _) (Nat.zero_le _) (fun q hq => by simp [prv] at hq)
  · refine Eq.trans h ?_
    rw [List.drop_zero, Nat.sub_self]
    rfl
  · intro self a j hj hI hself
    by_cases hjl : j < l.length
    · have hw : w64 (iadd (j : Int) 1) = ((j + 1 : Nat) : Int) := w64_succ hjl (by omega)
      have hrl : l.length - (l.drop j).length = j := by rw [List.length_drop]; omega
      have hrl2 : l.length - (l.drop (j + 1)).length = j + 1 := by rw [List.length_drop]; omega
      have hsm := hs _ (List.getElem_mem hjl)
      have hgo : depE (prv l j) l[j] = 0 → self ((j + 1 : Nat) : Int) = some (ckE (some l[j]) (l.drop (j + 1))) := fun hd => by
        refine Eq.trans (hself () (j + 1) (by omega) (by omega) (fun q hq => ?_)) ?_
        · rw [prv_succ hjl] at hq
          injection hq with hq
          rw [← hq]
          exact depE_ok hd
        · rw [hrl2, prv_succ hjl]
      rw [hrl, List.drop_eq_getElem_cons hjl]
      show cnd (ilt (j : Int) (len l)) _ _ = some (if ndE (prv l j) l[j] ≠ 0 then ndE (prv l j) l[j] else ckE (some l[j]) (l.drop (j + 1)))
      rw [cnd_t (ilt_t (by simp only [len]; omega)), grd_t (inb_t (by simp only [len]; omega)), depth_eq hl hjl hI, bnd_some', lgetn hjl, elem_eq hsm, text_eq hl hjl hsm, bnd_some', bnd_some', hw]
      unfold ndE
      by_cases e1 : depE (prv l j) l[j] = 0
      · rw [cnd_f (ine_f e1), if_neg (show ¬ depE (prv l j) l[j] ≠ 0 from fun k => k e1)]
        by_cases e2 : l[j].1 = []
        · rw [cnd_f (by unfold sne; simpa using e2), if_neg (show ¬ l[j].1 ≠ [] from fun k => k e2)]
          by_cases e3 : txE (prv l j) l[j] = 0
          · rw [cnd_f (ine_f e3), if_neg (fun k => k e3)]
            exact hgo e1
          · rw [cnd_t (ine_t e3), if_pos e3]
        · rw [cnd_t (by unfold sne; simpa using e2), if_pos e2]
          by_cases e3 : elE l[j] = 0
          · rw [cnd_f (ine_f e3), if_neg (fun k => k e3)]
            exact hgo e1
          · rw [cnd_t (ine_t e3), if_pos e3]
      · rw [cnd_t (ine_t e1), if_pos e1, if_pos e1]
    · obtain rfl : j = l.length := by omega
      show cnd (ilt (l.length : Int) (len l)) _ _ = _
      rw [cnd_f (ilt_f (by simp only [len]; omega)), List.drop_length]
      rfl
end
end Go.Mo
end

section
/-
  Plain facts: each node but the root is the child of one element; XmlCovers returns true.
-/
set_option linter.all false
namespace Go.Mo
open Go Go.W Go.Lib
set_option maxRecDepth 100000
noncomputable section
open Classical

theorem ck_at : ∀ (r : List Nd) (p : Option Nd), ckE p r = 0 → ∀ j (h : j < r.length), ndE (if j = 0 then p else r[j - 1]?) r[j] = 0
  | [], _, _, j, h => by simp at h
  | n :: r, p, hc, j, h => by
    have hc' : (if ndE p n ≠ 0 then ndE p n else ckE (some n) r) = 0 := hc
    by_cases e : ndE p n = 0
    · rw [if_neg (fun k => k e)] at hc'
      cases j with
      | zero => exact e
      | succ j =>
        have := ck_at r (some n) hc' j (by simpa using h)
        rw [if_neg (by omega)]
        cases j with
        | zero => simpa using this
        | succ j => simpa using this
    · rw [if_pos e] at hc'
      exact absurd hc' e
theorem chk_at {l : List Nd} (h : chkE l = 0) : 0 < l.length ∧ l.length ≤ 8192 ∧ ∀ j (h : j < l.length), ndE (prv l j) l[j] = 0 := by
  unfold chkE at h
  by_cases h0 : l.length = 0
  · rw [if_pos h0] at h; cases h
  rw [if_neg h0] at h
  by_cases h1 : 8192 < l.length
  · rw [if_pos h1] at h; cases h
  rw [if_neg h1] at h
  exact ⟨by omega, by omega, fun j hj => ck_at l none h j hj⟩
/-- how deep nodes lie -/
structure Deep (l : List Nd) : Prop where
  root : ∀ h : 0 < l.length, dep l[0] = 0
  low : ∀ i (h : i + 1 < l.length), 1 ≤ dep l[i + 1] ∧ dep l[i + 1] ≤ dep l[i] + 1 ∧ (dep l[i] < dep l[i + 1] → l[i].1 ≠ [])
  high : ∀ i (h : i < l.length), 0 ≤ dep l[i] ∧ dep l[i] ≤ 15
theorem deep_of {l : List Nd} (h : ∀ j (h : j < l.length), ndE (prv l j) l[j] = 0) : Deep l := by
  refine ⟨fun h0 => ?_, fun i hi => ?_, fun i hi => depE_ok (ndE_dep (h i hi))⟩
  · have := ndE_dep (h 0 h0)
    have : (if dep l[0] ≠ 0 then (8 : Int) else 0) = 0 := this
    by_cases e : dep l[0] = 0
    · exact e
    · rw [if_pos e] at this; cases this
  · have := ndE_dep (h (i + 1) hi)
    rw [prv_succ (by omega)] at this
    have : (if dep l[i + 1] < 1 then (8 : Int) else if (if l[i].1 ≠ [] then dep l[i] + 1 else dep l[i]) < dep l[i + 1] then 8 else if 15 < dep l[i + 1] then 9 else 0) = 0 := this
    by_cases e1 : dep l[i + 1] < 1
    · rw [if_pos e1] at this; cases this
    rw [if_neg e1] at this
    by_cases e2 : (if l[i].1 ≠ [] then dep l[i] + 1 else dep l[i]) < dep l[i + 1]
    · rw [if_pos e2] at this; cases this
    by_cases e3 : l[i].1 = []
    · rw [if_neg (fun k => k e3)] at e2
      exact ⟨by omega, by omega, fun k => by omega⟩
    · rw [if_pos e3] at e2
      exact ⟨by omega, by omega, fun _ => e3⟩
end
end Go.Mo
end

section
/-
  Plain facts: tokens of a source.
-/
set_option linter.all false
namespace Go.Mo
open Go Go.W Go.Lib
set_option maxRecDepth 100000
noncomputable section

abbrev Ls := List UInt8
abbrev Aq := List UInt8 × List UInt8
abbrev Tok := Int × List UInt8 × List Aq × List UInt8

end
end Go.Mo
end

section
/-
  Plain facts: the token at the beginning of a source.
-/
set_option linter.all false
namespace Go.Mo
open Go Go.W Go.Lib
set_option maxRecDepth 100000
noncomputable section

end
end Go.Mo
end

section
/-
  Plain facts: the parser takes a token.
-/
set_option linter.all false
namespace Go.Mo
open Go Go.W Go.Lib
set_option maxRecDepth 100000
noncomputable section

abbrev Ps := List Nd × List Ls × Bool
theorem last_of {α : Type} {l : List α} (h : l ≠ []) : ∃ n, l.getLast? = some n ∧ l = l.dropLast ++ [n] ∧ ∃ hl : l.length - 1 < l.length, l[l.length - 1] = n := by
  rcases List.eq_nil_or_concat l with e | ⟨m, n, rfl⟩
  · exact absurd e h
  · refine ⟨n, by simp, by simp, by simp, by simp⟩
end
end Go.Mo
end

section
/-
  Plain facts: start tags, tokens taken, the tree of a source.
-/
set_option linter.all false
namespace Go.Mo
open Go Go.W Go.Lib
set_option maxRecDepth 100000
noncomputable section

theorem dup_loop {R : Type} {l : List At} (hl : l.length ≤ 400000) (name : Ls) (bad : Option R) (K : Option R) :
    fixN (fun v12 (v13 : Int) =>
              cnd (ilt v13 (len l))
                (grd (inb v13 (len l))
                  (cnd (seq (lget l (toN v13) ([], [])).1 name)
                    bad
                    (v12 (w64 (iadd v13 (1 : Int))))))
                K) fuelH (0 : Int) = if name ∈ l.map Prod.fst then bad else K := by
  have h := drop_loop (s := l) (fun (_ : Unit) (j : Nat) => (j : Int)) (fun _ r => if name ∈ r.map Prod.fst then bad else K) (fun _ _ => True)
    (F := fun v12 (v13 : Int) =>
              cnd (ilt v13 (len l))
                (grd (inb v13 (len l))
                  (cnd (seq (lget l (toN v13) ([], [])).1 name)
                    bad
                    (v12 (w64 (iadd v13 (1 : Int))))))
                K) ?_ fuelH 0 () (fuelH_len (by omega) _) (Nat.zero_le _) trivial
  · exact h
  · intro self a j hj _ hself
    by_cases hjl : j < l.length
    · have hw : w64 (iadd (j : Int) 1) = ((j + 1 : Nat) : Int) := w64_succ hjl (by omega)
      rw [cnd_t (ilt_t (by simp only [len]; omega)), grd_t (inb_t (by simp only [len]; omega)), lget_i hjl, hw, List.drop_eq_getElem_cons hjl, List.map_cons]
      by_cases e : (l[j]).1 = name
      · rw [cnd_t (by rw [seq_t]; exact e), if_pos (by rw [e]; exact List.mem_cons_self)]
      · rw [cnd_f (by rw [seq_dec]; simpa using e)]
        refine Eq.trans (hself () (j + 1) (by omega) (by omega) trivial) ?_
        have : (name ∈ (l[j]).1 :: (l.drop (j + 1)).map Prod.fst) ↔ (name ∈ (l.drop (j + 1)).map Prod.fst) := by
          rw [List.mem_cons]
          exact ⟨fun k => k.resolve_left (fun q => e q.symm), .inr⟩
        simp only [this]
    · obtain rfl : j = l.length := by omega
      rw [cnd_f (ilt_f (by simp only [len]; omega)), List.drop_length]
      rfl
end
end Go.Mo
end

section
/-
  Plain facts: the tree of a source.
-/
set_option linter.all false
namespace Go.Mo
open Go Go.W Go.Lib
set_option maxRecDepth 100000
noncomputable section

structure TokOk (n : Nat) (t : Tok) : Prop where
  tx : t.2.2.2.length ≤ n
  al : t.2.2.1.length ≤ n
  av : ∀ a ∈ t.2.2.1, a.2.length ≤ n
/-- what stays true of the parser behind so many bytes -/
structure PsOk (i : Nat) (p : Ps) : Prop where
  jn : p.2.2 = true → p.1 ≠ []
  nl : p.1.length ≤ i
  sl : p.2.1.length ≤ i
  tx : ∀ n ∈ p.1, n.2.1.length ≤ 4 * i
end
end Go.Mo
end

section
/-
  Plain facts: printed pieces are read back.
-/
set_option linter.all false
namespace Go.Mo
open Go Go.W Go.Lib
set_option maxRecDepth 100000
noncomputable section

/-- attributes as they are printed -/
def atT (l : List At) : Ls := l.flatMap fun a => 32 :: (a.1 ++ (61 :: 34 :: (esc a.2 ++ [34])))
theorem atT_cons (a : At) (l : List At) (rest : Ls) : atT (a :: l) ++ rest = 32 :: (a.1 ++ 61 :: (34 :: (esc a.2 ++ 34 :: (atT l ++ rest)))) := by
  unfold atT
  rw [List.flatMap_cons]
  simp
structure AtOk (l : List At) : Prop where
  nm : ∀ a ∈ l, nmX a.1 = true
  vl : ∀ a ∈ l, vld a.2 = true
  nd : (l.map Prod.fst).Nodup
  few : l.length ≤ 16
end
end Go.Mo
end

section
/-
  Plain facts: the text of nodes.
-/
set_option linter.all false
namespace Go.Mo
open Go Go.W Go.Lib
set_option maxRecDepth 100000
noncomputable section

def clT (name : Ls) : Ls := 60 :: 47 :: (name ++ [62])
def cls (st : List Ls) : Ls := st.reverse.flatMap clT
/-- whether the next node is a child -/
def kid (n : Nd) : List Nd → Bool
  | [] => false
  | m :: _ => decide (dep n < dep m)
/-- the text of nodes, elements being open -/
def prT : List Ls → List Nd → Ls
  | st, [] => cls st
  | st, n :: r => cls (st.drop (dep n).toNat) ++ (if n.1 = [] then esc n.2.1 ++ prT (st.take (dep n).toNat) r
      else 60 :: (n.1 ++ (atT n.2.2.1 ++ (if kid n r = true then 62 :: prT (st.take (dep n).toNat ++ [n.1]) r else 47 :: 62 :: prT (st.take (dep n).toNat) r))))
def printP (l : List Nd) : Ls × Int := if chkE l ≠ 0 then ([], chkE l) else if 262144 < (prT [] l).length then ([], 9) else (prT [] l, 0)

theorem cls_app (a b : List Ls) : cls (a ++ b) = cls b ++ cls a := by unfold cls; rw [List.reverse_append, List.flatMap_append]
theorem cls_one (n : Ls) : cls [n] = clT n := by unfold cls; simp
theorem cls_nil : cls [] = [] := rfl
theorem cls_split (st : List Ls) (d : Nat) : cls st = cls (st.drop d) ++ cls (st.take d) := by
  rw [← cls_app, List.take_append_drop]
theorem atT_len (l : List At) : (atT l).length ≤ 6 * bkL wtA l := by
  induction l with
  | nil => simp [atT]
  | cons a l ih =>
    have h := atT_cons a l []
    rw [List.append_nil, List.append_nil] at h
    have he := esc_len a.2
    have hb : bkL wtA (a :: l) = a.1.length + 1 + (a.2.length + 1) + bkL wtA l := rfl
    rw [h, hb]
    simp only [List.length_cons, List.length_append]
    omega
theorem prT_len : ∀ (l : List Nd) (st : List Ls), (prT st l).length ≤ (cls st).length + 7 * bkL wtN l
  | [], st => by unfold prT; omega
  | n :: r, st => by
    have hc := congrArg List.length (cls_split st (dep n).toNat)
    rw [List.length_append] at hc
    have i1 := prT_len r (st.take (dep n).toNat)
    have i2 := prT_len r (st.take (dep n).toNat ++ [n.1])
    have h2 : (cls (st.take (dep n).toNat ++ [n.1])).length = n.1.length + 3 + (cls (st.take (dep n).toNat)).length := by
      rw [cls_app, cls_one, List.length_append]
      unfold clT
      simp
    have he := esc_len n.2.1
    have ha := atT_len n.2.2.1
    have hb : bkL wtN (n :: r) = n.1.length + 1 + (n.2.1.length + 1 + (bkL wtA n.2.2.1 + 1 + 1)) + bkL wtN r := rfl
    unfold prT
    rw [hb]
    split
    · rw [List.length_append, List.length_append]
      omega
    · rw [List.length_append, List.length_cons, List.length_append, List.length_append]
      split
      · rw [List.length_cons]
        omega
      · rw [List.length_cons, List.length_cons]
        omega
theorem pop_take {st : List Ls} (h : st ≠ []) : cutl st 0 (toN ((st.length - 1 : Nat) : Int)) = st.dropLast := by
  simp only [cutl, toN, Int.toNat_natCast, List.drop_zero]
  rw [List.dropLast_eq_take]
/-- end tags are written while more elements are open than the depth -/
theorem pop_loop {R : Type} {d : Int} (hd : 0 ≤ d) (K : List Ls × Unit × Ls → Option R) : ∀ (fuel : Nat) (st : List Ls) (a : Ls), st.length < fuel → st.length ≤ 300000 → a.length + (cls (st.drop d.toNat)).length ≤ 100000000 →
    fixN (fun v27 (v28 : (List (List UInt8)) × Unit × List UInt8) =>
          cnd (ilt d (len v28.1))
            (grd (inb (w64 (isub (len v28.1) (1 : Int))) (len v28.1))
              (grd (catOk (iadd (len ([60, 47] : List UInt8)) (len (lget v28.1 (toN (w64 (isub (len v28.1) (1 : Int)))) []))))
                (grd (catOk (iadd (len (lapp ([60, 47] : List UInt8) (lget v28.1 (toN (w64 (isub (len v28.1) (1 : Int)))) []))) (len ([62] : List UInt8))))
                  (bnd (strings_Builder_WriteString fuelH (((), v28.2.2), lapp (lapp ([60, 47] : List UInt8) (lget v28.1 (toN (w64 (isub (len v28.1) (1 : Int)))) [])) ([62] : List UInt8))) fun v29 =>
                  grd (in2 (w64 (isub (len v28.1) (1 : Int))) (ofN (nlen v28.1))) <|
                  v27 (cutl v28.1 0 (toN (w64 (isub (len v28.1) (1 : Int)))), (), v29.2.2.2)))))
            (K v28)) fuel (st, (), a) = K (st.take d.toNat, (), a ++ cls (st.drop d.toNat))
  | 0, _, _, h, _, _ => by omega
  | fuel + 1, st, a, h, hl, hb => by
    rw [fixN_s]
    dsimp only
    by_cases e : d.toNat < st.length
    · have hne : st ≠ [] := fun k => by rw [k] at e; simp at e
      obtain ⟨n, q1, q2, q3, q4⟩ := last_of hne
      have hp : 0 < st.length := List.length_pos_iff.2 hne
      have hw : w64 (isub (len st) 1) = ((st.length - 1 : Nat) : Int) := w64_pred hp (by omega)
      have hg : lget st (toN ((st.length - 1 : Nat) : Int)) [] = n := by rw [lget_i q3, q4]
      have hdl : st.dropLast.length = st.length - 1 := List.length_dropLast
      have hc : cls (st.drop d.toNat) = clT n ++ cls (st.dropLast.drop d.toNat) := by
        conv => lhs; rw [q2]
        rw [List.drop_append_of_le_length (by omega), cls_app, cls_one]
      have hcl := congrArg List.length hc
      rw [List.length_append] at hcl
      have hT : lapp (lapp ([60, 47] : List UInt8) n) ([62] : List UInt8) = clT n := by unfold clT; simp [lapp]
      have hTl : (clT n).length = n.length + 3 := by unfold clT; simp
      rw [cnd_t (ilt_t (by simp only [len]; omega)), hw, hg, grd_t (inb_t (by simp only [len]; omega)), grd_t (catOk_t (by simp only [len, iadd, List.length_cons, List.length_nil]; omega)), grd_t (catOk_t (by simp only [len, iadd, lapp, List.length_append, List.length_cons, List.length_nil]; omega)), hT, wstr_eq _ _ (by show a.length + _ ≤ _; omega), bnd_some', grd_t (in2_t (by simp only [ofN, nlen]; omega)), pop_take hne]
      refine Eq.trans (pop_loop hd K fuel st.dropLast (a ++ clT n) (by omega) (by omega) (by rw [List.length_append]; omega)) ?_
      have ht : st.dropLast.take d.toNat = st.take d.toNat := by
        conv => rhs; rw [q2]
        rw [List.take_append_of_le_length (by omega)]
      rw [ht, hc, List.append_assoc]
    · rw [cnd_f (ilt_f (by simp only [len]; omega)), List.take_of_length_le (by omega), List.drop_of_length_le (by omega), cls_nil, List.append_nil]
/-- all that are open are ended -/
theorem end_loop {R : Type} {st : List Ls} (hl : st.length ≤ 300000) (K : Int × Unit × Ls → Option R) : ∀ (fuel k : Nat) (a : Ls), k < fuel → k ≤ st.length → a.length + (cls (st.take k)).length ≤ 100000000 →
    fixN (fun v5 (v6 : Int × Unit × List UInt8) =>
        cnd (ile (0 : Int) v6.1)
          (grd (inb v6.1 (len st))
            (grd (catOk (iadd (len ([60, 47] : List UInt8)) (len (lget st (toN v6.1) []))))
              (grd (catOk (iadd (len (lapp ([60, 47] : List UInt8) (lget st (toN v6.1) []))) (len ([62] : List UInt8))))
                (bnd (strings_Builder_WriteString fuelH (((), v6.2.2), lapp (lapp ([60, 47] : List UInt8) (lget st (toN v6.1) [])) ([62] : List UInt8))) fun v7 =>
                v5 (w64 (isub v6.1 (1 : Int)), (), v7.2.2.2)))))
          (K v6)) fuel ((k : Int) - 1, (), a) = K (-1, (), a ++ cls (st.take k))
  | 0, _, _, h, _, _ => by omega
  | fuel + 1, k, a, h, hk, hb => by
    rw [fixN_s]
    dsimp only
    cases k with
    | zero =>
      rw [cnd_f (ile_f (by omega)), List.take_zero, cls_nil, List.append_nil]
      rfl
    | succ k =>
      have hkl : k < st.length := by omega
      have e0 : ((k + 1 : Nat) : Int) - 1 = (k : Int) := by omega
      have e1 : w64 (isub (k : Int) 1) = (k : Int) - 1 := by
        simp only [isub]
        rw [w64_id (by omega)]
      have hc : cls (st.take (k + 1)) = clT st[k] ++ cls (st.take k) := by rw [List.take_succ_eq_append_getElem hkl, cls_app, cls_one]
      have hcl := congrArg List.length hc
      rw [List.length_append] at hcl
      have hT : lapp (lapp ([60, 47] : List UInt8) st[k]) ([62] : List UInt8) = clT st[k] := by unfold clT; simp [lapp]
      have hTl : (clT st[k]).length = st[k].length + 3 := by unfold clT; simp
      rw [e0, cnd_t (ile_t (by omega)), grd_t (inb_t (by simp only [len]; omega)), lget_i hkl, grd_t (catOk_t (by simp only [len, iadd, List.length_cons, List.length_nil]; omega)), grd_t (catOk_t (by simp only [len, iadd, lapp, List.length_append, List.length_cons, List.length_nil]; omega)), hT, wstr_eq _ _ (by show a.length + _ ≤ _; omega), bnd_some', e1]
      refine Eq.trans (end_loop hl K fuel k (a ++ clT st[k]) (by omega) (by omega) (by rw [List.length_append]; omega)) ?_
      rw [hc, List.append_assoc]
theorem attrs_loop {R : Type} {l : List At} (hl : l.length ≤ 1100000) (hv : ∀ a ∈ l, a.1.length ≤ 1048576 ∧ a.2.length ≤ 1048576) (K : Int × Unit × Ls → Option R) (a0 : Ls) (hb : a0.length + (atT l).length ≤ 100000000) :
    fixN (fun v22 (v23 : Int × Unit × List UInt8) =>
                cnd (ilt v23.1 (len l))
                  (grd (inb v23.1 (len l))
                    (grd (catOk (iadd (len ([32] : List UInt8)) (len (lget l (toN v23.1) ([], [])).1)))
                      (grd (catOk (iadd (len (lapp ([32] : List UInt8) (lget l (toN v23.1) ([], [])).1)) (len ([61, 34] : List UInt8))))
                        (bnd (xml_Escape fuelH (lget l (toN v23.1) ([], [])).2) fun v24 =>
                        grd (catOk (iadd (len (lapp (lapp ([32] : List UInt8) (lget l (toN v23.1) ([], [])).1) ([61, 34] : List UInt8))) (len v24))) <|
                        grd (catOk (iadd (len (lapp (lapp (lapp ([32] : List UInt8) (lget l (toN v23.1) ([], [])).1) ([61, 34] : List UInt8)) v24)) (len ([34] : List UInt8)))) <|
                        bnd (strings_Builder_WriteString fuelH (((), v23.2.2), lapp (lapp (lapp (lapp ([32] : List UInt8) (lget l (toN v23.1) ([], [])).1) ([61, 34] : List UInt8)) v24) ([34] : List UInt8))) fun v25 =>
                        v22 (w64 (iadd v23.1 (1 : Int)), (), v25.2.2.2)))))
                  (K v23)) fuelH ((0 : Int), (), a0) = K ((l.length : Int), (), a0 ++ atT l) := by
  refine drop_loop (s := l) (fun (a : Ls) (j : Nat) => ((j : Int), ((), a))) (fun a r => K ((l.length : Int), ((), a ++ atT r))) (fun j a => a.length + (atT (l.drop j)).length ≤ 100000000) ?_ fuelH 0 a0 (fuelH_len (by omega) _) (Nat.zero_le _) hb
  intro self a j hj hI hself
  dsimp only
  by_cases hjl : j < l.length
  · have hw : w64 (iadd (j : Int) 1) = ((j + 1 : Nat) : Int) := w64_succ hjl (by omega)
    have hva := hv _ (List.getElem_mem hjl)
    have hel := esc_len (l[j]).2
    have hT : lapp (lapp (lapp (lapp ([32] : List UInt8) (l[j]).1) ([61, 34] : List UInt8)) (esc (l[j]).2)) ([34] : List UInt8) = 32 :: ((l[j]).1 ++ (61 :: 34 :: (esc (l[j]).2 ++ [34]))) := by simp [lapp]
    have hc : atT (l.drop j) = (32 :: ((l[j]).1 ++ (61 :: 34 :: (esc (l[j]).2 ++ [34])))) ++ atT (l.drop (j + 1)) := by
      rw [List.drop_eq_getElem_cons hjl]
      unfold atT
      rw [List.flatMap_cons]
    have hcl := congrArg List.length hc
    rw [List.length_append] at hcl
    rw [cnd_t (ilt_t (by simp only [len]; omega)), grd_t (inb_t (by simp only [len]; omega)), lget_i hjl, grd_t (catOk_t (by simp only [len, iadd, List.length_cons, List.length_nil]; omega)), grd_t (catOk_t (by simp only [len, iadd, lapp, List.length_append, List.length_cons, List.length_nil]; omega)), esc_eq (by omega), bnd_some', grd_t (catOk_t (by simp only [len, iadd, lapp, List.length_append, List.length_cons, List.length_nil]; omega)), grd_t (catOk_t (by simp only [len, iadd, lapp, List.length_append, List.length_cons, List.length_nil]; omega)), hT, wstr_eq _ _ (by show a.length + _ ≤ _; omega), bnd_some', hw]
    refine Eq.trans (hself (a ++ (32 :: ((l[j]).1 ++ (61 :: 34 :: (esc (l[j]).2 ++ [34]))))) (j + 1) (by omega) (by omega) (by rw [List.length_append]; omega)) ?_
    rw [hc, List.append_assoc]
  · obtain rfl : j = l.length := by omega
    rw [cnd_f (ilt_f (by simp only [len]; omega)), List.drop_length]
    have : a ++ atT [] = a := by simp [atT]
    rw [this]

def finP (s : Ls) : Option (Ls × Int) := some (if 262144 < s.length then ([], 9) else (s, 0))
theorem print_eq {l : List Nd} (hs : bkL wtN l ≤ 1048576) : xml_Print fuelH l = some (printP l) := by
  have hsm := sm_of hs
  have hll : l.length ≤ 1048576 := Nat.le_trans (bk_len (f := wtN) (fun n => by unfold wtN; omega) l) hs
  unfold xml_Print printP
  rw [check_eq (by omega) hsm, bnd_some']
  by_cases hc : chkE l = 0
  · obtain ⟨h0, h8, hat⟩ := chk_at hc
    have hd := deep_of hat
    have htot := prT_len l []
    have hc0 : (cls []).length = 0 := rfl
    rw [cnd_f (ine_f hc), if_neg (fun k => k hc), jn_e]
    have hfin : ∀ s : Ls, finP s = some (if 262144 < s.length then ([], 9) else (s, 0)) := fun _ => rfl
    have hgoal : (some (if 262144 < (prT [] l).length then (([] : Ls), (9 : Int)) else (prT [] l, 0))) = finP ([] ++ prT [] l) := rfl
    rw [hgoal]
    refine drop_loop (s := l) (fun (p : List Ls × Ls) (i : Nat) => (p.1, ((i : Int), ((), p.2)))) (fun p r => finP (p.2 ++ prT p.1 r)) (fun i p => p.1.length ≤ i ∧ p.2.length + (prT p.1 (l.drop i)).length ≤ 100000000) ?_ fuelH 0 ([], []) (fuelH_len (by omega) _) (Nat.zero_le _) ⟨Nat.zero_le _, by rw [List.drop_zero]; simp; omega⟩
    intro self p i hi hI hself
    obtain ⟨st, a⟩ := p
    dsimp only at hI ⊢
    by_cases hil : i < l.length
    · have hw : w64 (iadd (i : Int) 1) = ((i + 1 : Nat) : Int) := w64_succ hil (by omega)
      have hin : inb (i : Int) (len l) = true := inb_t (by simp only [len]; omega)
      have hn := hsm _ (List.getElem_mem hil)
      have hdi : 0 ≤ (l[i]).2.2.2 ∧ (l[i]).2.2.2 ≤ 15 := hd.high i hil
      have hb := hI.2
      rw [List.drop_eq_getElem_cons hil] at hb ⊢
      have hpr : prT st (l[i] :: l.drop (i + 1)) = cls (st.drop (dep l[i]).toNat) ++ (if (l[i]).1 = [] then esc (l[i]).2.1 ++ prT (st.take (dep l[i]).toNat) (l.drop (i + 1))
      else 60 :: ((l[i]).1 ++ (atT (l[i]).2.2.1 ++ (if kid l[i] (l.drop (i + 1)) = true then 62 :: prT (st.take (dep l[i]).toNat ++ [(l[i]).1]) (l.drop (i + 1)) else 47 :: 62 :: prT (st.take (dep l[i]).toNat) (l.drop (i + 1)))))) := rfl
      have hbl := hb
      rw [hpr, List.length_append] at hbl
      rw [cnd_t (ilt_t (by simp only [len]; omega)), jn_e, grd_t hin, jn_e]
      simp only [lgetn hil]
      refine Eq.trans (pop_loop hdi.1 _ fuelH st a (by have := fuelH_eq; have := hI.1; omega) (by have := hI.1; omega) (by have : dep l[i] = (l[i]).2.2.2 := rfl; rw [this] at hbl; omega)) ?_
      dsimp only
      have hdd : (l[i]).2.2.2 = dep l[i] := rfl
      rw [hdd, hpr]
      generalize hst : st.take (dep l[i]).toNat = s2 at *
      have hs2 : s2.length ≤ i := by rw [← hst, List.length_take]; have := hI.1; omega
      generalize cls (st.drop (dep l[i]).toNat) = c at *
      by_cases he : (l[i]).1 = []
      · rw [if_pos he] at hbl ⊢
        rw [List.length_append] at hbl
        rw [cnd_t (by rw [seq_t]; exact he), esc_eq (by have := hn.tx; omega), bnd_some', wstr_eq _ _ (by rw [List.length_append]; omega), bnd_some']
        dsimp only
        rw [hw]
        refine Eq.trans (hself (s2, a ++ c ++ esc (l[i]).2.1) (i + 1) (by omega) (by omega) ⟨by show s2.length ≤ _; omega, ?_⟩) ?_
        · show (a ++ c ++ esc (l[i]).2.1).length + (prT s2 (l.drop (i + 1))).length ≤ 100000000
          rw [List.length_append, List.length_append]
          omega
        · show finP (a ++ c ++ esc (l[i]).2.1 ++ prT s2 (l.drop (i + 1))) = _
          rw [List.append_assoc, List.append_assoc]
      · rw [if_neg he] at hbl ⊢
        rw [List.length_cons, List.length_append, List.length_append] at hbl
        have hnm := hn.nm
        rw [cnd_f (by rw [seq_dec]; simpa using he), grd_t (catOk_t (by simp only [len, iadd, List.length_cons, List.length_nil]; omega))]
        have hl60 : lapp ([60] : List UInt8) (l[i]).1 = 60 :: (l[i]).1 := rfl
        rw [hl60, wstr_eq _ _ (by rw [List.length_append, List.length_cons]; omega), bnd_some', jn_e]
        refine Eq.trans (attrs_loop (by have := hn.asz; omega) hn.an _ _ (by rw [List.length_append, List.length_append, List.length_cons]; omega)) ?_
        dsimp only
        -- whether there are children
        have leaf : kid l[i] (l.drop (i + 1)) = false → (bnd (strings_Builder_WriteString fuelH (((), a ++ c ++ (60 :: (l[i]).1) ++ atT (l[i]).2.2.1), ([47, 62] : List UInt8))) fun v19 => self (s2, w64 (iadd (i : Int) 1), (), v19.2.2.2)) = finP (a ++ (c ++ (60 :: ((l[i]).1 ++ (atT (l[i]).2.2.1 ++ (if kid l[i] (l.drop (i + 1)) = true then 62 :: prT (s2 ++ [(l[i]).1]) (l.drop (i + 1)) else 47 :: 62 :: prT s2 (l.drop (i + 1)))))))) := fun hk => by
          rw [hk, if_neg (by decide)] at hbl ⊢
          rw [List.length_cons, List.length_cons] at hbl
          rw [wstr_eq _ _ (by rw [List.length_append, List.length_append, List.length_append, List.length_cons, List.length_cons, List.length_cons, List.length_nil]; omega), bnd_some', hw]
          dsimp only
          refine Eq.trans (hself (s2, a ++ c ++ (60 :: (l[i]).1) ++ atT (l[i]).2.2.1 ++ [47, 62]) (i + 1) (by omega) (by omega) ⟨by show s2.length ≤ _; omega, ?_⟩) ?_
          · show (a ++ c ++ (60 :: (l[i]).1) ++ atT (l[i]).2.2.1 ++ [47, 62]).length + (prT s2 (l.drop (i + 1))).length ≤ 100000000
            rw [List.length_append, List.length_append, List.length_append, List.length_append, List.length_cons, List.length_cons, List.length_cons, List.length_nil]
            omega
          · show finP (a ++ c ++ (60 :: (l[i]).1) ++ atT (l[i]).2.2.1 ++ [47, 62] ++ prT s2 (l.drop (i + 1))) = _
            congr 1
            simp
        by_cases h1 : i + 1 < l.length
        · have hin1 : inb ((i + 1 : Nat) : Int) (len l) = true := inb_t (by simp only [len]; omega)
          have hkd : kid l[i] (l.drop (i + 1)) = decide (dep l[i] < dep l[i + 1]) := by
            rw [List.drop_eq_getElem_cons h1]
            rfl
          rw [hw, cnd_t (ilt_t (by simp only [len]; omega)), grd_t hin1, lgetn h1]
          by_cases h2 : dep l[i] < dep l[i + 1]
          · have hk : kid l[i] (l.drop (i + 1)) = true := by rw [hkd]; exact decide_eq_true h2
            rw [hk, if_pos rfl] at hbl ⊢
            rw [List.length_cons] at hbl
            rw [cnd_t (ilt_t (show dep l[i] < (l[i + 1]).2.2.2 from h2)), wstr_eq _ _ (by rw [List.length_append, List.length_append, List.length_append, List.length_cons, List.length_cons, List.length_nil]; omega), bnd_some', grd_t (room_t (by simp only [len, iadd, List.length_cons, List.length_nil]; omega))]
            dsimp only
            refine Eq.trans (hself (s2 ++ [(l[i]).1], a ++ c ++ (60 :: (l[i]).1) ++ atT (l[i]).2.2.1 ++ [62]) (i + 1) (by omega) (by omega) ⟨by show (s2 ++ [(l[i]).1]).length ≤ _; rw [List.length_append, List.length_cons, List.length_nil]; omega, ?_⟩) ?_
            · show (a ++ c ++ (60 :: (l[i]).1) ++ atT (l[i]).2.2.1 ++ [62]).length + (prT (s2 ++ [(l[i]).1]) (l.drop (i + 1))).length ≤ 100000000
              rw [List.length_append, List.length_append, List.length_append, List.length_append, List.length_cons, List.length_cons, List.length_nil]
              omega
            · show finP (a ++ c ++ (60 :: (l[i]).1) ++ atT (l[i]).2.2.1 ++ [62] ++ prT (s2 ++ [(l[i]).1]) (l.drop (i + 1))) = _
              congr 1
              simp
          · rw [cnd_f (ilt_f (show ¬ dep l[i] < (l[i + 1]).2.2.2 from h2)), ← hw]
            exact leaf (by rw [hkd]; exact decide_eq_false h2)
        · have hkd : kid l[i] (l.drop (i + 1)) = false := by
            rw [List.drop_of_length_le (by omega)]
            rfl
          rw [cnd_f (ilt_f (by rw [hw]; simp only [len]; omega))]
          exact leaf hkd
    · obtain rfl : i = l.length := by omega
      have hb := hI.2
      rw [List.drop_length] at hb ⊢
      have hpr : prT st [] = cls st := rfl
      rw [hpr] at hb ⊢
      have e1 : w64 (isub (len st) 1) = (st.length : Int) - 1 := by
        have := hI.1
        simp only [isub, len]
        rw [w64_id (by omega)]
      rw [cnd_f (ilt_f (by simp only [len]; omega)), jn_e, e1]
      refine Eq.trans (end_loop (by have := hI.1; omega) _ fuelH st.length a (by have := fuelH_eq; have := hI.1; omega) (Nat.le_refl _) (by rw [List.take_length]; omega)) ?_
      rw [List.take_length]
      have hlen : strings_Builder_Len fuelH ((), a ++ cls st) = some (len (a ++ cls st), (), a ++ cls st) := rfl
      dsimp only
      rw [hlen, bnd_some']
      unfold finP
      by_cases h9 : 262144 < (a ++ cls st).length
      · rw [cnd_t (ilt_t (by simp only [len]; omega)), if_pos h9]
      · rw [cnd_f (ilt_f (by simp only [len]; omega)), if_neg h9]
  · rw [cnd_t (ine_t hc), if_pos hc]
end
end Go.Mo
end

section
/-
  Plain facts: the text of a tree is read as the tree.
-/
set_option linter.all false
namespace Go.Mo
open Go Go.W Go.Lib
set_option maxRecDepth 100000
noncomputable section

structure BK (p : Ps) (prev : Option Nd) (r : List Nd) : Prop where
  ck : ckE prev r = 0
  nm : ∀ x ∈ p.2.1, nmX x = true
  lo : ∀ m r', r = m :: r' → dep m ≤ (p.2.1.length : Int)
  jn : p.2.2 = true → ∃ q, prev = some q ∧ q.1 = [] ∧ dep q = (p.2.1.length : Int) ∧ 1 ≤ dep q
  no : prev = none → p.1 = [] ∧ p.2.1 = []
  ro : p.1.length + r.length ≤ 8192
end
end Go.Mo
end

section
/-
  Plain facts: the check and the text of nodes, the other side; XmlChecks returns true.
-/
set_option linter.all false
namespace Go.Mo
open Go Go.W Go.Lib
set_option maxRecDepth 100000
noncomputable section

theorem dup_loop2 {R : Type} {l : List At} (hl : l.length ≤ 400000) (name : Ls) (bad : Option R) (K : Option R) :
    fixN (fun v12 (v13 : Int) =>
              cnd (ilt v13 (len l))
                (grd (inb v13 (len l))
                  (cnd (seq name (lget l (toN v13) ([], [])).1)
                    bad
                    (v12 (w64 (iadd v13 (1 : Int))))))
                K) fuelH (0 : Int) = if name ∈ l.map Prod.fst then bad else K := by
  have hs : ∀ a b : Ls, seq a b = seq b a := fun a b => by
    rw [seq_dec, seq_dec]
    exact decide_eq_decide.2 ⟨fun h => h.symm, fun h => h.symm⟩
  simp only [hs name]
  exact dup_loop hl name bad K
theorem relem_eq {n : Nd} (hs : smN n) : r20_element fuelH n = some (elE n) := by
  unfold r20_element elE
  rw [rname_eq (by have := hs.nm; omega), bnd_some']
  by_cases h1 : nmX n.1 = true
  · rw [h1, cnd_f (by rfl), if_neg (by decide)]
    by_cases h2 : n.2.1 = []
    · rw [cnd_f (by unfold sne; simpa using h2), if_neg (by simpa using h2)]
      by_cases h3 : 16 < n.2.2.1.length
      · rw [cnd_t (ilt_t (by simp only [len]; omega)), if_pos h3]
      rw [cnd_f (ilt_f (by simp only [len]; omega)), if_neg h3, jn_e]
      have han := hs.an
      generalize n.2.2.1 = l at *
      have h := drop_loop (R := Int) (s := l) (fun (_ : Unit) (j : Nat) => (j : Int)) (fun _ r => some (atE ((l.take (l.length - r.length)).map Prod.fst) r)) (fun _ _ => True)
        (F := fun v3 (v4 : Int) =>
          cnd (ilt v4 (len l))
            (jn (fun (v5 : Unit) =>
              v3 (w64 (iadd v4 (1 : Int))))
            fun v6 =>
            grd (inb v4 (len l)) <|
            bnd (r20_Name fuelH (lget l (toN v4) ([], [])).1) fun v7 =>
            cnd (bnot v7)
              (some (5 : Int))
              (jn (fun (v8 : Unit) =>
                bnd (r08_Valid fuelH (lget l (toN v4) ([], [])).2) fun v9 =>
                cnd (bnot v9)
                  (some (10 : Int))
                  (v6 ()))
              fun v10 =>
              grd (in2 v4 (len l)) <|
              fixN (fun v11 (v12 : Int) =>
                cnd (ilt v12 (len (ltake (toN v4) l)))
                  (grd (inb v12 (len (ltake (toN v4) l)))
                    (cnd (seq (lget l (toN v4) ([], [])).1 (lget (ltake (toN v4) l) (toN v12) ([], [])).1)
                      (some (7 : Int))
                      (v11 (w64 (iadd v12 (1 : Int))))))
                  (v10 ())) fuelH (0 : Int)))
            (some (0 : Int))) ?_ fuelH 0 () (fuelH_len (by omega) _) (Nat.zero_le _) trivial
      · refine Eq.trans h ?_
        rw [List.drop_zero, Nat.sub_self]
        rfl
      · intro self a j hj _ hself
        by_cases hjl : j < l.length
        · have hw : w64 (iadd (j : Int) 1) = ((j + 1 : Nat) : Int) := w64_succ hjl (by omega)
          have hsa := han l[j] (List.getElem_mem hjl)
          have htk : ltake (toN (j : Int)) l = l.take j := by simp [ltake, toN]
          have hrl : l.length - (l.drop j).length = j := by rw [List.length_drop]; omega
          have hrl2 : l.length - (l.drop (j + 1)).length = j + 1 := by rw [List.length_drop]; omega
          have hat : atE ((l.take j).map Prod.fst) (l[j] :: l.drop (j + 1)) = if nmX (l[j]).1 = false then 5 else if (l[j]).1 ∈ (l.take j).map Prod.fst then 7 else if vld (l[j]).2 = false then 10 else atE ((l.take j).map Prod.fst ++ [(l[j]).1]) (l.drop (j + 1)) := rfl
          rw [cnd_t (ilt_t (by simp only [len]; omega)), jn_e, grd_t (inb_t (by simp only [len]; omega)), lget_i hjl, rname_eq (by omega), bnd_some', htk, hrl, List.drop_eq_getElem_cons hjl, hat]
          by_cases e1 : nmX (l[j]).1 = true
          · rw [e1, cnd_f (by rfl), jn_e, grd_t (in2_t (by simp only [len]; omega)), if_neg (by decide)]
            refine Eq.trans (dup_loop2 (by rw [List.length_take]; omega) _ _ _) ?_
            by_cases e2 : (l[j]).1 ∈ (l.take j).map Prod.fst
            · rw [if_pos e2, if_pos e2]
            · rw [if_neg e2, if_neg e2, r08_valid _ (by omega), bnd_some']
              by_cases e3 : vld (l[j]).2 = true
              · rw [e3, cnd_f (by rfl), if_neg (by decide), hw]
                refine Eq.trans (hself () (j + 1) (by omega) (by omega) trivial) ?_
                rw [hrl2, List.take_succ_eq_append_getElem hjl, List.map_append]
                rfl
              · have e3 : vld (l[j]).2 = false := by simpa using e3
                rw [e3, cnd_t (by rfl), if_pos rfl]
          · have e1 : nmX (l[j]).1 = false := by simpa using e1
            rw [e1, cnd_t (by rfl), if_pos rfl]
        · obtain rfl : j = l.length := by omega
          rw [cnd_f (ilt_f (by simp only [len]; omega)), List.drop_length]
          rfl
    · rw [cnd_t (by unfold sne; simpa using h2), if_pos h2]
  · have h1 : nmX n.1 = false := by simpa using h1
    rw [h1, cnd_t (by rfl), if_pos rfl]

theorem rcheck_eq {l : List Nd} (hl : l.length ≤ 4000000) (hs : ∀ n ∈ l, smN n) : r20_Check fuelH l = some (chkE l) := by
  unfold r20_Check chkE
  by_cases h0 : l.length = 0
  · rw [cnd_t (ieq_t (by simp only [len]; omega)), if_pos h0]
  rw [cnd_f (ieq_f (by simp only [len]; omega)), if_neg h0]
  by_cases h1 : 8192 < l.length
  · rw [cnd_t (ilt_t (by simp only [len]; omega)), if_pos h1]
  rw [cnd_f (ilt_f (by simp only [len]; omega)), if_neg h1, jn_e]
  have hgoal : some (ckE none l) = some (ckE (prv l (l.length - l.length)) l) := by rw [Nat.sub_self]; rfl
  rw [hgoal]
  refine drop_loop (R := Int) (s := l) (fun (_ : Unit) (j : Nat) => (j : Int)) (fun _ r => some (ckE (prv l (l.length - r.length)) r)) (fun j _ => ∀ q, prv l j = some q → 0 ≤ dep q ∧ dep q ≤ 15) ?_ fuelH 0 () (fuelH_len hl _) (Nat.zero_le _) (fun q hq => by simp [prv] at hq)
  intro self a j hj hI hself
  by_cases hjl : j < l.length
  · have hw : w64 (iadd (j : Int) 1) = ((j + 1 : Nat) : Int) := w64_succ hjl (by omega)
    have hrl : l.length - (l.drop j).length = j := by rw [List.length_drop]; omega
    have hrl2 : l.length - (l.drop (j + 1)).length = j + 1 := by rw [List.length_drop]; omega
    have hsm := hs _ (List.getElem_mem hjl)
    have hgo : depE (prv l j) l[j] = 0 → self ((j + 1 : Nat) : Int) = some (ckE (some l[j]) (l.drop (j + 1))) := fun hd => by
      refine Eq.trans (hself () (j + 1) (by omega) (by omega) (fun q hq => ?_)) ?_
      · rw [prv_succ hjl] at hq
        injection hq with hq
        rw [← hq]
        exact depE_ok hd
      · rw [hrl2, prv_succ hjl]
    dsimp only
    rw [hrl, List.drop_eq_getElem_cons hjl, cnd_t (ilt_t (by simp only [len]; omega)), grd_t (inb_t (by simp only [len]; omega)), jn_e]
    simp only [lgetn hjl]
    have hck : ckE (prv l j) (l[j] :: l.drop (j + 1)) = if ndE (prv l j) l[j] ≠ 0 then ndE (prv l j) l[j] else ckE (some l[j]) (l.drop (j + 1)) := rfl
    rw [hck, jn_e, hw]
    -- what stands behind the depth
    have hX : depE (prv l j) l[j] = 0 →
        (cnd (ilt (15 : Int) (l[j]).2.2.2) (some (9 : Int)) (cnd (sne (l[j]).1 ([] : List UInt8)) (bnd (r20_element fuelH l[j]) fun v6 => cnd (ine v6 (0 : Int)) (some v6) (self ((j + 1 : Nat) : Int)))
                    (jn (fun (v7 : Bool) =>
                      cnd v7
                        (some (8 : Int))
                        (cnd (seq (l[j]).2.1 ([] : List UInt8))
                          (some (4 : Int))
                          (cnd (ilt (0 : Int) (len (l[j]).2.2.1))
                            (some (4 : Int))
                            (bnd (r08_Valid fuelH (l[j]).2.1) fun v8 =>
                            cnd (bnot v8)
                              (some (10 : Int))
                              (self ((j + 1 : Nat) : Int))))))
                    fun v9 =>
                    cnd (ieq (j : Int) (0 : Int))
                      (v9 true)
                      (grd (inb (w64 (isub (j : Int) (1 : Int))) (len l))
                        (cnd (seq (lget l (toN (w64 (isub (j : Int) (1 : Int)))) ([], ([], ([], (0 : Int))))).1 ([] : List UInt8))
                          (grd (inb (w64 (isub (j : Int) (1 : Int))) (len l))
                            (v9 (ieq (lget l (toN (w64 (isub (j : Int) (1 : Int)))) ([], ([], ([], (0 : Int))))).2.2.2 (l[j]).2.2.2)))
                          (v9 false)))))) =
        some (if ndE (prv l j) l[j] ≠ 0 then ndE (prv l j) l[j] else ckE (some l[j]) (l.drop (j + 1))) := fun hd => by
      have h15 : ¬ 15 < (l[j]).2.2.2 := by have : 0 ≤ (l[j]).2.2.2 ∧ (l[j]).2.2.2 ≤ 15 := depE_ok hd; omega
      rw [cnd_f (ilt_f h15)]
      unfold ndE
      rw [if_neg (show ¬ depE (prv l j) l[j] ≠ 0 from fun k => k hd)]
      by_cases e2 : (l[j]).1 = []
      · rw [cnd_f (by unfold sne; simpa using e2), if_neg (show ¬ (l[j]).1 ≠ [] from fun k => k e2), jn_e]
        have fin : ∀ b : Bool, b = txP (prv l j) l[j] → (cnd b
                        (some (8 : Int))
                        (cnd (seq (l[j]).2.1 ([] : List UInt8))
                          (some (4 : Int))
                          (cnd (ilt (0 : Int) (len (l[j]).2.2.1))
                            (some (4 : Int))
                            (bnd (r08_Valid fuelH (l[j]).2.1) fun v8 =>
                            cnd (bnot v8)
                              (some (10 : Int))
                              (self ((j + 1 : Nat) : Int)))))) = some (if txE (prv l j) l[j] ≠ 0 then txE (prv l j) l[j] else ckE (some l[j]) (l.drop (j + 1))) := fun b hb => by
          unfold txE
          rw [← hb]
          cases b with
          | true => rfl
          | false =>
            rw [cnd_f (by rfl), if_neg (show ¬ (false = true) by decide)]
            by_cases e3 : (l[j]).2.1 = []
            · rw [cnd_t (by rw [seq_t]; exact e3), if_pos e3]
              rfl
            rw [cnd_f (by rw [seq_dec]; simpa using e3), if_neg e3]
            by_cases e4 : 0 < (l[j]).2.2.1.length
            · rw [cnd_t (ilt_t (by simp only [len]; omega)), if_pos e4]
              rfl
            rw [cnd_f (ilt_f (by simp only [len]; omega)), if_neg e4, r08_valid _ (by have := hsm.tx; omega), bnd_some']
            cases hv : vld (l[j]).2.1 with
            | true =>
              rw [cnd_f (by rfl), if_neg (show ¬ (true = false) by decide), if_neg (by simp)]
              exact hgo hd
            | false => rfl
        by_cases h00 : j = 0
        · subst h00
          rw [cnd_t (by rfl)]
          exact fin true rfl
        · obtain ⟨k, rfl⟩ : ∃ k, j = k + 1 := ⟨j - 1, by omega⟩
          have hb : w64 (isub ((k + 1 : Nat) : Int) 1) = (k : Int) := w64_back (by omega)
          have hg : inb (k : Int) (len l) = true := inb_t (by simp only [len]; omega)
          rw [cnd_f (ieq_f (by omega)), hb, grd_t hg, grd_t hg, lgetn (show k < l.length by omega)]
          have hpv := prv_succ (l := l) (i := k) (by omega)
          by_cases e : l[k].1 = []
          · rw [cnd_t (by rw [seq_t]; exact e)]
            refine fin _ ?_
            rw [hpv]
            unfold txP
            rw [Bool.eq_iff_iff, ieq_tt, decide_eq_true_eq]
            exact ⟨fun h => ⟨e, h⟩, fun h => h.2⟩
          · rw [cnd_f (by rw [seq_dec]; simpa using e)]
            refine fin false ?_
            rw [hpv]
            exact (decide_eq_false fun h => e h.1).symm
      · rw [cnd_t (by unfold sne; simpa using e2), if_pos e2, relem_eq hsm, bnd_some']
        by_cases e3 : elE l[j] = 0
        · rw [cnd_f (ine_f e3), if_neg (fun k => k e3)]
          exact hgo hd
        · rw [cnd_t (ine_t e3), if_pos e3]
    have bad : ∀ e : Int, depE (prv l j) l[j] = e → e ≠ 0 → some e = some (if ndE (prv l j) l[j] ≠ 0 then ndE (prv l j) l[j] else ckE (some l[j]) (l.drop (j + 1))) := fun e he h0 => by
      have : ndE (prv l j) l[j] = e := by
        unfold ndE
        rw [if_pos (by rw [he]; exact h0), he]
      rw [this, if_pos h0]
    by_cases h00 : j = 0
    · subst h00
      have hdE : depE (prv l 0) l[0] = if dep l[0] ≠ 0 then 8 else 0 := rfl
      rw [cnd_t (by rfl)]
      by_cases e : (l[0]).2.2.2 = 0
      · rw [cnd_f (ine_f e), cnd_f (by rfl), cnd_f (by rfl)]
        exact hX (by rw [hdE]; exact if_neg (fun k => k e))
      · rw [cnd_t (ine_t e)]
        exact bad 8 (by rw [hdE]; exact if_pos e) (by decide)
    · obtain ⟨k, rfl⟩ : ∃ k, j = k + 1 := ⟨j - 1, by omega⟩
      have hb : w64 (isub ((k + 1 : Nat) : Int) 1) = (k : Int) := w64_back (by omega)
      have hg : inb (k : Int) (len l) = true := inb_t (by simp only [len]; omega)
      have hpv := prv_succ (l := l) (i := k) (by omega)
      have hq := hI _ hpv
      have hdE : depE (prv l (k + 1)) l[k + 1] = if dep l[k + 1] < 1 then 8 else if (if l[k].1 ≠ [] then dep l[k] + 1 else dep l[k]) < dep l[k + 1] then 8 else if 15 < dep l[k + 1] then 9 else 0 := by rw [hpv]; rfl
      have hw2 : w64 (iadd (l[k]).2.2.2 1) = (l[k]).2.2.2 + 1 := by
        have : 0 ≤ (l[k]).2.2.2 ∧ (l[k]).2.2.2 ≤ 15 := hq
        simp only [iadd]
        rw [w64_id (by omega)]
      rw [cnd_f (ieq_f (by omega)), cnd_t (ilt_t (by omega))]
      by_cases e1 : (l[k + 1]).2.2.2 < 1
      · rw [cnd_t (ilt_t e1)]
        exact bad 8 (by rw [hdE]; exact if_pos e1) (by decide)
      have e1' : ¬ dep l[k + 1] < 1 := e1
      rw [if_neg e1'] at hdE
      rw [cnd_f (ilt_f e1), cnd_t (ilt_t (by omega)), hb, grd_t hg, grd_t hg, lgetn (show k < l.length by omega), hw2]
      -- behind 'most'
      rw [hb, lgetn (show k < l.length by omega)] at hX
      by_cases e3 : l[k].1 = []
      · rw [cnd_f (by unfold sne; simpa using e3)]
        rw [if_neg (show ¬ l[k].1 ≠ [] from fun z => z e3)] at hdE
        by_cases e2 : (l[k]).2.2.2 < (l[k + 1]).2.2.2
        · rw [cnd_t (ilt_t e2)]
          exact bad 8 (by rw [hdE]; exact if_pos e2) (by decide)
        · rw [cnd_f (ilt_f e2)]
          rw [if_neg (show ¬ dep l[k] < dep l[k + 1] from e2)] at hdE
          by_cases e15 : 15 < (l[k + 1]).2.2.2
          · exact Eq.trans (cnd_t (ilt_t e15)) (bad 9 (by rw [hdE]; exact if_pos e15) (by decide))
          · exact hX (by rw [hdE]; exact if_neg e15)
      · rw [cnd_t (by unfold sne; simpa using e3)]
        rw [if_pos (show l[k].1 ≠ [] from e3)] at hdE
        by_cases e2 : (l[k]).2.2.2 + 1 < (l[k + 1]).2.2.2
        · rw [cnd_t (ilt_t e2)]
          exact bad 8 (by rw [hdE]; exact if_pos e2) (by decide)
        · rw [cnd_f (ilt_f e2)]
          rw [if_neg (show ¬ dep l[k] + 1 < dep l[k + 1] from e2)] at hdE
          by_cases e15 : 15 < (l[k + 1]).2.2.2
          · exact Eq.trans (cnd_t (ilt_t e15)) (bad 9 (by rw [hdE]; exact if_pos e15) (by decide))
          · exact hX (by rw [hdE]; exact if_neg e15)
  · obtain rfl : j = l.length := by omega
    rw [cnd_f (ilt_f (by simp only [len]; omega)), List.drop_length]
    rfl
end
end Go.Mo
end

section
/-
  Plain facts: the text of a node, the other side; XmlChecks returns true.
-/
set_option linter.all false
namespace Go.Mo
open Go Go.W Go.Lib
set_option maxRecDepth 100000
noncomputable section

/-- where the part of the depth ends -/
def endI (d : Int) (k : Nat) (l : List Nd) : Nat := k + ((l.drop k).takeWhile (fun n => decide (d < dep n))).length
theorem endI_in {d : Int} {k : Nat} {l : List Nd} (hk : k < l.length) (h : d < dep l[k]) : endI d k l = endI d (k + 1) l := by
  unfold endI
  rw [List.drop_eq_getElem_cons hk, List.takeWhile_cons, if_pos (decide_eq_true h), List.length_cons]
  omega
theorem endI_out {d : Int} {k : Nat} {l : List Nd} (hk : k < l.length) (h : ¬ d < dep l[k]) : endI d k l = k := by
  unfold endI
  rw [List.drop_eq_getElem_cons hk, List.takeWhile_cons, if_neg (by simpa using h)]
  rfl
theorem endI_end {d : Int} {k : Nat} {l : List Nd} (hk : l.length ≤ k) : endI d k l = k := by
  unfold endI
  rw [List.drop_of_length_le hk]
  rfl
/-- a deeper part is passed over -/
theorem skip_part {d : Int} {l : List Nd} : ∀ (m k : Nat), l.length - k ≤ m → k ≤ endI (d + 1) k l ∧ endI (d + 1) k l ≤ max k l.length ∧ endI d k l = endI d (endI (d + 1) k l) l ∧ chS d k (l.drop k) = chS d (endI (d + 1) k l) (l.drop (endI (d + 1) k l)) ∧ (∀ h : endI (d + 1) k l < l.length, dep (l[endI (d + 1) k l]'h) ≤ d + 1)
  | 0, k, h => by
    rw [endI_end (show l.length ≤ k by omega)]
    exact ⟨Nat.le_refl _, by omega, rfl, rfl, fun h => by omega⟩
  | m + 1, k, h => by
    by_cases hk : k < l.length
    · by_cases e : d + 1 < dep l[k]
      · obtain ⟨i1, i2, i3, i4, i5⟩ := skip_part (l := l) (d := d) m (k + 1) (by omega)
        have hc : chS d k (l.drop k) = chS d (k + 1) (l.drop (k + 1)) := by
          rw [List.drop_eq_getElem_cons hk]
          show (if d < dep l[k] then (if dep l[k] = d + 1 then _ else _) else _) = _
          rw [if_pos (by omega), if_neg (by omega)]
        rw [endI_in hk e]
        refine ⟨by omega, by omega, ?_, ?_, i5⟩
        · rw [endI_in hk (show d < dep l[k] by omega), i3]
        · rw [hc, i4]
      · rw [endI_out hk e]
        exact ⟨Nat.le_refl _, by omega, rfl, rfl, fun h => by omega⟩
    · rw [endI_end (show l.length ≤ k by omega)]
      exact ⟨Nat.le_refl _, by omega, rfl, rfl, fun h => by omega⟩
theorem pop1 {st : List Ls} {a : Ls} {r : List Nd} (h : ∀ n r', r = n :: r' → dep n ≤ (st.length : Int)) : prT (st ++ [a]) r = clT a ++ prT st r := by
  cases r with
  | nil => unfold prT; rw [cls_app, cls_one]
  | cons n r =>
    have hn := h n r rfl
    unfold prT
    rw [List.drop_append_of_le_length (by omega), List.take_append_of_le_length (by omega), cls_app, cls_one, List.append_assoc]
/-- the text of a part -/
def isT (l : List Nd) (d i : Nat) (t : Ls) : Prop := ∀ st : List Ls, st.length = d → prT st (l.drop i) = t ++ prT st (l.drop (endI (d : Int) (i + 1) l))
theorem isT_len {l : List Nd} {d i : Nat} {t : Ls} (h : isT l d i t) (hd : d ≤ 16) : t.length ≤ 48 + 7 * bkL wtN (l.drop i) := by
  have h1 := h (List.replicate d []) (by simp)
  have h2 := prT_len (l.drop i) (List.replicate d [])
  have h3 : ∀ d : Nat, (cls (List.replicate d [])).length = 3 * d := fun d => by
    induction d with
    | zero => rfl
    | succ d ih => rw [List.replicate_succ', cls_app, cls_one, List.length_append, ih]; unfold clT; simp; omega
  have h4 := congrArg List.length h1
  rw [List.length_append] at h4
  have := h3 d
  omega
theorem kids_text {l : List Nd} {d : Nat} {Tx : Int → Ls} : ∀ (m k : Nat), l.length - k ≤ m → (∀ h : k < l.length, dep l[k] ≤ (d : Int) + 1) → (∀ (j : Nat) (h : j < l.length), k ≤ j → dep l[j] = (d : Int) + 1 → isT l (d + 1) j (Tx (j : Int))) →
    ∀ st : List Ls, st.length = d + 1 → prT st (l.drop k) = (chS (d : Int) k (l.drop k)).flatMap Tx ++ prT st (l.drop (endI (d : Int) k l))
  | 0, k, h, _, _, st, hst => by
    rw [endI_end (show l.length ≤ k by omega), List.drop_of_length_le (show l.length ≤ k by omega)]
    rfl
  | m + 1, k, h, hh, hT, st, hst => by
    by_cases hk : k < l.length
    · by_cases e : (d : Int) < dep l[k]
      · have e1 : dep l[k] = (d : Int) + 1 := by have := hh hk; omega
        have h1 := hT k hk (Nat.le_refl _) e1 st hst
        obtain ⟨i1, i2, i3, i4, i5⟩ := skip_part (d := (d : Int)) (l := l) (l.length - (k + 1)) (k + 1) (Nat.le_refl _)
        have hc : chS (d : Int) k (l.drop k) = (k : Int) :: chS (d : Int) (k + 1) (l.drop (k + 1)) := by
          rw [List.drop_eq_getElem_cons hk]
          show (if (d : Int) < dep l[k] then (if dep l[k] = (d : Int) + 1 then _ else _) else _) = _
          rw [if_pos e, if_pos e1]
        rw [h1, hc, i4, List.flatMap_cons, List.append_assoc, endI_in hk e, i3]
        congr 1
        have ec : (((d + 1 : Nat) : Int)) = (d : Int) + 1 := by omega
        rw [ec]
        exact kids_text m _ (by omega) i5 (fun j hj hkj => hT j hj (by omega)) st hst
      · have hc : chS (d : Int) k (l.drop k) = [] := by
          rw [List.drop_eq_getElem_cons hk]
          show (if (d : Int) < dep l[k] then _ else _) = _
          rw [if_neg e]
        rw [endI_out hk e, hc]
        rfl
    · rw [endI_end (show l.length ≤ k by omega), List.drop_of_length_le (show l.length ≤ k by omega)]
      rfl
theorem endI_head {l : List Nd} {d : Int} : ∀ (m k : Nat), l.length - k ≤ m → ∀ h : endI d k l < l.length, dep (l[endI d k l]'h) ≤ d
  | 0, k, h, h2 => by
    rw [endI_end (show l.length ≤ k by omega)] at h2
    omega
  | m + 1, k, h, h2 => by
    by_cases hk : k < l.length
    · by_cases e : d < dep l[k]
      · have h3 : endI d (k + 1) l < l.length := by rw [← endI_in hk e]; exact h2
        have := endI_head m (k + 1) (by omega) h3
        have he := endI_in hk e
        simp only [he]
        exact this
      · have he := endI_out hk e
        simp only [he]
        omega
    · rw [endI_end (show l.length ≤ k by omega)] at h2
      omega
/-- the text of an element -/
theorem elem_isT {l : List Nd} {i d : Nat} (hi : i < l.length) (hd : dep l[i] = (d : Int)) (hn : l[i].1 ≠ []) (hstep : ∀ h : i + 1 < l.length, dep l[i + 1] ≤ (d : Int) + 1) {Tx : Int → Ls} (hT : ∀ (j : Nat) (h : j < l.length), i + 1 ≤ j → dep l[j] = (d : Int) + 1 → isT l (d + 1) j (Tx (j : Int))) :
    isT l d i (60 :: (l[i].1 ++ (atT l[i].2.2.1 ++ (if kids l (i : Int) = [] then [47, 62] else 62 :: ((kids l (i : Int)).flatMap Tx ++ clT l[i].1))))) := by
  intro st hst
  have hk : kids l (i : Int) = chS (d : Int) (i + 1) (l.drop (i + 1)) := by
    unfold kids
    rw [if_neg (by omega), Int.toNat_natCast, List.getD_eq_getElem?_getD, List.getElem?_eq_getElem hi, Option.getD_some, hd]
  have hkid : kid l[i] (l.drop (i + 1)) = true ↔ kids l (i : Int) ≠ [] := by
    rw [hk]
    by_cases h1 : i + 1 < l.length
    · have hs := hstep h1
      rw [List.drop_eq_getElem_cons h1]
      show decide (dep l[i] < dep l[i + 1]) = true ↔ (if (d : Int) < dep l[i + 1] then (if dep l[i + 1] = (d : Int) + 1 then _ else _) else _) ≠ []
      rw [decide_eq_true_eq, hd]
      by_cases e : (d : Int) < dep l[i + 1]
      · rw [if_pos e, if_pos (by omega)]
        exact ⟨fun _ => List.cons_ne_nil _ _, fun _ => e⟩
      · rw [if_neg e]
        exact ⟨fun k => absurd k e, fun k => absurd rfl k⟩
    · rw [List.drop_of_length_le (by omega)]
      exact ⟨fun k => (by cases k), fun k => absurd rfl k⟩
  have hpr : prT st (l.drop i) = 60 :: (l[i].1 ++ (atT l[i].2.2.1 ++ (if kid l[i] (l.drop (i + 1)) = true then 62 :: prT (st ++ [l[i].1]) (l.drop (i + 1)) else 47 :: 62 :: prT st (l.drop (i + 1))))) := by
    rw [List.drop_eq_getElem_cons hi]
    conv => lhs; unfold prT
    have ed : (dep l[i]).toNat = st.length := by rw [hd, hst]; omega
    rw [if_neg hn, ed, List.drop_length, List.take_length, cls_nil, List.nil_append]
  rw [hpr]
  by_cases hK : kids l (i : Int) = []
  · have hf : ¬ kid l[i] (l.drop (i + 1)) = true := fun k => hkid.1 k hK
    rw [if_neg hf, if_pos hK]
    have he : endI (d : Int) (i + 1) l = i + 1 := by
      by_cases h1 : i + 1 < l.length
      · refine endI_out h1 fun k => hf ?_
        rw [List.drop_eq_getElem_cons h1]
        exact decide_eq_true (by rw [hd]; exact k)
      · exact endI_end (by omega)
    rw [he]
    simp
  · have ht : kid l[i] (l.drop (i + 1)) = true := hkid.2 hK
    rw [if_pos ht, if_neg hK]
    have h2 := kids_text (l := l) (d := d) (Tx := Tx) (l.length - (i + 1)) (i + 1) (Nat.le_refl _) hstep hT (st ++ [l[i].1]) (by simp [hst])
    rw [h2, ← hk, pop1 ?_]
    · simp
    · intro n r' hr
      have hlt : endI (d : Int) (i + 1) l < l.length := by
        apply Classical.byContradiction
        intro k
        rw [List.drop_of_length_le (by omega)] at hr
        cases hr
      rw [List.drop_eq_getElem_cons hlt] at hr
      injection hr with hr _
      have := endI_head (l := l) (d := (d : Int)) _ (i + 1) (Nat.le_refl _) hlt
      rw [← hr, hst]
      exact this
theorem text_isT {l : List Nd} {i d : Nat} (hi : i < l.length) (hd : dep l[i] = (d : Int)) (hn : l[i].1 = []) (hstep : ∀ h : i + 1 < l.length, dep l[i + 1] ≤ (d : Int)) : isT l d i (esc l[i].2.1) := by
  intro st hst
  have he : endI (d : Int) (i + 1) l = i + 1 := by
    by_cases h1 : i + 1 < l.length
    · exact endI_out h1 fun k => by have := hstep h1; omega
    · exact endI_end (by omega)
  rw [he, List.drop_eq_getElem_cons hi]
  conv => lhs; unfold prT
  have ed : (dep l[i]).toNat = st.length := by rw [hd, hst]; omega
  rw [if_pos hn, ed, List.drop_length, List.take_length, cls_nil, List.nil_append]
end
end Go.Mo
end

section
/-
  Plain facts: the text of nodes, the other side, run; XmlChecks returns true.
-/
set_option linter.all false
namespace Go.Mo
open Go Go.W Go.Lib
set_option maxRecDepth 100000
noncomputable section

theorem rattrs_loop {R : Type} {l : List At} (hl : l.length ≤ 1100000) (hv : ∀ a ∈ l, a.1.length ≤ 1048576 ∧ a.2.length ≤ 1048576) (K : Ls × Int → Option R) (a0 : Ls) (hb : a0.length + (atT l).length ≤ 100000000) :
    fixN (fun v9 (v10 : (List UInt8) × Int) =>
          cnd (ilt v10.2 (len l))
            (grd (inb v10.2 (len l))
              (grd (catOk (iadd (len ([32] : List UInt8)) (len (lget l (toN v10.2) ([], [])).1)))
                (grd (catOk (iadd (len (lapp ([32] : List UInt8) (lget l (toN v10.2) ([], [])).1)) (len ([61, 34] : List UInt8))))
                  (bnd (r20_Escape fuelH (lget l (toN v10.2) ([], [])).2) fun v11 =>
                  grd (catOk (iadd (len (lapp (lapp ([32] : List UInt8) (lget l (toN v10.2) ([], [])).1) ([61, 34] : List UInt8))) (len v11))) <|
                  grd (catOk (iadd (len (lapp (lapp (lapp ([32] : List UInt8) (lget l (toN v10.2) ([], [])).1) ([61, 34] : List UInt8)) v11)) (len ([34] : List UInt8)))) <|
                  grd (catOk (iadd (len v10.1) (len (lapp (lapp (lapp (lapp ([32] : List UInt8) (lget l (toN v10.2) ([], [])).1) ([61, 34] : List UInt8)) v11) ([34] : List UInt8))))) <|
                  v9 (lapp v10.1 (lapp (lapp (lapp (lapp ([32] : List UInt8) (lget l (toN v10.2) ([], [])).1) ([61, 34] : List UInt8)) v11) ([34] : List UInt8)), w64 (iadd v10.2 (1 : Int)))))))
            (K v10)) fuelH (a0, (0 : Int)) = K (a0 ++ atT l, (l.length : Int)) := by
  refine drop_loop (s := l) (fun (a : Ls) (j : Nat) => (a, (j : Int))) (fun a r => K (a ++ atT r, (l.length : Int))) (fun j a => a.length + (atT (l.drop j)).length ≤ 100000000) ?_ fuelH 0 a0 (fuelH_len (by omega) _) (Nat.zero_le _) hb
  intro self a j hj hI hself
  dsimp only
  by_cases hjl : j < l.length
  · have hw : w64 (iadd (j : Int) 1) = ((j + 1 : Nat) : Int) := w64_succ hjl (by omega)
    have hva := hv _ (List.getElem_mem hjl)
    have hel := esc_len (l[j]).2
    have hT : lapp (lapp (lapp (lapp ([32] : List UInt8) (l[j]).1) ([61, 34] : List UInt8)) (esc (l[j]).2)) ([34] : List UInt8) = 32 :: ((l[j]).1 ++ (61 :: 34 :: (esc (l[j]).2 ++ [34]))) := by simp [lapp]
    have hc : atT (l.drop j) = (32 :: ((l[j]).1 ++ (61 :: 34 :: (esc (l[j]).2 ++ [34])))) ++ atT (l.drop (j + 1)) := by
      rw [List.drop_eq_getElem_cons hjl]
      unfold atT
      rw [List.flatMap_cons]
    have hcl := congrArg List.length hc
    rw [List.length_append] at hcl
    rw [cnd_t (ilt_t (by simp only [len]; omega)), grd_t (inb_t (by simp only [len]; omega)), lget_i hjl, grd_t (catOk_t (by simp only [len, iadd, List.length_cons, List.length_nil]; omega)), grd_t (catOk_t (by simp only [len, iadd, lapp, List.length_append, List.length_cons, List.length_nil]; omega)), resc_eq (by omega), bnd_some', grd_t (catOk_t (by simp only [len, iadd, lapp, List.length_append, List.length_cons, List.length_nil]; omega)), grd_t (catOk_t (by simp only [len, iadd, lapp, List.length_append, List.length_cons, List.length_nil]; omega)), hT, grd_t (catOk_t (by simp only [len, iadd]; omega)), hw]
    refine Eq.trans (hself (a ++ (32 :: ((l[j]).1 ++ (61 :: 34 :: (esc (l[j]).2 ++ [34]))))) (j + 1) (by omega) (by omega) (by rw [List.length_append]; omega)) ?_
    rw [hc, List.append_assoc]
  · obtain rfl : j = l.length := by omega
    rw [cnd_f (ilt_f (by simp only [len]; omega)), List.drop_length]
    have : a ++ atT [] = a := by simp [atT]
    rw [this]
theorem rkids_loop {R : Type} {ks : List Int} (hl : ks.length ≤ 1100000) (f : Int → Option Ls) (Tx : Int → Ls) (hf : ∀ k ∈ ks, f k = some (Tx k)) (K : Ls × Int → Option R) (a0 : Ls) (hb : a0.length + (ks.flatMap Tx).length ≤ 100000000) :
    fixN (fun v5 (v6 : (List UInt8) × Int) =>
                cnd (ilt v6.2 (len ks))
                  (grd (inb v6.2 (len ks))
                    (bnd (f (lget ks (toN v6.2) (0 : Int))) fun v7 =>
                    grd (catOk (iadd (len v6.1) (len v7))) <|
                    v5 (lapp v6.1 v7, w64 (iadd v6.2 (1 : Int)))))
                  (K v6)) fuelH (a0, (0 : Int)) = K (a0 ++ ks.flatMap Tx, (ks.length : Int)) := by
  refine drop_loop (s := ks) (fun (a : Ls) (j : Nat) => (a, (j : Int))) (fun a r => K (a ++ r.flatMap Tx, (ks.length : Int))) (fun j a => a.length + ((ks.drop j).flatMap Tx).length ≤ 100000000) ?_ fuelH 0 a0 (fuelH_len (by omega) _) (Nat.zero_le _) hb
  intro self a j hj hI hself
  dsimp only
  by_cases hjl : j < ks.length
  · have hw : w64 (iadd (j : Int) 1) = ((j + 1 : Nat) : Int) := w64_succ hjl (by omega)
    have hc : (ks.drop j).flatMap Tx = Tx ks[j] ++ (ks.drop (j + 1)).flatMap Tx := by
      rw [List.drop_eq_getElem_cons hjl, List.flatMap_cons]
    have hcl := congrArg List.length hc
    rw [List.length_append] at hcl
    rw [cnd_t (ilt_t (by simp only [len]; omega)), grd_t (inb_t (by simp only [len]; omega)), lget_i hjl, hf _ (List.getElem_mem hjl), bnd_some', grd_t (catOk_t (by simp only [len, iadd]; omega)), hw]
    refine Eq.trans (hself (a ++ Tx ks[j]) (j + 1) (by omega) (by omega) (by rw [List.length_append]; omega)) ?_
    rw [hc, List.append_assoc]
  · obtain rfl : j = ks.length := by omega
    rw [cnd_f (ilt_f (by simp only [len]; omega)), List.drop_length]
    simp
theorem chS_mem2 {d : Int} : ∀ (r : List Nd) (k : Nat) (x : Int), x ∈ chS d k r → ∃ j : Nat, x = (j : Int) ∧ k ≤ j ∧ ∃ h : j - k < r.length, dep r[j - k] = d + 1
  | [], _, _, h => (by cases h)
  | n :: r, k, x, h => by
    have h : x ∈ (if d < dep n then (if dep n = d + 1 then (k : Int) :: chS d (k + 1) r else chS d (k + 1) r) else []) := h
    have go : x ∈ chS d (k + 1) r → ∃ j : Nat, x = (j : Int) ∧ k ≤ j ∧ ∃ h : j - k < (n :: r).length, dep (n :: r)[j - k] = d + 1 := fun hx => by
      obtain ⟨j, e, h1, h2, h3⟩ := chS_mem2 r (k + 1) x hx
      have ej : j - k = (j - (k + 1)) + 1 := by omega
      refine ⟨j, e, by omega, by rw [List.length_cons]; omega, ?_⟩
      simp only [ej, List.getElem_cons_succ]
      exact h3
    by_cases e1 : d < dep n
    · rw [if_pos e1] at h
      by_cases e2 : dep n = d + 1
      · rw [if_pos e2] at h
        rcases List.mem_cons.1 h with rfl | h
        · refine ⟨k, rfl, Nat.le_refl _, by rw [List.length_cons]; omega, ?_⟩
          simp only [Nat.sub_self, List.getElem_cons_zero]
          exact e2
        · exact go h
      · rw [if_neg e2] at h
        exact go h
    · rw [if_neg e1] at h
      cases h
theorem rtext_run {l : List Nd} (h8 : l.length ≤ 8192) (hw : bkL wtN l ≤ 1048576) (hD : Deep l) (htx : ∀ i (h : i + 1 < l.length), l[i].1 = [] → dep l[i + 1] ≤ dep l[i]) : ∀ (D d i : Nat), 16 ≤ D + d → ∀ hi : i < l.length, dep l[i] = (d : Int) → ∃ t, r20_text_r fuelH D (l, (i : Int)) = some t ∧ isT l d i t
  | 0, d, i, h, hi, hd => by have := (hD.high i hi).2; omega
  | D + 1, d, i, h, hi, hd => by
    have hsm := sm_of hw _ (List.getElem_mem hi)
    have hll : l.length ≤ 1048576 := Nat.le_trans (bk_len (f := wtN) (fun n => by unfold wtN; omega) l) hw
    have h15 := (hD.high i hi).2
    have hin : inb (i : Int) (len l) = true := inb_t (by simp only [len]; omega)
    by_cases he : l[i].1 = []
    · refine ⟨esc l[i].2.1, ?_, text_isT hi hd he fun h => by have := htx i h he; omega⟩
      unfold r20_text_r
      dsimp only
      rw [grd_t hin]
      simp only [lgetn hi]
      rw [cnd_t (by rw [seq_t]; exact he), resc_eq (by have := hsm.tx; omega), bnd_some']
    · have hdi : ∀ n ∈ l, i64 (dep n) := fun n hn => by
        obtain ⟨j, hj, e⟩ := List.mem_iff_getElem.1 hn
        have := hD.high j hj
        rw [← e]
        exact ⟨by omega, by omega⟩
      have hkids := (kids_eq (l := l) (by omega) hdi (i : Int)).2
      have hk : kids l (i : Int) = chS (d : Int) (i + 1) (l.drop (i + 1)) := by
        unfold kids
        rw [if_neg (by omega), Int.toNat_natCast, List.getD_eq_getElem?_getD, List.getElem?_eq_getElem hi, Option.getD_some, hd]
      have ih := rtext_run h8 hw hD htx D (d + 1)
      let Tx : Int → Ls := fun k => (r20_text_r fuelH D (l, k)).getD []
      have hT : ∀ (j : Nat) (h : j < l.length), i + 1 ≤ j → dep l[j] = (d : Int) + 1 → r20_text_r fuelH D (l, (j : Int)) = some (Tx (j : Int)) ∧ isT l (d + 1) j (Tx (j : Int)) := fun j hj hij hdj => by
        obtain ⟨t, h1, h2⟩ := ih j (by omega) hj (by omega)
        have : Tx (j : Int) = t := by show (r20_text_r fuelH D (l, (j : Int))).getD [] = t; rw [h1]; rfl
        rw [this]
        exact ⟨h1, h2⟩
      have hmain := elem_isT (Tx := Tx) hi hd he (fun h => by have := (hD.low i h).2.1; omega) fun j hj hij hdj => (hT j hj hij hdj).2
      refine ⟨_, ?_, hmain⟩
      have hlen := isT_len hmain (by omega)
      have hbd : bkL wtN (l.drop i) ≤ 1048576 := by
        refine Nat.le_trans ?_ hw
        have : ∀ (i : Nat) (l : List Nd), bkL wtN (l.drop i) ≤ bkL wtN l := fun i => by
          induction i with
          | zero => intro l; exact Nat.le_refl _
          | succ i ih => intro l; cases l with
            | nil => exact Nat.le_refl _
            | cons n l => have := ih l; rw [List.drop_succ_cons]; simp only [bkL]; omega
        exact this i l
      rw [List.length_cons, List.length_append, List.length_append] at hlen
      have hks : ∀ k ∈ kids l (i : Int), r20_text_r fuelH D (l, k) = some (Tx k) := fun k hkm => by
        rw [hk] at hkm
        obtain ⟨j, rfl, h1, h2, h3⟩ := chS_mem2 _ _ _ hkm
        rw [List.length_drop] at h2
        rw [List.getElem_drop] at h3
        have e : i + 1 + (j - (i + 1)) = j := by omega
        simp only [e] at h3
        exact (hT j (by omega) h1 h3).1
      have hkl : (kids l (i : Int)).length ≤ 1100000 := by
        rw [hk]
        have := chS_len (d : Int) (i + 1) (l.drop (i + 1))
        rw [List.length_drop] at this
        omega
      unfold r20_text_r
      dsimp only
      rw [grd_t hin]
      simp only [lgetn hi]
      rw [cnd_f (by rw [seq_dec]; simpa using he), grd_t (catOk_t (by simp only [len, iadd, List.length_cons, List.length_nil]; omega)), jn_e]
      refine Eq.trans (rattrs_loop (by have := hsm.asz; omega) hsm.an _ _ (by simp only [lapp, List.length_append, List.length_cons, List.length_nil]; omega)) ?_
      dsimp only
      rw [hkids, bnd_some']
      generalize kids l (i : Int) = ks at *
      by_cases h0 : ks = []
      · rw [if_pos h0] at hlen ⊢
        rw [cnd_t (ieq_t (by rw [h0]; rfl)), grd_t (catOk_t (by simp only [len, iadd, lapp, List.length_append, List.length_cons, List.length_nil]; omega))]
        simp [lapp]
      · rw [if_neg h0] at hlen ⊢
        have hp := List.length_pos_iff.2 h0
        have hcl : (clT l[i].1).length = l[i].1.length + 3 := by unfold clT; simp
        rw [List.length_cons, List.length_append] at hlen
        rw [cnd_f (ieq_f (by simp only [len]; omega)), grd_t (catOk_t (by simp only [len, iadd, lapp, List.length_append, List.length_cons, List.length_nil]; omega)), jn_e]
        refine Eq.trans (rkids_loop hkl (fun k => r20_text_r fuelH D (l, k)) Tx hks _ _ (by simp only [lapp, List.length_append, List.length_cons, List.length_nil]; omega)) ?_
        dsimp only
        rw [grd_t (catOk_t (by simp only [len, iadd, lapp, List.length_append, List.length_cons, List.length_nil]; omega)), grd_t (catOk_t (by simp only [len, iadd, lapp, List.length_append, List.length_cons, List.length_nil]; omega)), grd_t (catOk_t (by simp only [len, iadd, lapp, List.length_append, List.length_cons, List.length_nil]; omega))]
        unfold clT
        simp [lapp]
theorem rprint_eq {l : List Nd} (hs : bkL wtN l ≤ 1048576) : r20_Print fuelH l = some (printP l) := by
  have hsm := sm_of hs
  have hll : l.length ≤ 1048576 := Nat.le_trans (bk_len (f := wtN) (fun n => by unfold wtN; omega) l) hs
  unfold r20_Print printP
  rw [rcheck_eq (by omega) hsm, bnd_some']
  by_cases hc : chkE l = 0
  · obtain ⟨h0, h8, hat⟩ := chk_at hc
    have hd := deep_of hat
    have htx : ∀ i (h : i + 1 < l.length), l[i].1 = [] → dep l[i + 1] ≤ dep l[i] := fun i h e => by
      apply Classical.byContradiction
      intro k
      exact (hd.low i h).2.2 (by omega) e
    obtain ⟨t, h1, h2⟩ := rtext_run h8 hs hd htx fuelH 0 0 (by have := fuelH_eq; omega) h0 (hd.root h0)
    have h1 : r20_text fuelH (l, (0 : Int)) = some t := h1
    have h3 := h2 [] rfl
    have h4 : endI 0 1 l = l.length := by
      have := endI_head (l := l) (d := 0) _ 1 (Nat.le_refl _)
      have hge : ∀ k, 1 ≤ endI 0 k l ∨ k = 0 := fun k => by unfold endI; omega
      apply Classical.byContradiction
      intro k
      have hle : endI 0 1 l ≤ l.length := by
        unfold endI
        have := (List.takeWhile_sublist (l := l.drop 1) (fun n => decide (0 < dep n))).length_le
        rw [List.length_drop] at this
        omega
      have hlt : endI 0 1 l < l.length := by omega
      have h5 := this hlt
      have hg : 1 ≤ endI 0 1 l := by unfold endI; omega
      obtain ⟨j, ej⟩ : ∃ j, endI 0 1 l = j + 1 := ⟨endI 0 1 l - 1, by omega⟩
      simp only [ej] at h5
      have := (hd.low j (by omega)).1
      omega
    have h4 : endI ((0 : Nat) : Int) (0 + 1) l = l.length := h4
    rw [h4, List.drop_length, List.drop_zero] at h3
    have h3 : prT [] l = t := by
      rw [h3]
      show t ++ cls [] = t
      rw [cls_nil, List.append_nil]
    rw [cnd_f (ine_f hc), if_neg (fun k => k hc), h1, bnd_some', h3]
    by_cases h9 : 262144 < t.length
    · rw [cnd_t (ilt_t (by simp only [len]; omega)), if_pos h9]
    · rw [cnd_f (ilt_f (by simp only [len]; omega)), if_neg h9]
  · rw [cnd_t (ine_t hc), if_pos hc]
theorem checks_true {x : List Nd} (hb : bkL wtN x + 1 + 0 ≤ 1048576) : l20_XmlChecks fuelH x = some true := by
  have hbt : bkL wtN (x.take 24) ≤ 1048576 := Nat.le_trans (bk_take 24 x) (by omega)
  have hsm := sm_of hbt
  have hl : (x.take 24).length ≤ 24 := by rw [List.length_take]; omega
  unfold l20_XmlChecks
  rw [awake20, bnd_some', cnd_f (by rfl), few20, bnd_some', print_eq hbt, bnd_some', rprint_eq hbt, bnd_some', check_eq (by omega) hsm, bnd_some', rcheck_eq (by omega) hsm, bnd_some', cnd_t (ieq_t rfl), cnd_t (by rw [seq_t]), ieq_t rfl]
end
end Go.Mo
end
