/-
  Texts put together, in build order: XB XC XD XE XF XG XH XI XJ XK XL XM XN XP XQ XR XS XW XX XY XZ XZa XZb.
-/
import Derived.Test.YtihkkflfdblpcaaGreatDoorKA
import Derived.Test.YtihkkflfdblpcaaGreatDoorZC
import Derived.KernelRfl
import Derived.Lib.ValidLaws
import Derived.Lib.TrimUEq
import Derived.Lib.MapLaws
import Derived.Lib.IndexMore
set_option linter.all false

section
/-
  Plain facts of earlier chapters, put together by a program.
-/
set_option linter.all false
section
/-
  Plain facts on the words of models; what is made of bytes.
-/
namespace Go.Mo
open Go Go.W

theorem grd_t {α : Type} {b : Bool} {k : Option α} (h : b = true) : grd b k = k := by subst h; rfl
theorem cnd_t {α : Type} {b : Bool} {x y : Option α} (h : b = true) : cnd b x y = x := by subst h; rfl
theorem cnd_f {α : Type} {b : Bool} {x y : Option α} (h : b = false) : cnd b x y = y := by subst h; rfl
theorem bnd_s {α β : Type} {x : Option α} {a : α} {k : α → Option β} (h : x = some a) : bnd x k = k a := by subst h; rfl
theorem jn_e {F α : Type} {k : F} {t : F → Option α} : jn k t = t k := rfl
theorem fixN_s {V R : Type} {F : (V → Option R) → V → Option R} {n : Nat} {v : V} : fixN F (n + 1) v = F (fixN F n) v := rfl
theorem w64_id {x : Int} (h : -9223372036854775808 ≤ x ∧ x ≤ 9223372036854775807) : w64 x = x := by
  show IntKind.wrap .i64 x = x
  unfold IntKind.wrap
  simp only [IntKind.bits, IntKind.signed, Bool.true_and, decide_eq_true_eq, show (2 : Int) ^ 64 = 18446744073709551616 from rfl, show (2 : Int) ^ (64 - 1) = 9223372036854775808 from rfl]
  split <;> omega
theorem ilt_t {a b : Int} (h : a < b) : ilt a b = true := decide_eq_true h
theorem ilt_f {a b : Int} (h : ¬ a < b) : ilt a b = false := decide_eq_false h
theorem ile_t {a b : Int} (h : a ≤ b) : ile a b = true := decide_eq_true h
theorem ile_f {a b : Int} (h : ¬ a ≤ b) : ile a b = false := decide_eq_false h
theorem ieq_t {a b : Int} (h : a = b) : ieq a b = true := by subst h; simp [ieq]
theorem ieq_f {a b : Int} (h : a ≠ b) : ieq a b = false := by simp [ieq, h]
theorem ine_t {a b : Int} (h : a ≠ b) : ine a b = true := by simp [ine, h]
theorem ine_f {a b : Int} (h : a = b) : ine a b = false := by simp [ine, h]
theorem inb_t {i n : Int} (h : 0 ≤ i ∧ i < n) : inb i n = true := decide_eq_true h
theorem in2_t {i n : Int} (h : 0 ≤ i ∧ i ≤ n) : in2 i n = true := decide_eq_true h
theorem room_t {n : Int} {b : Nat} (h : n * b ≤ 140737488355328) : room n b = true := decide_eq_true h
theorem n8_inj {a b : UInt8} (h : n8 a = n8 b) : a = b := by
  unfold n8 at h
  apply UInt8.toNat_inj.1
  omega
end Go.Mo
end

section
/-
  Plain facts: rates, labels, the repertoire of characters.
-/
namespace Go.Mo
open Go Go.W
set_option maxRecDepth 100000

theorem all_u8 {P : UInt8 → Bool} (h : ((List.range 256).all fun n => P (UInt8.ofNat n)) = true) (x : UInt8) : P x = true := by
  have h1 : x.toNat < 256 := x.toNat_lt
  have := List.all_eq_true.1 h x.toNat (List.mem_range.2 h1)
  simpa using this
end Go.Mo
end

section
/-
  Plain facts: the repertoire of characters.
-/
namespace Go.Mo
open Go Go.W
set_option maxRecDepth 100000
/-- some number: the kernel does not know which -/
noncomputable def fuelM : Nat := Classical.choose (⟨7995000, rfl⟩ : ∃ n : Nat, n = 7995000)
noncomputable def fuelH : Nat := fuelM + 5000
theorem fuelH_eq : fuelH = 8000000 := by
  have h : fuelM = 7995000 := Classical.choose_spec (⟨7995000, rfl⟩ : ∃ n : Nat, n = 7995000)
  unfold fuelH
  rw [h]
/-- the characters behind ASCII -/
def hiRunes : List Int := [161, 162, 163, 164, 165, 166, 167, 169, 171, 174, 176, 183, 187, 189, 191, 192, 193, 194, 195, 196, 197, 198, 199, 200, 201, 202, 203, 204, 205, 206, 207, 209, 210, 211, 212, 213, 214, 216, 217, 218, 219, 220, 223, 224, 225, 226, 227, 228, 229, 230, 231, 232, 233, 234, 235, 236, 237, 238, 239, 241, 242, 243, 244, 245, 246, 248, 249, 250, 251, 252, 338, 339, 8212, 8216, 8217, 8220, 8221, 8226, 8230, 8482, 9834]
def loRunes : List Int := (List.range 95).map fun n => ((n + 32 : Nat) : Int)
def chain : List Int → Int → Int → Option Int
  | [], _, _ => some (-1)
  | c :: l, i, r => cnd (ieq c r) (some i) (chain l (iadd i 1) r)
def rep : List UInt8 := [32, 33, 34, 35, 36, 37, 38, 39, 40, 41, 42, 43, 44, 45, 46, 47, 48, 49, 50, 51, 52, 53, 54, 55, 56, 57, 58, 59, 60, 61, 62, 63, 64, 65, 66, 67, 68, 69, 70, 71, 72, 73, 74, 75, 76, 77, 78, 79, 80, 81, 82, 83, 84, 85, 86, 87, 88, 89, 90, 91, 92, 93, 94, 95, 96, 97, 98, 99, 100, 101, 102, 103, 104, 105, 106, 107, 108, 109, 110, 111, 112, 113, 114, 115, 116, 117, 118, 119, 120, 121, 122, 123, 124, 125, 126, 194, 161, 194, 162, 194, 163, 194, 164, 194, 165, 194, 166, 194, 167, 194, 169, 194, 171, 194, 174, 194, 176, 194, 183, 194, 187, 194, 189, 194, 191, 195, 128, 195, 129, 195, 130, 195, 131, 195, 132, 195, 133, 195, 134, 195, 135, 195, 136, 195, 137, 195, 138, 195, 139, 195, 140, 195, 141, 195, 142, 195, 143, 195, 145, 195, 146, 195, 147, 195, 148, 195, 149, 195, 150, 195, 152, 195, 153, 195, 154, 195, 155, 195, 156, 195, 159, 195, 160, 195, 161, 195, 162, 195, 163, 195, 164, 195, 165, 195, 166, 195, 167, 195, 168, 195, 169, 195, 170, 195, 171, 195, 172, 195, 173, 195, 174, 195, 175, 195, 177, 195, 178, 195, 179, 195, 180, 195, 181, 195, 182, 195, 184, 195, 185, 195, 186, 195, 187, 195, 188, 197, 146, 197, 147, 226, 128, 148, 226, 128, 152, 226, 128, 153, 226, 128, 156, 226, 128, 157, 226, 128, 162, 226, 128, 166, 226, 132, 162, 226, 153, 170]
theorem place_eqN (N : Nat) (r : Int) : charset_place (N + 300) (rep, r) = chain (loRunes ++ hiRunes) 0 r := by kernel_rfl
theorem place_eq (r : Int) : charset_place fuelH (rep, r) = chain (loRunes ++ hiRunes) 0 r := place_eqN (fuelM + 4700) r
theorem r08_indexN (N : Nat) (r : Int) : r08_Index N r = cnd (ile 32 r) (cnd (ile r 126) (some (w64 (wr .i32 (isub r 32)))) (charset_place N (rep, r))) (charset_place N (rep, r)) := by kernel_rfl
theorem r08_index (r : Int) : r08_Index fuelH r = cnd (ile 32 r) (cnd (ile r 126) (some (w64 (wr .i32 (isub r 32)))) (charset_place fuelH (rep, r))) (charset_place fuelH (rep, r)) := r08_indexN fuelH r
theorem ch_indexN (N : Nat) (r : Int) : charset_Index N r = cnd (ile 32 r) (cnd (ile r 126) (some (w64 (wr .i32 (isub r 32)))) (bnd (charset_place N (rep, r)) fun v => some v)) (bnd (charset_place N (rep, r)) fun v => some v) := by kernel_rfl
theorem ch_index (r : Int) : charset_Index fuelH r = cnd (ile 32 r) (cnd (ile r 126) (some (w64 (wr .i32 (isub r 32)))) (bnd (charset_place fuelH (rep, r)) fun v => some v)) (bnd (charset_place fuelH (rep, r)) fun v => some v) := ch_indexN fuelH r
theorem chain_ok : ∀ (l : List Int) (i r : Int), 0 ≤ i → ∃ k, chain l i r = some k ∧ (k < 0 ↔ l.contains r = false)
  | [], i, r, _ => ⟨-1, rfl, by simp⟩
  | c :: l, i, r, h => by
    by_cases hc : c = r
    · exact ⟨i, by simp only [chain]; rw [cnd_t (ieq_t hc)], by subst hc; simp; omega⟩
    · obtain ⟨k, h1, h2⟩ := chain_ok l (iadd i 1) r (by show 0 ≤ i + 1; omega)
      refine ⟨k, by simp only [chain]; rw [cnd_f (ieq_f hc)]; exact h1, ?_⟩
      rw [h2]
      simp only [List.contains_cons, Bool.or_eq_false_iff]
      exact ⟨fun h => ⟨by simpa using fun e => hc e.symm, h⟩, fun h => h.2⟩
def inRep (r : Int) : Bool := (decide (32 ≤ r) && decide (r ≤ 126)) || hiRunes.contains r
theorem wi32_id {x : Int} (h : 0 ≤ x ∧ x < 1000) : wr .i32 x = x := by
  show IntKind.wrap .i32 x = x
  unfold IntKind.wrap
  simp only [IntKind.bits, IntKind.signed, Bool.true_and, decide_eq_true_eq, show (2 : Int) ^ 32 = 4294967296 from rfl, show (2 : Int) ^ (32 - 1) = 2147483648 from rfl]
  split <;> omega
theorem lo_mem (r : Int) : loRunes.contains r = (decide (32 ≤ r) && decide (r ≤ 126)) := by
  rw [Bool.eq_iff_iff]
  simp only [loRunes, List.contains_iff_mem, List.mem_map, List.mem_range, Bool.and_eq_true, decide_eq_true_eq]
  constructor
  · rintro ⟨n, hn, rfl⟩; omega
  · intro h; exact ⟨(r - 32).toNat, by omega, by omega⟩
theorem index_some (r : Int) : ∃ i, charset_Index fuelH r = some i ∧ r08_Index fuelH r = some i ∧ (i < 0 ↔ inRep r = false) := by
  rw [ch_index, r08_index, place_eq]
  obtain ⟨k, h1, h2⟩ := chain_ok (loRunes ++ hiRunes) 0 r (Int.le_refl _)
  have hin : (loRunes ++ hiRunes).contains r = inRep r := by
    unfold inRep
    rw [← lo_mem]
    simp [List.contains_eq_mem, List.mem_append]
  rw [hin] at h2
  by_cases ha : 32 ≤ r
  · rw [cnd_t (ile_t ha), cnd_t (ile_t ha)]
    by_cases hb : r ≤ 126
    · rw [cnd_t (ile_t hb), cnd_t (ile_t hb)]
      refine ⟨_, rfl, rfl, ?_⟩
      have : w64 (wr .i32 (isub r 32)) = r - 32 := by
        simp only [isub]
        rw [wi32_id (by omega), w64_id (by omega)]
      rw [this]
      simp [inRep, ha, hb]
    · rw [cnd_f (ile_f hb), cnd_f (ile_f hb)]
      exact ⟨k, by rw [bnd_s h1], h1, h2⟩
  · rw [cnd_f (ile_f ha), cnd_f (ile_f ha)]
    exact ⟨k, by rw [bnd_s h1], h1, h2⟩
theorem index_stl (r : Int) : ∃ i, charset_Index fuelH r = some i ∧ (i < 0 ↔ inRep r = false) := by
  rw [ch_index, place_eq]
  obtain ⟨k, h1, h2⟩ := chain_ok (loRunes ++ hiRunes) 0 r (Int.le_refl _)
  have hin : (loRunes ++ hiRunes).contains r = inRep r := by
    unfold inRep
    rw [← lo_mem]
    simp [List.contains_eq_mem, List.mem_append]
  rw [hin] at h2
  by_cases ha : 32 ≤ r
  · rw [cnd_t (ile_t ha)]
    by_cases hb : r ≤ 126
    · rw [cnd_t (ile_t hb)]
      refine ⟨_, rfl, ?_⟩
      have : w64 (wr .i32 (isub r 32)) = r - 32 := by
        simp only [isub]
        rw [wi32_id (by omega), w64_id (by omega)]
      rw [this]
      simp [inRep, ha, hb]
    · rw [cnd_f (ile_f hb)]
      exact ⟨k, by rw [bnd_s h1], h2⟩
  · rw [cnd_f (ile_f ha)]
    exact ⟨k, by rw [bnd_s h1], h2⟩
end Go.Mo
end

section
/-
  Plain facts: texts of the repertoire.
-/
namespace Go.Mo
open Go Go.W Go.Lib
set_option maxRecDepth 100000

theorem dec_pos (l : List UInt8) : 1 ≤ (decodeL l).2 := by
  unfold decodeL Utf8.decode
  simp only
  repeat' split
  all_goals first | exact Nat.le_refl _ | (show 1 ≤ _; omega)
theorem decR_eq (s : List UInt8) (p : Nat) : decR s p = ((decodeL (s.drop p)).1 : Int) := by
  have := decodeL_drop (bst s) p
  have e : (bst s).data.toList = s := rfl
  rw [e] at this
  unfold decR
  rw [this]
theorem decW_eq (s : List UInt8) (p : Nat) : decW s p = (decodeL (s.drop p)).2 := by
  have := decodeL_drop (bst s) p
  have e : (bst s).data.toList = s := rfl
  rw [e] at this
  unfold decW
  rw [this]

def rok : Nat → List UInt8 → Bool
  | 0, _ => true
  | n + 1, l => if l = [] then true else if inRep ((decodeL l).1 : Int) = true then rok n (l.drop (decodeL l).2) else false
/-- characters of the repertoire alone -/
def vld (l : List UInt8) : Bool := rok l.length l
theorem rok_nil : ∀ n, rok n [] = true
  | 0 => rfl
  | n + 1 => by simp [rok]
theorem rok_fuel : ∀ (n m : Nat) (l : List UInt8), l.length ≤ n → l.length ≤ m → rok n l = rok m l
  | 0, m, l, h, _ => by
    have : l = [] := List.eq_nil_of_length_eq_zero (by omega)
    subst this
    rw [rok_nil, rok_nil]
  | n + 1, 0, l, _, h => by
    have : l = [] := List.eq_nil_of_length_eq_zero (by omega)
    subst this
    rw [rok_nil, rok_nil]
  | n + 1, m + 1, l, h1, h2 => by
    by_cases hl : l = []
    · subst hl; rw [rok_nil, rok_nil]
    · have hp := dec_pos l
      have hlen : 0 < l.length := List.length_pos_iff.2 hl
      simp only [rok, hl, if_false]
      split
      · exact rok_fuel n m _ (by simp; omega) (by simp; omega)
      · rfl
theorem vld_step (l : List UInt8) (hl : l ≠ []) : vld l = if inRep ((decodeL l).1 : Int) = true then vld (l.drop (decodeL l).2) else false := by
  have hp := dec_pos l
  have hlen : 0 < l.length := List.length_pos_iff.2 hl
  unfold vld
  obtain ⟨n, hn⟩ : ∃ n, l.length = n + 1 := ⟨l.length - 1, by omega⟩
  rw [hn]
  simp only [rok, hl, if_false]
  split
  · exact rok_fuel _ _ _ (by simp; omega) (Nat.le_refl _)
  · rfl
theorem vld_valid : ∀ (n : Nat) (l : List UInt8), l.length ≤ n → vld l = true → validD l = true
  | n, l, h, hv => by
    by_cases hl : l = []
    · subst hl; rfl
    · have hlen : 0 < l.length := List.length_pos_iff.2 hl
      have hp := dec_pos l
      rw [vld_step l hl] at hv
      split at hv
      · rename_i hr
        rw [validD_step l hl, if_neg ?_]
        · cases n with
          | zero => omega
          | succ n => exact vld_valid n _ (by simp; omega) hv
        · rintro ⟨e, _⟩
          rw [e] at hr
          exact absurd hr (by decide)
      · cases hv

theorem valid_loop {s : List UInt8} (hs : s.length ≤ 100000000) (Ix : Int → Option Int) (hI : ∀ r : Int, ∃ i, Ix r = some i ∧ (i < 0 ↔ inRep r = false)) : ∀ (fuel p : Nat), s.length - p < fuel → p ≤ s.length →
    fixN (fun v2 (v3 : (List UInt8) × Int) =>
    cnd (nlt (toN v3.2) (nlen v3.1))
      (bnd (Ix (decR v3.1 (toN v3.2))) fun v4 =>
      cnd (ilt v4 (0 : Int))
        (some false)
        (v2 (v3.1, ofN (nadd (toN v3.2) (decW v3.1 (toN v3.2))))))
      (some true)) fuel (s, ofN p) = some (vld (s.drop p))
  | 0, p, h, _ => by omega
  | fuel + 1, p, h, hp => by
    rw [fixN_s]
    have et : toN (ofN p) = p := by simp [toN, ofN]
    simp only [et]
    by_cases hl : p < s.length
    · have hne : s.drop p ≠ [] := by intro e; have := congrArg List.length e; simp at this; omega
      have hw := dec_pos (s.drop p)
      have hle := decodeL_le (s.drop p) hne
      rw [List.length_drop] at hle
      rw [cnd_t (show nlt p (nlen s) = true from decide_eq_true hl)]
      obtain ⟨i, h1, h2⟩ := hI (decR s p)
      rw [bnd_s h1]
      rw [vld_step _ hne, ← decR_eq]
      by_cases hi : i < 0
      · rw [cnd_t (ilt_t hi), if_neg (by rw [h2.1 hi]; decide)]
      · rw [cnd_f (ilt_f hi)]
        have hin : inRep (decR s p) = true := by
          cases hq : inRep (decR s p) with
          | true => rfl
          | false => exact absurd (h2.2 hq) hi
        rw [if_pos hin, decW_eq, List.drop_drop]
        show fixN _ fuel (s, ofN (p + (decodeL (s.drop p)).2)) = _
        exact valid_loop hs Ix hI fuel _ (by omega) (by omega)
    · rw [cnd_f (show nlt p (nlen s) = false from decide_eq_false hl)]
      have : s.drop p = [] := by simp; omega
      rw [this]
      rfl
theorem r08_valid (s : List UInt8) (hs : s.length ≤ 4000000) : r08_Valid fuelH s = some (vld s) := by
  unfold r08_Valid
  simp only [jn_e]
  have := valid_loop (s := s) (by omega) (r08_Index fuelH) (fun r => by obtain ⟨i, _, h2, h3⟩ := index_some r; exact ⟨i, h2, h3⟩) fuelH 0 (by have := fuelH_eq; omega) (Nat.zero_le _)
  simpa using this
theorem ch_valid (s : List UInt8) (hs : s.length ≤ 4000000) : charset_Valid fuelH s = some (vld s) := by
  unfold charset_Valid
  have hv : utf8_ValidString fuelH s = some (validD s) := by
    show grd (catOk (len s)) (some (validD s)) = _
    exact grd_t (decide_eq_true (by simp only [len]; omega))
  rw [bnd_s hv]
  simp only [jn_e]
  cases hd : validD s with
  | false =>
    rw [cnd_t (show bnot false = true from rfl)]
    cases hq : vld s with
    | false => rfl
    | true => rw [vld_valid _ s (Nat.le_refl _) hq] at hd; cases hd
  | true =>
    rw [cnd_f (show bnot true = false from rfl)]
    have := valid_loop (s := s) (by omega) (charset_Index fuelH) (fun r => by obtain ⟨i, h2, h3⟩ := index_stl r; exact ⟨i, h2, h3⟩) fuelH 0 (by have := fuelH_eq; omega) (Nat.zero_le _)
    simpa using this
end Go.Mo
end

section
/-
  Plain facts: names; the check of a header.
-/
namespace Go.Mo
open Go Go.W Go.Lib
set_option maxRecDepth 100000

theorem cnd_dec {α : Type} {p : Prop} [Decidable p] {x y : Option α} : cnd (decide p) x y = if p then x else y := by
  by_cases h : p
  · rw [cnd_t (decide_eq_true h), if_pos h]
  · rw [cnd_f (decide_eq_false h), if_neg h]
theorem cnd_ieq {α : Type} {a b : Int} {x y : Option α} : cnd (ieq a b) x y = if a = b then x else y := by
  by_cases h : a = b
  · rw [cnd_t (ieq_t h), if_pos h]
  · rw [cnd_f (ieq_f h), if_neg h]
/-- may stand in a name -/
def okc (c : Int) : Bool := decide ((65 ≤ c ∧ c ≤ 90) ∨ (48 ≤ c ∧ c ≤ 57) ∨ c = 95 ∨ c = 45)
def upc (c : Int) : Bool := decide (65 ≤ c ∧ c ≤ 90)
/-- a name -/
def nm (s : List UInt8) : Bool := decide (1 ≤ s.length ∧ s.length ≤ 16) && upc (n8 (s.getD 0 0)) && s.all fun c => okc (n8 c)
end Go.Mo
end

section
/-
  Plain facts: the check of a header.
-/
namespace Go.Mo
open Go Go.W Go.Lib
set_option maxRecDepth 100000
abbrev Lbl := Int × Int × Int × Int × Bool
abbrev Hdr := UInt8 × (List UInt8) × (List UInt8) × Int × Int × Lbl × Lbl × Int × Int
theorem bnd_some' {α β : Type} {a : α} {k : α → Option β} : bnd (some a) k = k a := rfl
end Go.Mo
end

section
/-
  Plain facts: the characters of a text, and the text of characters.
-/
namespace Go.Mo
open Go Go.W Go.Lib
set_option maxRecDepth 100000

theorem rep_mem {r : Int} (h : inRep r = true) : r ∈ loRunes ++ hiRunes := by
  unfold inRep at h
  rw [← lo_mem, Bool.or_eq_true] at h
  rw [List.mem_append]
  rcases h with h | h
  · exact .inl (List.contains_iff_mem.1 h)
  · exact .inr (List.contains_iff_mem.1 h)
theorem all_rep {P : Int → Bool} (h : ((loRunes ++ hiRunes).all P) = true) {r : Int} (hr : inRep r = true) : P r = true :=
  List.all_eq_true.1 h r (rep_mem hr)
theorem w64_succ {i n : Nat} (h : i < n) (hn : n ≤ 9223372036854775807) : w64 (iadd (i : Int) 1) = ((i + 1 : Nat) : Int) := by
  simp only [iadd]; rw [w64_id (by omega)]; omega
theorem lget_i {α : Type} {l : List α} {i : Nat} {d : α} (h : i < l.length) : lget l (toN (i : Int)) d = l[i] := by simp [lget, toN, h]
end Go.Mo
end

section
/-
  Plain facts: the characters of the tape form.
-/
namespace Go.Mo
open Go Go.W Go.Lib
set_option maxRecDepth 100000

def ixE (r : Int) : Option Int := cnd (ile 32 r) (cnd (ile r 126) (some (w64 (wr .i32 (isub r 32)))) (chain (loRunes ++ hiRunes) 0 r)) (chain (loRunes ++ hiRunes) 0 r)
def ix (r : Int) : Int := (ixE r).getD 0
/-- the letter of a letter with a diacritic -/
def basT : List Int := [33, 99, 76, 36, 89, 124, 83, 67, 34, 82, 111, 46, 34, 50, 63, 65, 65, 65, 65, 65, 65, 65, 67, 69, 69, 69, 69, 73, 73, 73, 73, 78, 79, 79, 79, 79, 79, 79, 85, 85, 85, 85, 115, 97, 97, 97, 97, 97, 97, 97, 99, 101, 101, 101, 101, 105, 105, 105, 105, 110, 111, 111, 111, 111, 111, 111, 117, 117, 117, 117, 79, 111, 45, 39, 39, 34, 34, 46, 46, 84, 35]
def bas (r : Int) : Int := if r < 127 then r else basT.getD ((ix r).toNat - 95) 0
/-- the bytes of diacritics, and their letters -/
def accs : List (UInt8 × List UInt8 × List Int) := [(193, [195, 128, 195, 136, 195, 140, 195, 146, 195, 153], [192, 200, 204, 210, 217]), (194, [195, 129, 195, 137, 195, 141, 195, 147, 195, 154], [193, 201, 205, 211, 218]), (195, [195, 130, 195, 138, 195, 142, 195, 148, 195, 155], [194, 202, 206, 212, 219]), (196, [195, 131, 195, 145, 195, 149], [195, 209, 213]), (197, [], []), (198, [], []), (199, [], []), (200, [195, 132, 195, 139, 195, 143, 195, 150, 195, 156], [196, 203, 207, 214, 220]), (201, [], []), (202, [195, 133], [197]), (203, [195, 135], [199])]
def sgs : List (Int × UInt8) := [(161, 161), (162, 162), (163, 163), (164, 164), (165, 165), (166, 166), (167, 167), (169, 168), (8216, 169), (8220, 170), (171, 171), (174, 172), (8212, 173), (8226, 174), (8230, 175), (176, 176), (8482, 180), (183, 183), (8217, 185), (8221, 186), (187, 187), (189, 189), (191, 191), (9834, 213), (198, 225), (216, 233), (338, 234), (230, 241), (248, 249), (339, 250), (223, 251)]
end Go.Mo
end

section
/-
  Plain facts: texts in the characters of the tape form.
-/
namespace Go.Mo
open Go Go.W Go.Lib
set_option maxRecDepth 100000

end Go.Mo
end

section
/-
  Small plain facts: bytes, lengths, equality of texts.
-/
namespace Go.Mo
open Go Go.W Go.Lib
set_option maxRecDepth 100000
noncomputable section
theorem catOk_t {n : Int} (h : n ≤ 9223372036854775807) : catOk n = true := decide_eq_true h
theorem enc_len {r : Int} (hr : inRep r = true) : (enc r).length ≤ 4 :=
  of_decide_eq_true (all_rep (P := fun r => decide ((enc r).length ≤ 4)) (by kernel_rfl) hr)
theorem seq_dec (x y : List UInt8) : seq x y = decide (x = y) := by
  unfold seq
  by_cases h : x = y
  · subst h; simp
  · rw [decide_eq_false h]
    simpa using h
end
end Go.Mo
end

section
/-
  Plain facts: characters of the tape form read back.
-/
namespace Go.Mo
open Go Go.W Go.Lib
set_option maxRecDepth 100000
noncomputable section

/-- the small letter -/
def low (r : Int) : Int := if (65 ≤ r ∧ r ≤ 90) ∨ (192 ≤ r ∧ r < 223) then r + 32 else if r = 338 then 339 else r
def accR (a : UInt8) : List Int := match accs.find? fun x => x.1 == a with
  | some x => x.2.2
  | none => []
def acG : List Int → UInt8 → Option (Int × Int)
  | [], _ => some (0, 0)
  | r :: l, b => cnd (ieq (bas r) (n8 b)) (some (r, (2 : Int))) (cnd (ieq (bas (low r)) (n8 b)) (some (low r, (2 : Int))) (acG l b))
def sgF (a : UInt8) : Option (Int × UInt8) := sgs.find? fun x => n8 x.2 == n8 a
end
end Go.Mo
end

section
/-
  Plain facts: rates, names, on both sides.
-/
namespace Go.Mo
open Go Go.W Go.Lib
set_option maxRecDepth 100000
noncomputable section
end
end Go.Mo
end

section
/-
  Plain facts: rows of text, their check, their normal form.
-/
namespace Go.Mo
open Go Go.W Go.Lib
set_option maxRecDepth 100000
theorem cnd_ite {α : Type} {b : Bool} {x y : Option α} : cnd b x y = if b = true then x else y := by cases b <;> rfl
theorem seq_t {a b : List UInt8} : (seq a b = true) = (a = b) := by rw [seq_dec]; simp
theorem w64_pred {i : Nat} (h : 0 < i) (hn : i ≤ 9223372036854775807) : w64 (isub (i : Int) 1) = ((i - 1 : Nat) : Int) := by
  simp only [isub]; rw [w64_id (by omega)]; omega
end Go.Mo
end

section
/-
  Plain facts: loops with an invariant; the normal form of a row.
-/
namespace Go.Mo
open Go Go.W Go.Lib
set_option maxRecDepth 100000

end Go.Mo
end

section
/-
  Plain facts: the bytes of rows.
-/
namespace Go.Mo
open Go Go.W Go.Lib
set_option maxRecDepth 100000
noncomputable section

end
end Go.Mo
end

section
/-
  Plain facts: rows that are read from bytes, on both sides.
-/
namespace Go.Mo
open Go Go.W Go.Lib
set_option maxRecDepth 100000
noncomputable section

def g1 (a : UInt8) : Option Int := if 32 ≤ n8 a ∧ n8 a < 127 then some (n8 a) else (sgF a).map (·.1)
def g2 (a b : UInt8) : Int × Int := (acG (accR a) b).getD (0, 0)
end
end Go.Mo
end

section
/-
  Plain facts: rows that are read by the reference; equality of rows; StlTexts returns true.
-/
namespace Go.Mo
open Go Go.W Go.Lib
set_option maxRecDepth 100000
noncomputable section

end
end Go.Mo
end

section
/-
  Plain facts: StlTexts returns true.
-/
namespace Go.Mo
open Go Go.W Go.Lib
set_option maxRecDepth 100000
noncomputable section
end
end Go.Mo
end

section
/-
  Plain facts: StlReturns returns true.
-/
namespace Go.Mo
open Go Go.W Go.Lib
set_option maxRecDepth 100000
noncomputable section

end
end Go.Mo
end

section
/-
  Plain facts: regions, their check, a region by its name, the places of rows.
-/
namespace Go.Mo
open Go Go.W Go.Lib
set_option maxRecDepth 100000
noncomputable section
end
end Go.Mo
end

section
/-
  Plain facts: the places of rows.
-/
namespace Go.Mo
open Go Go.W Go.Lib
set_option maxRecDepth 100000
noncomputable section

end
end Go.Mo
end

section
/-
  Plain facts: the text and the length of a row; events and their check.
-/
namespace Go.Mo
open Go Go.W Go.Lib
set_option maxRecDepth 100000
noncomputable section
end
end Go.Mo
end

section
/-
  Plain facts: the check of an event, on both sides; spots; the length of an event.
-/
namespace Go.Mo
open Go Go.W Go.Lib
set_option maxRecDepth 100000
noncomputable section

end
end Go.Mo
end

section
/-
  Plain facts: the header of a document; events by their number; the length of an event.
-/
namespace Go.Mo
open Go Go.W Go.Lib
set_option maxRecDepth 100000
noncomputable section
end
end Go.Mo
end

section
/-
  Plain facts: the events of a document, checked one after the other; the length of an event.
-/
namespace Go.Mo
open Go Go.W Go.Lib
set_option maxRecDepth 100000
noncomputable section

end
end Go.Mo
end

section
/-
  Plain facts: the comments of a document, on both sides.
-/
namespace Go.Mo
open Go Go.W Go.Lib
set_option maxRecDepth 100000
noncomputable section

end
end Go.Mo
end

section
/-
  Plain facts: the check of a document is the specified one.
-/
namespace Go.Mo
open Go Go.W Go.Lib
set_option maxRecDepth 100000
noncomputable section

end
end Go.Mo
end

section
/-
  Plain facts: the place of a good event, and its region.
-/
namespace Go.Mo
open Go Go.W Go.Lib
set_option maxRecDepth 100000
noncomputable section

end
end Go.Mo
end

section
/-
  Plain facts: the document as the form carries it, on both sides.
-/
namespace Go.Mo
open Go Go.W Go.Lib
set_option maxRecDepth 100000
noncomputable section

end
end Go.Mo
end

section
/-
  Plain facts: a document is the same as itself; StlAccepts returns true.
-/
namespace Go.Mo
open Go Go.W Go.Lib
set_option maxRecDepth 100000
noncomputable section

end
end Go.Mo
end

section
/-
  Plain facts: StlAccepts returns true.
-/
namespace Go.Mo
open Go Go.W Go.Lib
set_option maxRecDepth 100000
noncomputable section

end
end Go.Mo
end

section
/-
  Plain facts: texts that are joined; the normal form of a row that is good.
-/
namespace Go.Mo
open Go Go.W Go.Lib
set_option maxRecDepth 100000
noncomputable section

end
end Go.Mo
end

section
/-
  Plain facts: the regions of a reduced document; its events stand where they stood.
-/
namespace Go.Mo
open Go Go.W Go.Lib
set_option maxRecDepth 100000
noncomputable section

end
end Go.Mo
end

section
/-
  Plain facts: a reduced document is good; StlReduced returns true.
-/
namespace Go.Mo
open Go Go.W Go.Lib
set_option maxRecDepth 100000
noncomputable section

end
end Go.Mo
end

section
/-
  Plain facts: digits and the bytes of a header.
-/
namespace Go.Mo
open Go Go.W Go.Lib
set_option maxRecDepth 100000

end Go.Mo
end

section
/-
  Plain facts: what the check of a header lets through; the bytes of a header.
-/
namespace Go.Mo
open Go Go.W Go.Lib
set_option maxRecDepth 100000
noncomputable section

def lblOk (l : Lbl) : Prop := (0 ≤ l.1 ∧ l.1 ≤ 23) ∧ (0 ≤ l.2.1 ∧ l.2.1 ≤ 59) ∧ (0 ≤ l.2.2.1 ∧ l.2.2.1 ≤ 59) ∧ (0 ≤ l.2.2.2.1 ∧ l.2.2.2.1 ≤ 59)
structure HdrOk (h : Hdr) : Prop where
  rate : h.1 = 3 ∨ h.1 = 5
  lang : h.2.1 = [] ∨ nm h.2.1 = true
  ttl : vld h.2.2.1 = true
  ttlL : h.2.2.1.length ≤ 400
  blocks : 0 ≤ h.2.2.2.1 ∧ h.2.2.2.1 ≤ 99999
  groups : 0 ≤ h.2.2.2.2.1 ∧ h.2.2.2.2.1 ≤ 99999
  start : lblOk h.2.2.2.2.2.1
  first : lblOk h.2.2.2.2.2.2.1
  rows : 0 ≤ h.2.2.2.2.2.2.2.1 ∧ h.2.2.2.2.2.2.2.1 ≤ 99
  cols : 0 ≤ h.2.2.2.2.2.2.2.2 ∧ h.2.2.2.2.2.2.2.2 ≤ 99
  d1 : h.2.2.2.2.2.1.2.2.2.2 = false
  d2 : h.2.2.2.2.2.2.1.2.2.2.2 = false
end
end Go.Mo
end

section
/-
  Plain facts: numbers and names read back.
-/
namespace Go.Mo
open Go Go.W Go.Lib
set_option maxRecDepth 100000
noncomputable section

end
end Go.Mo
end

section
/-
  Plain facts: a header read back; TapeHeaders.
-/
namespace Go.Mo
open Go Go.W Go.Lib
set_option maxRecDepth 100000
noncomputable section

def hz : Hdr := ((0 : UInt8), ([] : List UInt8), ([] : List UInt8), (0 : Int), (0 : Int), ((0 : Int), (0 : Int), (0 : Int), (0 : Int), false), ((0 : Int), (0 : Int), (0 : Int), (0 : Int), false), (0 : Int), (0 : Int))
end
end Go.Mo
end

section
/-
  Plain facts: rows that are read are small; a subtitle that is read, both sides.
-/
namespace Go.Mo
open Go Go.W Go.Lib
set_option maxRecDepth 100000
noncomputable section

end
end Go.Mo
end

section
/-
  Plain facts: events in document order, both sides.
-/
namespace Go.Mo
open Go Go.W Go.Lib
set_option maxRecDepth 100000
noncomputable section

end
end Go.Mo
end

section
/-
  Plain facts: the program's sorting of few events.
-/
namespace Go.Mo
open Go Go.W Go.Lib
set_option maxRecDepth 100000
noncomputable section

end
end Go.Mo
end

section
/-
  Plain facts: what is read is a valid document that the form carries; StlValid returns true.
-/
namespace Go.Mo
open Go Go.W Go.Lib
set_option maxRecDepth 100000
noncomputable section

end
end Go.Mo
end

section
/-
  Plain facts: the blocks of a subtitle lead back to it.
-/
namespace Go.Mo
open Go Go.W Go.Lib
set_option maxRecDepth 100000
noncomputable section

end
end Go.Mo
end

section
/-
  Plain facts: the file of an accepted document is read as the reduced document; StlCarries returns true.
-/
namespace Go.Mo
open Go Go.W Go.Lib
set_option maxRecDepth 100000
noncomputable section

end
end Go.Mo
end
end

section
/-
  Plain facts: loops over a text; letters; the escaped text, both sides.
-/
set_option linter.all false
namespace Go.Mo
open Go Go.W Go.Lib
set_option maxRecDepth 100000
noncomputable section

/-- a loop that goes through a list, by steps of any length -/
theorem drop_loop {V R σ α : Type} {F : (V → Option R) → V → Option R} {s : List α} (st : σ → Nat → V) (spec : σ → List α → Option R) (I : Nat → σ → Prop)
    (hstep : ∀ self a i, i ≤ s.length → I i a → (∀ a' j, i < j → j ≤ s.length → I j a' → self (st a' j) = spec a' (s.drop j)) → F self (st a i) = spec a (s.drop i)) :
    ∀ (fuel i : Nat) (a : σ), s.length - i < fuel → i ≤ s.length → I i a → fixN F fuel (st a i) = spec a (s.drop i)
  | 0, i, a, h, _, _ => by omega
  | fuel + 1, i, a, h, hi, hI => by
    rw [fixN_s]
    exact hstep _ a i hi hI fun a' j hj hj2 hI2 => drop_loop st spec I hstep fuel j a' (by omega) hj2 hI2
theorem fuelH_len {α : Type} {s : List α} (h : s.length ≤ 4000000) (i : Nat) : s.length - i < fuelH := by have := fuelH_eq; omega

def letB (x : UInt8) : Bool := (decide (97 ≤ x.toNat) && decide (x.toNat ≤ 122)) || (decide (65 ≤ x.toNat) && decide (x.toNat ≤ 90))
def digB (x : UInt8) : Bool := decide (48 ≤ x.toNat) && decide (x.toNat ≤ 57)
def namB (x : UInt8) : Bool := letB x || digB x || x == 45
def wsB (x : UInt8) : Bool := x == 9 || x == 10 || x == 13 || x == 32
theorem letters_tab : ((List.range 256).all fun n => decide (xml_letter 0 (UInt8.ofNat n) = some (letB (UInt8.ofNat n)) ∧ r20_letter 0 (UInt8.ofNat n) = some (letB (UInt8.ofNat n)) ∧ xml_nameByte 0 (UInt8.ofNat n) = some (namB (UInt8.ofNat n)) ∧ r20_digit 0 (UInt8.ofNat n) = some (digB (UInt8.ofNat n)) ∧ xml_white 0 (UInt8.ofNat n) = some (wsB (UInt8.ofNat n)))) = true := by kernel_rfl
theorem letters (x : UInt8) : xml_letter 0 x = some (letB x) ∧ r20_letter 0 x = some (letB x) ∧ xml_nameByte 0 x = some (namB x) ∧ r20_digit 0 x = some (digB x) ∧ xml_white 0 x = some (wsB x) :=
  of_decide_eq_true (all_u8 (P := fun x => decide (xml_letter 0 x = some (letB x) ∧ r20_letter 0 x = some (letB x) ∧ xml_nameByte 0 x = some (namB x) ∧ r20_digit 0 x = some (digB x) ∧ xml_white 0 x = some (wsB x))) letters_tab x)
theorem letter_eq (N : Nat) (x : UInt8) : xml_letter N x = some (letB x) := (letters x).1
theorem rletter_eq (N : Nat) (x : UInt8) : r20_letter N x = some (letB x) := (letters x).2.1
theorem namb_eq (N : Nat) (x : UInt8) : xml_nameByte N x = some (namB x) := (letters x).2.2.1
theorem rdigit_eq (N : Nat) (x : UInt8) : r20_digit N x = some (digB x) := (letters x).2.2.2.1
theorem white_eq (N : Nat) (x : UInt8) : xml_white N x = some (wsB x) := (letters x).2.2.2.2

end
end Go.Mo
end

section
/-
  Plain facts: what references mean and the text that is meant, both sides.
-/
set_option linter.all false
namespace Go.Mo
open Go Go.W Go.Lib
set_option maxRecDepth 100000
noncomputable section

/-- a loop that goes on while the letters fit -/
theorem scan {R : Type} {F : (Int → Option R) → Int → Option R} {s : List UInt8} (P : UInt8 → Bool) (K : Int → Option R)
    (hin : ∀ self i (h : i < s.length), F self (i : Int) = if P s[i] = true then self ((i + 1 : Nat) : Int) else K i) (hend : ∀ self, F self (s.length : Int) = K s.length) :
    ∀ (fuel i : Nat), s.length - i < fuel → i ≤ s.length → fixN F fuel (i : Int) = K ((i + ((s.drop i).takeWhile P).length : Nat) : Int)
  | 0, i, h, _ => by omega
  | fuel + 1, i, h, hi => by
    rw [fixN_s]
    by_cases hl : i < s.length
    · rw [hin _ i hl, List.drop_eq_getElem_cons hl, List.takeWhile_cons]
      by_cases hp : P s[i] = true
      · rw [if_pos hp, if_pos hp, scan P K hin hend fuel (i + 1) (by omega) (by omega), List.length_cons]
        congr 2
        omega
      · rw [if_neg hp, if_neg hp]
        rfl
    · obtain rfl : i = s.length := by omega
      rw [hend, List.drop_length]
      rfl

def hexV (x : UInt8) : Int := if 48 ≤ x.toNat ∧ x.toNat ≤ 57 then (x.toNat : Int) - 48 else if 97 ≤ x.toNat ∧ x.toNat ≤ 102 then (x.toNat : Int) - 87 else if 65 ≤ x.toNat ∧ x.toNat ≤ 70 then (x.toNat : Int) - 55 else -1
def dgV (base : Int) (x : UInt8) : Int := if base ≤ hexV x then -1 else hexV x
theorem digits_tab : ((List.range 256).all fun n => decide (xml_digit 0 (UInt8.ofNat n, 10) = some (dgV 10 (UInt8.ofNat n)) ∧ xml_digit 0 (UInt8.ofNat n, 16) = some (dgV 16 (UInt8.ofNat n)) ∧ r20_hex 0 (UInt8.ofNat n) = some (hexV (UInt8.ofNat n)) ∧ (-1 ≤ hexV (UInt8.ofNat n) ∧ hexV (UInt8.ofNat n) < 16))) = true := by kernel_rfl
theorem digits (x : UInt8) : xml_digit 0 (x, 10) = some (dgV 10 x) ∧ xml_digit 0 (x, 16) = some (dgV 16 x) ∧ r20_hex 0 x = some (hexV x) ∧ (-1 ≤ hexV x ∧ hexV x < 16) :=
  of_decide_eq_true (all_u8 (P := fun x => decide (xml_digit 0 (x, 10) = some (dgV 10 x) ∧ xml_digit 0 (x, 16) = some (dgV 16 x) ∧ r20_hex 0 x = some (hexV x) ∧ (-1 ≤ hexV x ∧ hexV x < 16))) digits_tab x)
theorem digit_of {base : Int} (hb : base = 10 ∨ base = 16) (N : Nat) (x : UInt8) : xml_digit N (x, base) = some (dgV base x) := by
  rcases hb with rfl | rfl
  · exact (digits x).1
  · exact (digits x).2.1
theorem hex_eq (N : Nat) (x : UInt8) : r20_hex N x = some (hexV x) := (digits x).2.2.1
def dOk (base : Int) (x : UInt8) : Bool := decide (0 ≤ hexV x) && decide (hexV x < base)
def numF (base : Int) (n : Int) (d : List UInt8) : Int := d.foldl (fun n x => n * base + hexV x) n
theorem numF_lt {base : Int} (hb : 0 ≤ base) : ∀ (d : List UInt8) (n : Int), 0 ≤ n → d.all (dOk base) = true → 0 ≤ numF base n d ∧ numF base n d < (n + 1) * base ^ d.length
  | [], n, hn, _ => by simp [numF]; omega
  | x :: d, n, hn, h => by
    rw [List.all_cons, Bool.and_eq_true] at h
    have h1 : 0 ≤ hexV x ∧ hexV x < base := by have := h.1; unfold dOk at this; simpa using this
    have h0 : 0 ≤ n * base := Int.mul_nonneg hn hb
    have ih := numF_lt hb d (n * base + hexV x) (by omega) h.2
    refine ⟨ih.1, Int.lt_of_lt_of_le ih.2 ?_⟩
    rw [List.length_cons, Int.pow_succ, Int.mul_comm (base ^ d.length) base, ← Int.mul_assoc]
    refine Int.mul_le_mul_of_nonneg_right ?_ (Int.pow_nonneg hb)
    rw [Int.add_mul]
    omega
/-- the number of the digits of a reference -/
def refN (base : Int) (most : Nat) (d : List UInt8) : List UInt8 × Int :=
  if d = [] ∨ most < d.length ∨ d.all (dOk base) = false then ([], 4) else if inRep (numF base 0 d) = false then ([], 10) else (enc (numF base 0 d), 0)
/-- what a reference means, without its first and its last letter -/
def refC (c : List UInt8) : List UInt8 × Int :=
  if c = [97, 109, 112] then ([38], 0) else if c = [108, 116] then ([60], 0) else if c = [103, 116] then ([62], 0) else if c = [113, 117, 111, 116] then ([34], 0) else if c = [97, 112, 111, 115] then ([39], 0)
  else if c.take 2 = [35, 120] then refN 16 5 (c.drop 2) else if c.take 1 = [35] then refN 10 6 (c.drop 1) else ([], 4)
def not59 (b : UInt8) : Bool := b != 59
theorem numF_small {base : Int} {most : Nat} {d : List UInt8} (hb : (base = 10 ∧ most = 6) ∨ (base = 16 ∧ most = 5)) (hl : d.length ≤ most) (ha : d.all (dOk base) = true) : 0 ≤ numF base 0 d ∧ numF base 0 d < 1048576 := by
  have h0 : 0 ≤ base := by rcases hb with ⟨rfl, _⟩ | ⟨rfl, _⟩ <;> decide
  have h := numF_lt h0 d 0 (Int.le_refl _) ha
  refine ⟨h.1, Int.lt_of_lt_of_le h.2 ?_⟩
  rw [Int.zero_add, Int.one_mul]
  rcases hb with ⟨rfl, rfl⟩ | ⟨rfl, rfl⟩
  · have : (10 : Int) ^ d.length ≤ 10 ^ 6 := by
      have := Nat.pow_le_pow_right (n := 10) (by decide) hl
      exact_mod_cast this
    omega
  · have : (16 : Int) ^ d.length ≤ 16 ^ 5 := by
      have := Nat.pow_le_pow_right (n := 16) (by decide) hl
      exact_mod_cast this
    omega
theorem wr32_id {x : Int} (h : 0 ≤ x ∧ x < 2147483648) : wr .i32 x = x := by
  show IntKind.wrap .i32 x = x
  unfold IntKind.wrap
  simp only [IntKind.bits, IntKind.signed, Bool.true_and, decide_eq_true_eq, show (2 : Int) ^ 32 = 4294967296 from rfl, show (2 : Int) ^ (32 - 1) = 2147483648 from rfl]
  split <;> omega

theorem rcode_eq {s : List UInt8} {base : Int} {most : Nat} (hb : (base = 10 ∧ most = 6) ∨ (base = 16 ∧ most = 5)) : r20_code fuelH (s, base, (most : Int)) = some (if s = [] ∨ most < s.length ∨ s.all (dOk base) = false then -1 else numF base 0 s) := by
  unfold r20_code
  simp only
  by_cases h1 : s = []
  · rw [if_pos (Or.inl h1), cnd_t (by rw [seq_t]; exact h1)]
  rw [cnd_f (by rw [seq_dec]; simpa using h1)]
  by_cases h2 : most < s.length
  · rw [if_pos (Or.inr (Or.inl h2)), cnd_t (ilt_t (by simp only [len]; omega))]
  rw [cnd_f (ilt_f (by simp only [len]; omega)), jn_e]
  have hm : most ≤ 6 := by rcases hb with ⟨_, h⟩ | ⟨_, h⟩ <;> omega
  have hb0 : 10 ≤ base ∧ base ≤ 16 := by rcases hb with ⟨h, _⟩ | ⟨h, _⟩ <;> omega
  have h := drop_loop (s := s) (fun (n : Int) (i : Nat) => (n, (i : Int))) (fun n l => some (if l.all (dOk base) = false then (-1 : Int) else numF base n l)) (fun i n => 0 ≤ n ∧ n < 16777216 ∧ n < 16 ^ i)
    (F := fun v2 (v3 : Int × Int) =>
        cnd (ilt v3.2 (len s))
          (grd (inb v3.2 (len s))
            (bnd (r20_hex fuelH (lget s (toN v3.2) (0 : UInt8))) fun v4 =>
            cnd (ilt v4 (0 : Int))
              (some (-1 : Int))
              (cnd (ile base v4)
                (some (-1 : Int))
                (v2 (w64 (iadd (w64 (imul v3.1 base)) v4), w64 (iadd v3.2 (1 : Int)))))))
          (some v3.1)) ?_ fuelH 0 0 (fuelH_len (by omega) 0) (Nat.zero_le _) ⟨by decide, by decide, by decide⟩
  · refine Eq.trans h ?_
    rw [List.drop_zero]
    simp only [h1, h2, false_or]
  · intro self n i hi hI hself
    by_cases hl : i < s.length
    · have g : lget s (toN (i : Int)) (0 : UInt8) = s[i] := lget_i hl
      have hw : w64 (iadd (i : Int) 1) = ((i + 1 : Nat) : Int) := w64_succ hl (by omega)
      have hx := (digits s[i]).2.2.2
      rw [List.drop_eq_getElem_cons hl, List.all_cons]
      show cnd (ilt (i : Int) (len s)) _ _ = _
      rw [cnd_t (ilt_t (by simp only [len]; omega)), grd_t (inb_t (by simp only [len]; omega)), g, hex_eq, bnd_some', hw]
      by_cases h3 : hexV s[i] < 0
      · rw [cnd_t (ilt_t h3)]
        have : dOk base s[i] = false := by unfold dOk; simp; omega
        rw [this]
        rfl
      rw [cnd_f (ilt_f h3)]
      by_cases h4 : base ≤ hexV s[i]
      · rw [cnd_t (ile_t h4)]
        have : dOk base s[i] = false := by unfold dOk; simp; omega
        rw [this]
        rfl
      rw [cnd_f (ile_f h4)]
      have hd : dOk base s[i] = true := by unfold dOk; simp; omega
      have hn : 0 ≤ n * base := Int.mul_nonneg hI.1 (by omega)
      have hn2 : n * base ≤ n * 16 := Int.mul_le_mul_of_nonneg_left hb0.2 hI.1
      have hp : (16 : Int) ^ (i + 1) = 16 ^ i * 16 := Int.pow_succ _ _
      have hp6 : (16 : Int) ^ (i + 1) ≤ 16 ^ 6 := by
        have := Nat.pow_le_pow_right (n := 16) (by decide) (show i + 1 ≤ 6 by omega)
        exact_mod_cast this
      have h6 : (16 : Int) ^ 6 = 16777216 := by decide
      have hlast : n * base + hexV s[i] < 16 ^ (i + 1) := by omega
      have e1 : w64 (iadd (w64 (imul n base)) (hexV s[i])) = n * base + hexV s[i] := by
        simp only [imul, iadd]
        rw [w64_id (x := n * base) (by omega), w64_id (by omega)]
      rw [e1, hself _ (i + 1) (by omega) (by omega) ⟨by omega, by omega, hlast⟩, hd, Bool.true_and]
      rfl
    · obtain rfl : i = s.length := by omega
      show cnd (ilt (s.length : Int) (len s)) _ _ = _
      rw [cnd_f (ilt_f (by simp only [len]; omega)), List.drop_length]
      rfl

theorem rof_own (N : Nat) (r : Int) : r08_Of (N + 2) [r] = bnd (r08_Index (N + 2) r) fun v4 => cnd (ilt v4 0) (some []) (grd (catOk (iadd (len ([] : List UInt8)) (len (enc r)))) (some (lapp [] (enc r)))) := by kernel_rfl
theorem rof_eq {r : Int} (h : inRep r = true) : r08_Of fuelH [r] = some (enc r) := by
  obtain ⟨i, _, h2, h3⟩ := index_some r
  have h4 : ¬ i < 0 := fun k => by rw [h3.1 k] at h; cases h
  have h0 := rof_own (fuelM + 4998) r
  have h1 := enc_len h
  show r08_Of (fuelM + 4998 + 2) [r] = _
  rw [h0]
  show (bnd (r08_Index fuelH r) _) = _
  rw [h2, bnd_some', cnd_f (ilt_f h4), grd_t (catOk_t (by simp only [len, iadd, List.length_nil]; omega))]
  rfl
def rNum (N : Nat) (x : List UInt8) : Option (List UInt8 × Int) :=
    jn (fun (v1 : Int) =>
      cnd (ilt v1 (0 : Int))
        (some (([] : List UInt8), (4 : Int)))
        (bnd (r08_Index N (wr .i32 v1)) fun v2 =>
        cnd (ilt v2 (0 : Int))
          (some (([] : List UInt8), (10 : Int)))
          (bnd (r08_Of N ([wr .i32 v1] : List Int)) fun v3 =>
          some (v3, (0 : Int)))))
    fun v4 =>
    jn (fun (v5 : Bool) =>
      cnd v5
        (grd (in2 (2 : Int) (len x))
          (bnd (r20_code N (ldrop (toN (2 : Int)) x, (16 : Int), (5 : Int))) fun v6 =>
          v4 v6))
        (cnd (ilt (0 : Int) (len x))
          (grd (inb (0 : Int) (len x))
            (cnd (ieq (n8 (lget x (toN (0 : Int)) (0 : UInt8))) (n8 (35 : UInt8)))
              (grd (in2 (1 : Int) (len x))
                (bnd (r20_code N (ldrop (toN (1 : Int)) x, (10 : Int), (6 : Int))) fun v7 =>
                v4 v7))
              (v4 (-1 : Int))))
          (v4 (-1 : Int))))
    fun v8 =>
    cnd (ilt (1 : Int) (len x))
      (grd (inb (0 : Int) (len x))
        (cnd (ieq (n8 (lget x (toN (0 : Int)) (0 : UInt8))) (n8 (35 : UInt8)))
          (grd (inb (1 : Int) (len x))
            (v8 (ieq (n8 (lget x (toN (1 : Int)) (0 : UInt8))) (n8 (120 : UInt8)))))
          (v8 false)))
      (v8 false)
theorem rref_own (N : Nat) (x : List UInt8) : r20_reference (N + 10) x = jn (fun (_ : Unit) => rNum (N + 10) x) fun v9 => cnd (seq ([97, 109, 112] : List UInt8) x) (some (([38] : List UInt8), (0 : Int))) (cnd (seq ([108, 116] : List UInt8) x) (some (([60] : List UInt8), (0 : Int))) (cnd (seq ([103, 116] : List UInt8) x) (some (([62] : List UInt8), (0 : Int))) (cnd (seq ([113, 117, 111, 116] : List UInt8) x) (some (([34] : List UInt8), (0 : Int))) (cnd (seq ([97, 112, 111, 115] : List UInt8) x) (some (([39] : List UInt8), (0 : Int))) (v9 ()))))) := by kernel_rfl
def xNum (N : Nat) (x : List UInt8) : Option (List UInt8 × Int × Int) :=
    jn (fun (v1 : Int × Int × Int) =>
      jn (fun (v2 : Int × Int) =>
        cnd (ieq v2.1 v1.1)
          (some (([] : List UInt8), (0 : Int), (4 : Int)))
          (cnd (ilt v1.2.2 (w64 (isub v2.1 v1.1)))
            (some (([] : List UInt8), (0 : Int), (4 : Int)))
            (cnd (ieq v2.1 (len x))
              (some (([] : List UInt8), (0 : Int), (4 : Int)))
              (grd (inb v2.1 (len x))
                (cnd (ine (n8 (lget x (toN v2.1) (0 : UInt8))) (n8 (59 : UInt8)))
                  (some (([] : List UInt8), (0 : Int), (4 : Int)))
                  (bnd (charset_Index N (wr .i32 v2.2)) fun v3 =>
                  cnd (ilt v3 (0 : Int))
                    (some (([] : List UInt8), (0 : Int), (10 : Int)))
                    (some (enc (wr .i32 v2.2), w64 (iadd v2.1 (1 : Int)), (0 : Int)))))))))
      fun v4 =>
      fixN (fun v5 (v6 : Int × Int) =>
        cnd (ilt v6.1 (len x))
          (grd (inb v6.1 (len x))
            (bnd (xml_digit N (lget x (toN v6.1) (0 : UInt8), v1.2.1)) fun v7 =>
            cnd (ile (0 : Int) v7)
              (grd (inb v6.1 (len x))
                (bnd (xml_digit N (lget x (toN v6.1) (0 : UInt8), v1.2.1)) fun v8 =>
                v5 (w64 (iadd v6.1 (1 : Int)), imin (w64 (iadd (w64 (imul v6.2 v1.2.1)) v8)) (16777216 : Int))))
              (v4 v6)))
          (v4 v6)) N (v1.1, (0 : Int)))
    fun v9 =>
    bnd (strings_HasPrefix N (x, ([38, 35, 120] : List UInt8))) fun v10 =>
    cnd v10
      (v9 ((3 : Int), (16 : Int), (5 : Int)))
      (bnd (strings_HasPrefix N (x, ([38, 35] : List UInt8))) fun v11 =>
      cnd (bnot v11)
        (some (([] : List UInt8), (0 : Int), (4 : Int)))
        (v9 ((2 : Int), (10 : Int), (6 : Int))))
theorem xref_own (N : Nat) (x : List UInt8) : xml_reference (N + 10) x = jn (fun (_ : Unit) => xNum (N + 10) x) fun v12 => bnd (strings_HasPrefix (N + 10) (x, ([38, 97, 109, 112, 59] : List UInt8))) fun v => cnd v (some (([38] : List UInt8), (5 : Int), (0 : Int))) (bnd (strings_HasPrefix (N + 10) (x, ([38, 108, 116, 59] : List UInt8))) fun v => cnd v (some (([60] : List UInt8), (4 : Int), (0 : Int))) (bnd (strings_HasPrefix (N + 10) (x, ([38, 103, 116, 59] : List UInt8))) fun v => cnd v (some (([62] : List UInt8), (4 : Int), (0 : Int))) (bnd (strings_HasPrefix (N + 10) (x, ([38, 113, 117, 111, 116, 59] : List UInt8))) fun v => cnd v (some (([34] : List UInt8), (6 : Int), (0 : Int))) (bnd (strings_HasPrefix (N + 10) (x, ([38, 97, 112, 111, 115, 59] : List UInt8))) fun v => cnd v (some (([39] : List UInt8), (6 : Int), (0 : Int))) (v12 ()))))) := by kernel_rfl

def kv (v : Int) : Option (List UInt8 × Int) := cnd (ilt v (0 : Int)) (some (([] : List UInt8), (4 : Int))) (bnd (r08_Index fuelH (wr .i32 v)) fun v2 => cnd (ilt v2 (0 : Int)) (some (([] : List UInt8), (10 : Int))) (bnd (r08_Of fuelH ([wr .i32 v] : List Int)) fun v3 => some (v3, (0 : Int))))
theorem rk {v : Int} (h : v = -1 ∨ (0 ≤ v ∧ v < 1048576)) : kv v = some (if v < 0 then ([], 4) else if inRep v = false then ([], 10) else (enc v, 0)) := by
  rcases h with rfl | h
  · rfl
  have h1 : ¬ v < 0 := by omega
  obtain ⟨i, _, q2, q3⟩ := index_some v
  unfold kv
  rw [cnd_f (ilt_f h1), if_neg h1, wr32_id (by omega), q2, bnd_some']
  by_cases h2 : inRep v = false
  · rw [if_pos h2, cnd_t (ilt_t (q3.2 h2))]
  · rw [if_neg h2, cnd_f (ilt_f (fun k => h2 (q3.1 k))), rof_eq (by simpa using h2), bnd_some']
theorem code_k {base : Int} {most : Nat} (d : List UInt8) (hb : (base = 10 ∧ most = 6) ∨ (base = 16 ∧ most = 5)) : bnd (r20_code fuelH (d, base, (most : Int))) kv = some (refN base most d) := by
  rw [rcode_eq hb, bnd_some']
  unfold refN
  by_cases h : d = [] ∨ most < d.length ∨ d.all (dOk base) = false
  · rw [if_pos h, if_pos h]
    rfl
  · have h2 : d.length ≤ most ∧ d.all (dOk base) = true := by
      simp only [not_or] at h
      exact ⟨by omega, by simpa using h.2.2⟩
    have hs := numF_small hb h2.1 h2.2
    rw [if_neg h, if_neg h, rk (.inr hs), if_neg (by omega)]
def v8 (x : List UInt8) (b : Bool) : Option (List UInt8 × Int) := cnd b (grd (in2 (2 : Int) (len x)) (bnd (r20_code fuelH (ldrop (toN (2 : Int)) x, (16 : Int), (5 : Int))) kv))
  (cnd (ilt (0 : Int) (len x)) (grd (inb (0 : Int) (len x)) (cnd (ieq (n8 (lget x (toN (0 : Int)) (0 : UInt8))) (n8 (35 : UInt8))) (grd (in2 (1 : Int) (len x)) (bnd (r20_code fuelH (ldrop (toN (1 : Int)) x, (10 : Int), (6 : Int))) kv)) (kv (-1 : Int)))) (kv (-1 : Int)))
theorem rnum_own (x : List UInt8) : rNum fuelH x = cnd (ilt (1 : Int) (len x)) (grd (inb (0 : Int) (len x)) (cnd (ieq (n8 (lget x (toN (0 : Int)) (0 : UInt8))) (n8 (35 : UInt8))) (grd (inb (1 : Int) (len x)) (v8 x (ieq (n8 (lget x (toN (1 : Int)) (0 : UInt8))) (n8 (120 : UInt8))))) (v8 x false))) (v8 x false) := rfl
theorem v8_f (x : List UInt8) : v8 x false = some (if x.take 1 = [35] then refN 10 6 (x.drop 1) else ([], 4)) := by
  unfold v8
  rw [cnd_f (by rfl)]
  match x with
  | [] => rfl
  | a :: r =>
    rw [cnd_t (ilt_t (by simp only [len, List.length_cons]; omega)), grd_t (inb_t (by simp only [len, List.length_cons]; omega))]
    show cnd (ieq (n8 a) (n8 35)) _ _ = _
    rw [cnd_ieq]
    by_cases ha : a = 35
    · subst ha
      rw [if_pos rfl, grd_t (in2_t (by simp only [len, List.length_cons]; omega))]
      exact code_k r (.inl ⟨rfl, rfl⟩)
    · rw [if_neg (fun k => ha (n8_inj k)), if_neg (by simp [ha])]
      rfl
theorem v8_t {x : List UInt8} (h : 2 ≤ x.length) : v8 x true = some (refN 16 5 (x.drop 2)) := by
  unfold v8
  rw [cnd_t (by rfl), grd_t (in2_t (by simp only [len]; omega))]
  exact code_k _ (.inr ⟨rfl, rfl⟩)
/-- the numeric part -/
def numC (c : List UInt8) : List UInt8 × Int := if c.take 2 = [35, 120] then refN 16 5 (c.drop 2) else if c.take 1 = [35] then refN 10 6 (c.drop 1) else ([], 4)
theorem refC_eq (c : List UInt8) : refC c = if c = [97, 109, 112] then ([38], 0) else if c = [108, 116] then ([60], 0) else if c = [103, 116] then ([62], 0) else if c = [113, 117, 111, 116] then ([34], 0) else if c = [97, 112, 111, 115] then ([39], 0) else numC c := rfl
theorem rnum_eq (x : List UInt8) : rNum fuelH x = some (numC x) := by
  rw [rnum_own]
  unfold numC
  match x with
  | [] =>
    rw [cnd_f (by rfl), v8_f]
    rfl
  | [a] =>
    rw [cnd_f (by rfl), v8_f, if_neg (show ¬ ([a].take 2 = [35, 120]) by simp)]
  | a :: b :: r =>
    rw [cnd_t (ilt_t (by simp only [len, List.length_cons]; omega)), grd_t (inb_t (by simp only [len, List.length_cons]; omega)), grd_t (inb_t (by simp only [len, List.length_cons]; omega))]
    show cnd (ieq (n8 a) (n8 35)) (v8 _ (ieq (n8 b) (n8 120))) _ = _
    rw [cnd_ieq]
    by_cases ha : a = 35
    · subst ha
      rw [if_pos rfl]
      by_cases hb : b = 120
      · subst hb
        rw [ieq_t rfl, v8_t (by simp), if_pos (by rfl)]
      · rw [ieq_f (fun k => hb (n8_inj k)), v8_f, if_neg (show ¬ ((35 :: b :: r).take 2 = [35, 120]) by simp [hb])]
    · rw [if_neg (fun k => ha (n8_inj k)), v8_f, if_neg (show ¬ ((a :: b :: r).take 2 = [35, 120]) by simp [ha])]
theorem rref_eq (x : List UInt8) : r20_reference fuelH x = some (refC x) := by
  have h := rref_own (fuelM + 4990) x
  show r20_reference (fuelM + 4990 + 10) x = _
  rw [h, jn_e, refC_eq]
  have hs : ∀ (c : List UInt8) (X Y : Option (List UInt8 × Int)), cnd (seq c x) X Y = if x = c then X else Y := fun c X Y => by
    by_cases h : x = c
    · rw [if_pos h, cnd_t (by rw [seq_t]; exact h.symm)]
    · rw [if_neg h, cnd_f (by rw [seq_dec]; simpa using fun e => h e.symm)]
  simp only [hs]
  repeat' split
  any_goals rfl
  exact rnum_eq x

theorem hp_eq (N : Nat) (s p : List UInt8) : strings_HasPrefix N (s, p) = some (decide (s.take p.length = p)) := by
  unfold strings_HasPrefix stringslite_HasPrefix
  by_cases h : p.length ≤ s.length
  · rw [cnd_t (ile_t (by simp only [len]; omega)), grd_t (in2_t (by simp only [len]; omega)), bnd_some', seq_dec]
    simp only [ltake, toN, len, Int.toNat_natCast]
    exact congrArg some (decide_eq_decide.2 Iff.rfl)
  · rw [cnd_f (ile_f (by simp only [len]; omega)), bnd_some']
    have : ¬ (s.take p.length = p) := fun e => by
      have := congrArg List.length e
      rw [List.length_take] at this
      omega
    rw [decide_eq_false this]
theorem tw_of {c t : List UInt8} (h : c.all not59 = true) : (c ++ 59 :: t).takeWhile not59 = c := by
  rw [List.takeWhile_append_of_pos (by simpa using h), List.takeWhile_cons]
  simp [not59]
theorem tw_all {c : List UInt8} (h : c.all not59 = true) : c.takeWhile not59 = c := by
  have := List.takeWhile_append_of_pos (p := not59) (l₁ := c) (l₂ := []) (by simpa using h)
  simpa using this
theorem tw_split : ∀ r : List UInt8, (r.all not59 = true) ∨ ∃ c t, r = c ++ 59 :: t ∧ c.all not59 = true
  | [] => .inl rfl
  | b :: r => by
    by_cases hb : b = 59
    · exact .inr ⟨[], r, by rw [hb]; rfl, rfl⟩
    have h1 : not59 b = true := by simpa [not59] using hb
    rcases tw_split r with h | ⟨c, t, e, h⟩
    · exact .inl (by rw [List.all_cons, h1, h]; rfl)
    · exact .inr ⟨b :: c, t, by rw [e]; rfl, by rw [List.all_cons, h1, h]; rfl⟩
theorem clampF_eq {base : Int} (hb : 1 ≤ base) : ∀ (d : List UInt8) (n : Int), 0 ≤ n → d.all (dOk base) = true → n ≤ numF base n d ∧ (numF base n d ≤ 16777216 → d.foldl (fun n x => min (n * base + hexV x) 16777216) n = numF base n d)
  | [], n, _, _ => ⟨Int.le_refl _, fun _ => rfl⟩
  | x :: d, n, hn, h => by
    rw [List.all_cons, Bool.and_eq_true] at h
    have h1 : 0 ≤ hexV x ∧ hexV x < base := by have := h.1; unfold dOk at this; simpa using this
    have h0 : n * 1 ≤ n * base := Int.mul_le_mul_of_nonneg_left hb hn
    have ih := clampF_eq hb d (n * base + hexV x) (by omega) h.2
    refine ⟨Int.le_trans (by omega) ih.1, fun hle => ?_⟩
    have hle : numF base (n * base + hexV x) d ≤ 16777216 := hle
    rw [List.foldl_cons]
    have hm : min (n * base + hexV x) 16777216 = n * base + hexV x := by have := ih.1; omega
    rw [hm]
    exact ih.2 hle
def refX (r : List UInt8) : List UInt8 × Int × Int :=
  let c := r.takeWhile not59
  if c.length = r.length then ([], 0, 4) else if (refC c).2 = 0 then ((refC c).1, ((c.length + 2 : Nat) : Int), 0) else ([], 0, (refC c).2)
theorem refX_no {r : List UInt8} (h : r.all not59 = true) : refX r = ([], 0, 4) := by
  unfold refX
  simp only [tw_all h, if_true]
theorem refX_yes {c t : List UInt8} (h : c.all not59 = true) : refX (c ++ 59 :: t) = if (refC c).2 = 0 then ((refC c).1, ((c.length + 2 : Nat) : Int), 0) else ([], 0, (refC c).2) := by
  unfold refX
  simp only [tw_of h]
  rw [if_neg (by simp)]
/-- behind the digits -/
def k2N (N : Nat) (s : List UInt8) (at' : Int) (most : Int) (v2 : Int × Int) : Option (List UInt8 × Int × Int) :=
        cnd (ieq v2.1 at')
          (some (([] : List UInt8), (0 : Int), (4 : Int)))
          (cnd (ilt most (w64 (isub v2.1 at')))
            (some (([] : List UInt8), (0 : Int), (4 : Int)))
            (cnd (ieq v2.1 (len s))
              (some (([] : List UInt8), (0 : Int), (4 : Int)))
              (grd (inb v2.1 (len s))
                (cnd (ine (n8 (lget s (toN v2.1) (0 : UInt8))) (n8 (59 : UInt8)))
                  (some (([] : List UInt8), (0 : Int), (4 : Int)))
                  (bnd (charset_Index N (wr .i32 v2.2)) fun v3 =>
                  cnd (ilt v3 (0 : Int))
                    (some (([] : List UInt8), (0 : Int), (10 : Int)))
                    (some (enc (wr .i32 v2.2), w64 (iadd v2.1 (1 : Int)), (0 : Int))))))))
def k2 (s : List UInt8) (at' : Int) (most : Int) (v2 : Int × Int) : Option (List UInt8 × Int × Int) := k2N fuelH s at' most v2
theorem dgV_of {base : Int} (x : UInt8) : (0 ≤ dgV base x ↔ dOk base x = true) ∧ (dOk base x = true → dgV base x = hexV x) := by
  unfold dgV dOk
  by_cases h : base ≤ hexV x
  · rw [if_pos h]
    refine ⟨⟨fun k => by omega, fun k => ?_⟩, fun k => ?_⟩
    · simp at k; omega
    · simp at k; omega
  · rw [if_neg h]
    refine ⟨⟨fun k => by simp; omega, fun k => ?_⟩, fun _ => rfl⟩
    simp at k; omega
theorem dig_loop {s : List UInt8} (hs : s.length ≤ 4000000) {base : Int} (hb : base = 10 ∨ base = 16) {K : Int × Int → Option (List UInt8 × Int × Int)} : ∀ (fuel i : Nat) (n : Int), s.length - i < fuel → i ≤ s.length → 0 ≤ n → n ≤ 16777216 →
    fixN (fun v5 (v6 : Int × Int) =>
        cnd (ilt v6.1 (len s))
          (grd (inb v6.1 (len s))
            (bnd (xml_digit fuelH (lget s (toN v6.1) (0 : UInt8), base)) fun v7 =>
            cnd (ile (0 : Int) v7)
              (grd (inb v6.1 (len s))
                (bnd (xml_digit fuelH (lget s (toN v6.1) (0 : UInt8), base)) fun v8 =>
                v5 (w64 (iadd v6.1 (1 : Int)), imin (w64 (iadd (w64 (imul v6.2 base)) v8)) (16777216 : Int))))
              (K v6)))
          (K v6)) fuel ((i : Int), n) = K (((i + ((s.drop i).takeWhile (dOk base)).length : Nat) : Int), ((s.drop i).takeWhile (dOk base)).foldl (fun n x => min (n * base + hexV x) 16777216) n)
  | 0, i, n, h, _, _, _ => by omega
  | fuel + 1, i, n, h, hi, h0, h1 => by
    rw [fixN_s]
    by_cases hl : i < s.length
    · have g : lget s (toN (i : Int)) (0 : UInt8) = s[i] := lget_i hl
      have hw : w64 (iadd (i : Int) 1) = ((i + 1 : Nat) : Int) := w64_succ hl (by omega)
      have hx := (digits s[i]).2.2.2
      have hdv := dgV_of (base := base) s[i]
      show cnd (ilt (i : Int) (len s)) _ _ = _
      rw [cnd_t (ilt_t (by simp only [len]; omega)), grd_t (inb_t (by simp only [len]; omega)), g, digit_of hb, bnd_some', grd_t (inb_t (by simp only [len]; omega)), bnd_some', hw, List.drop_eq_getElem_cons hl, List.takeWhile_cons]
      by_cases hd : dOk base s[i] = true
      · have h2 := hdv.2 hd
        have h3 : 0 ≤ hexV s[i] ∧ hexV s[i] < base := by unfold dOk at hd; simpa using hd
        have hb16 : 1 ≤ base ∧ base ≤ 16 := by rcases hb with rfl | rfl <;> decide
        have m0 : 0 ≤ n * base := Int.mul_nonneg h0 (by omega)
        have m1 : n * base ≤ n * 16 := Int.mul_le_mul_of_nonneg_left hb16.2 h0
        rw [cnd_t (ile_t (hdv.1.2 hd)), if_pos hd, h2]
        have e1 : imin (w64 (iadd (w64 (imul n base)) (hexV s[i]))) 16777216 = min (n * base + hexV s[i]) 16777216 := by
          simp only [imul, iadd, imin]
          rw [w64_id (x := n * base) (by omega), w64_id (by omega)]
        rw [e1]
        have ih := dig_loop hs hb (K := K) fuel (i + 1) (min (n * base + hexV s[i]) 16777216) (by omega) (by omega) (by omega) (by omega)
        rw [ih, List.length_cons, List.foldl_cons]
        congr 3
        omega
      · rw [cnd_f (ile_f (fun k => hd (hdv.1.1 k))), if_neg hd]
        rfl
    · obtain rfl : i = s.length := by omega
      show cnd (ilt (s.length : Int) (len s)) _ _ = _
      rw [cnd_f (ilt_f (by simp only [len]; omega)), List.drop_length]
      rfl

theorem all_tw {P : UInt8 → Bool} : ∀ l : List UInt8, (l.takeWhile P).all P = true
  | [] => rfl
  | b :: l => by
    rw [List.takeWhile_cons]
    split
    · rename_i h
      rw [List.all_cons, h, all_tw l]
      rfl
    · rfl
theorem tw_drop {P : UInt8 → Bool} : ∀ l : List UInt8, l.drop (l.takeWhile P).length = [] ∨ ∃ b t, l.drop (l.takeWhile P).length = b :: t ∧ P b = false
  | [] => .inl rfl
  | b :: l => by
    rw [List.takeWhile_cons]
    by_cases h : P b = true
    · rw [if_pos h]
      simpa using tw_drop l
    · rw [if_neg h]
      exact .inr ⟨b, l, rfl, by simpa using h⟩
theorem tw_cat (P : UInt8 → Bool) : ∀ l : List UInt8, l.takeWhile P ++ l.drop (l.takeWhile P).length = l
  | [] => rfl
  | b :: l => by
    rw [List.takeWhile_cons]
    split
    · rw [List.length_cons, List.drop_succ_cons, List.cons_append, tw_cat P l]
    · rfl
theorem dOk_not59 {base : Int} {x : UInt8} (h : dOk base x = true) : not59 x = true := by
  unfold not59
  simp only [bne_iff_ne, ne_eq]
  intro e
  subst e
  unfold dOk at h
  simp [hexV] at h
theorem k2_err {s : List UInt8} {a m : Nat} {n : Int} {most : Nat} (hl : s.length ≤ 4000000) (ham : a + m ≤ s.length) (h : m = 0 ∨ most < m ∨ a + m = s.length ∨ ∃ b t, s.drop (a + m) = b :: t ∧ b ≠ 59) : k2 s (a : Int) (most : Int) (((a + m : Nat) : Int), n) = some ([], 0, 4) := by
  unfold k2 k2N
  simp only
  by_cases h0 : m = 0
  · rw [cnd_t (ieq_t (by omega))]
  rw [cnd_f (ieq_f (by omega))]
  have e1 : w64 (isub ((a + m : Nat) : Int) (a : Int)) = (m : Int) := by
    simp only [isub]
    rw [w64_id (by omega)]
    omega
  rw [e1]
  by_cases h1 : most < m
  · rw [cnd_t (ilt_t (by omega))]
  rw [cnd_f (ilt_f (by omega))]
  by_cases h2 : a + m = s.length
  · rw [cnd_t (ieq_t (by simp only [len]; omega))]
  rw [cnd_f (ieq_f (by simp only [len]; omega)), grd_t (inb_t (by simp only [len]; omega))]
  rcases h with h | h | h | ⟨b, t, h3, h4⟩
  · exact absurd h h0
  · exact absurd h h1
  · exact absurd h h2
  · have hlt : a + m < s.length := by omega
    have hb : s[a + m] = b := by
      rw [List.drop_eq_getElem_cons hlt] at h3
      injection h3
    rw [lget_i hlt, hb, cnd_t (ine_t (fun k => h4 (n8_inj k)))]
theorem k2_ok {s : List UInt8} {a m : Nat} {n : Int} {most : Nat} {t : List UInt8} (hl : s.length ≤ 4000000) (h0 : m ≠ 0) (h1 : ¬ most < m) (h3 : s.drop (a + m) = 59 :: t) (hn : 0 ≤ n ∧ n < 1048576) : k2 s (a : Int) (most : Int) (((a + m : Nat) : Int), n) = some (if inRep n = false then ([], 0, 10) else (enc n, ((a + m + 1 : Nat) : Int), 0)) := by
  have hlt : a + m < s.length := by
    rcases Nat.lt_or_ge (a + m) s.length with h | h
    · exact h
    · rw [List.drop_eq_nil_of_le h] at h3
      cases h3
  have hb : s[a + m] = 59 := by
    rw [List.drop_eq_getElem_cons hlt] at h3
    injection h3
  unfold k2 k2N
  simp only
  have e1 : w64 (isub ((a + m : Nat) : Int) (a : Int)) = (m : Int) := by
    simp only [isub]
    rw [w64_id (by omega)]
    omega
  obtain ⟨i, q1, _, q3⟩ := index_some n
  rw [cnd_f (ieq_f (by omega)), e1, cnd_f (ilt_f (by omega)), cnd_f (ieq_f (by simp only [len]; omega)), grd_t (inb_t (by simp only [len]; omega)), lget_i hlt, hb, cnd_f (by rfl), wr32_id (by omega), q1, bnd_some', w64_succ (n := s.length) hlt (by omega)]
  by_cases h2 : inRep n = false
  · rw [if_pos h2, cnd_t (ilt_t (q3.2 h2))]
  · rw [if_neg h2, cnd_f (ilt_f (fun k => h2 (q3.1 k)))]
/-- the digits of a reference, and what stands behind them -/
theorem num_part {s : List UInt8} (hs : s.length ≤ 4000000) {base : Int} {most a : Nat} (hb : (base = 10 ∧ most = 6) ∨ (base = 16 ∧ most = 5)) (ha : a ≤ s.length) :
    k2 s (a : Int) (most : Int) (((a + ((s.drop a).takeWhile (dOk base)).length : Nat) : Int), ((s.drop a).takeWhile (dOk base)).foldl (fun n x => min (n * base + hexV x) 16777216) 0) =
      some (if (s.drop a).all not59 = true then ([], 0, 4) else if (refN base most ((s.drop a).takeWhile not59)).2 = 0 then ((refN base most ((s.drop a).takeWhile not59)).1, ((a + ((s.drop a).takeWhile not59).length + 1 : Nat) : Int), 0) else ([], 0, (refN base most ((s.drop a).takeWhile not59)).2)) := by
  generalize hd : s.drop a = d
  have hw := all_tw (P := dOk base) d
  have hm := List.takeWhile_prefix (dOk base) (l := d)
  have hdl : d.length = s.length - a := by rw [← hd, List.length_drop]
  have hml : (d.takeWhile (dOk base)).length ≤ d.length := hm.length_le
  have hdr : s.drop (a + (d.takeWhile (dOk base)).length) = d.drop (d.takeWhile (dOk base)).length := by rw [← hd, List.drop_drop]
  have hcat : d = d.takeWhile (dOk base) ++ d.drop (d.takeWhile (dOk base)).length := (tw_cat _ d).symm
  have hbase : 1 ≤ base := by rcases hb with ⟨h, _⟩ | ⟨h, _⟩ <;> omega
  rcases tw_drop (P := dOk base) d with h | ⟨b, t, h, hbad⟩
  · rw [k2_err hs (by omega) (.inr (.inr (.inl (by have := congrArg List.length h; simp at this; omega))))]
    have : d.all not59 = true := by
      rw [hcat, h, List.append_nil]
      rw [List.all_eq_true] at hw ⊢
      exact fun x hx => dOk_not59 (hw x hx)
    rw [if_pos this]
  · by_cases hb59 : b = 59
    · subst hb59
      have hno : ¬ (d.all not59 = true) := fun k => by
        rw [hcat, h, List.all_append, List.all_cons] at k
        simp [not59] at k
      have htw : d.takeWhile not59 = d.takeWhile (dOk base) := by
        conv => lhs; rw [hcat, h]
        refine tw_of ?_
        rw [List.all_eq_true] at hw ⊢
        exact fun x hx => dOk_not59 (hw x hx)
      rw [if_neg hno, htw]
      generalize hq : d.takeWhile (dOk base) = q at *
      unfold refN
      by_cases he : q = [] ∨ most < q.length ∨ q.all (dOk base) = false
      · rw [if_pos he, if_neg (by decide)]
        refine k2_err hs (by omega) ?_
        rcases he with he | he | he
        · exact .inl (by rw [he]; rfl)
        · exact .inr (.inl he)
        · rw [he] at hw; cases hw
      · rw [if_neg he]
        simp only [not_or] at he
        have hsm := numF_small hb (by omega) hw
        have hcl := (clampF_eq hbase q 0 (Int.le_refl _) hw).2 (by omega)
        rw [hcl, k2_ok hs (fun k => he.1 (List.eq_nil_of_length_eq_zero k)) he.2.1 (hdr.trans h) hsm]
        by_cases hr : inRep (numF base 0 q) = false
        · rw [if_pos hr, if_pos hr]
          rfl
        · rw [if_neg hr, if_neg hr]
          rfl
    · have hcat2 : d = d.takeWhile (dOk base) ++ b :: t := by rw [← h]; exact hcat
      rw [k2_err hs (by omega) (.inr (.inr (.inr ⟨b, t, hdr.trans h, hb59⟩)))]
      by_cases hall : d.all not59 = true
      · rw [if_pos hall]
      · rw [if_neg hall]
        have hbq : ∃ u, d.takeWhile not59 = d.takeWhile (dOk base) ++ b :: u := by
          refine ⟨t.takeWhile not59, ?_⟩
          conv => lhs; rw [hcat2]
          rw [List.takeWhile_append_of_pos (by rw [List.all_eq_true] at hw; exact fun x hx => dOk_not59 (hw x hx)), List.takeWhile_cons, if_pos (by simpa [not59] using hb59)]
        obtain ⟨u, hu⟩ := hbq
        have : (d.takeWhile not59).all (dOk base) = false := by
          rw [hu, List.all_append, List.all_cons, hbad]
          simp
        have e : refN base most (d.takeWhile not59) = ([], 4) := by
          unfold refN
          rw [if_pos (.inr (.inr this))]
        rw [e, if_neg (by decide)]

theorem pre_iff {c t p : List UInt8} (hp : p.all not59 = true) : (c ++ 59 :: t).take p.length = p ↔ c.take p.length = p := by
  by_cases h : p.length ≤ c.length
  · rw [List.take_append_of_le_length h]
  · refine ⟨fun e => ?_, fun e => ?_⟩
    · have hl : c.length < p.length := by omega
      have h1 : p[c.length]? = some 59 := by
        rw [← e, List.getElem?_take, if_pos hl]
        simp
      have h2 := List.mem_of_getElem? h1
      rw [List.all_eq_true] at hp
      have := hp 59 h2
      simp [not59] at this
    · have := congrArg List.length e
      rw [List.length_take] at this
      omega
theorem named_iff {c t p : List UInt8} (hc : c.all not59 = true) (hp : p.all not59 = true) : (c ++ 59 :: t).take (p ++ [59]).length = p ++ [59] ↔ c = p := by
  refine ⟨fun e => ?_, fun e => ?_⟩
  · have h1 : c ++ 59 :: t = p ++ 59 :: (c ++ 59 :: t).drop (p ++ [59]).length := by
      conv => lhs; rw [← List.take_append_drop (p ++ [59]).length (c ++ 59 :: t), e]
      simp
    have h2 := tw_of (t := t) hc
    rw [h1, tw_of hp] at h2
    exact h2.symm
  · subst e
    rw [show c ++ 59 :: t = (c ++ [59]) ++ t by simp, List.take_left]
theorem named_no {r p : List UInt8} (hr : r.all not59 = true) : ¬ (r.take (p ++ [59]).length = p ++ [59]) := fun e => by
  have h1 : (59 : UInt8) ∈ r := by
    have : (59 : UInt8) ∈ r.take (p ++ [59]).length := by rw [e]; simp
    exact List.mem_of_mem_take this
  rw [List.all_eq_true] at hr
  have := hr 59 h1
  simp [not59] at this
def xAN (N : Nat) (s : List UInt8) (v1 : Int × Int × Int) : Option (List UInt8 × Int × Int) :=
      fixN (fun v5 (v6 : Int × Int) =>
        cnd (ilt v6.1 (len s))
          (grd (inb v6.1 (len s))
            (bnd (xml_digit N (lget s (toN v6.1) (0 : UInt8), v1.2.1)) fun v7 =>
            cnd (ile (0 : Int) v7)
              (grd (inb v6.1 (len s))
                (bnd (xml_digit N (lget s (toN v6.1) (0 : UInt8), v1.2.1)) fun v8 =>
                v5 (w64 (iadd v6.1 (1 : Int)), imin (w64 (iadd (w64 (imul v6.2 v1.2.1)) v8)) (16777216 : Int))))
              (k2N N s v1.1 v1.2.2 v6)))
          (k2N N s v1.1 v1.2.2 v6)) N (v1.1, (0 : Int))
def xA (s : List UInt8) (v1 : Int × Int × Int) : Option (List UInt8 × Int × Int) := xAN fuelH s v1
theorem xnum_ownN (N : Nat) (s : List UInt8) : xNum N s = bnd (strings_HasPrefix N (s, ([38, 35, 120] : List UInt8))) fun v10 => cnd v10 (xAN N s ((3 : Int), (16 : Int), (5 : Int))) (bnd (strings_HasPrefix N (s, ([38, 35] : List UInt8))) fun v11 => cnd (bnot v11) (some (([] : List UInt8), (0 : Int), (4 : Int))) (xAN N s ((2 : Int), (10 : Int), (6 : Int)))) := rfl
theorem xnum_own (s : List UInt8) : xNum fuelH s = bnd (strings_HasPrefix fuelH (s, ([38, 35, 120] : List UInt8))) fun v10 => cnd v10 (xA s ((3 : Int), (16 : Int), (5 : Int))) (bnd (strings_HasPrefix fuelH (s, ([38, 35] : List UInt8))) fun v11 => cnd (bnot v11) (some (([] : List UInt8), (0 : Int), (4 : Int))) (xA s ((2 : Int), (10 : Int), (6 : Int)))) := xnum_ownN fuelH s
theorem xA_eq {s : List UInt8} (hs : s.length ≤ 4000000) {base : Int} {most a : Nat} (hb : (base = 10 ∧ most = 6) ∨ (base = 16 ∧ most = 5)) (ha : a ≤ s.length) :
    xA s ((a : Int), base, (most : Int)) = some (if (s.drop a).all not59 = true then ([], 0, 4) else if (refN base most ((s.drop a).takeWhile not59)).2 = 0 then ((refN base most ((s.drop a).takeWhile not59)).1, ((a + ((s.drop a).takeWhile not59).length + 1 : Nat) : Int), 0) else ([], 0, (refN base most ((s.drop a).takeWhile not59)).2)) := by
  rw [← num_part hs hb ha]
  exact dig_loop hs (by rcases hb with ⟨h, _⟩ | ⟨h, _⟩ <;> simp [h]) fuelH a 0 (fuelH_len hs a) ha (by decide) (by decide)
theorem xnum_eq {r : List UInt8} (hr : r.length ≤ 3999999) : xNum fuelH (38 :: r) = some (if r.all not59 = true then ([], 0, 4) else if (numC (r.takeWhile not59)).2 = 0 then ((numC (r.takeWhile not59)).1, (((r.takeWhile not59).length + 2 : Nat) : Int), 0) else ([], 0, (numC (r.takeWhile not59)).2)) := by
  have hs : (38 :: r).length ≤ 4000000 := by simp; omega
  have e1 : ((38 :: r).take ([38, 35, 120] : List UInt8).length = [38, 35, 120]) ↔ r.take ([35, 120] : List UInt8).length = [35, 120] := by simp
  have e2 : ((38 :: r).take ([38, 35] : List UInt8).length = [38, 35]) ↔ r.take ([35] : List UInt8).length = [35] := by simp
  rw [xnum_own, hp_eq, bnd_some']
  by_cases h1 : r.take ([35, 120] : List UInt8).length = [35, 120]
  · have hl : 2 ≤ r.length := by have := congrArg List.length h1; simp at this; omega
    rw [cnd_t (decide_eq_true (e1.2 h1))]
    have hx := xA_eq (a := 3) hs (.inr ⟨rfl, rfl⟩) (by simp; omega)
    refine Eq.trans hx ?_
    have hd : (38 :: r).drop 3 = r.drop 2 := rfl
    rw [hd]
    rcases tw_split r with h | ⟨c, t, rfl, h⟩
    · rw [if_pos h, if_pos]
      rw [List.all_eq_true] at h ⊢
      exact fun x hx => h x (List.mem_of_mem_drop hx)
    · have h2 := (pre_iff (by rfl)).1 h1
      have hc2 : 2 ≤ c.length := by have := congrArg List.length h2; simp at this; omega
      have hd2 : (c ++ 59 :: t).drop 2 = c.drop 2 ++ 59 :: t := List.drop_append_of_le_length hc2
      have hca : (c.drop 2).all not59 = true := by
        rw [List.all_eq_true] at h ⊢
        exact fun x hx => h x (List.mem_of_mem_drop hx)
      have hn : numC c = refN 16 5 (c.drop 2) := if_pos h2
      have no : ∀ (p q : List UInt8), ¬ ((p ++ 59 :: q).all not59 = true) := fun p q k => by
        rw [List.all_append, List.all_cons] at k
        simp [not59] at k
      rw [hd2, tw_of hca, tw_of h, if_neg (no _ _), if_neg (no _ _), hn, List.length_drop]
      have : 3 + (c.length - 2) + 1 = c.length + 2 := by omega
      rw [this]
  · rw [cnd_f (decide_eq_false (fun k => h1 (e1.1 k))), hp_eq, bnd_some']
    by_cases h3 : r.take ([35] : List UInt8).length = [35]
    · have hl : 1 ≤ r.length := by have := congrArg List.length h3; simp at this; omega
      rw [decide_eq_true (e2.2 h3), cnd_f (by rfl)]
      have hx := xA_eq (a := 2) hs (.inl ⟨rfl, rfl⟩) (by simp; omega)
      refine Eq.trans hx ?_
      have hd : (38 :: r).drop 2 = r.drop 1 := rfl
      rw [hd]
      rcases tw_split r with h | ⟨c, t, rfl, h⟩
      · rw [if_pos h, if_pos]
        rw [List.all_eq_true] at h ⊢
        exact fun x hx => h x (List.mem_of_mem_drop hx)
      · have h2 := (pre_iff (by rfl)).1 h3
        have h4 : ¬ (c.take 2 = [35, 120]) := fun k => h1 ((pre_iff (p := [35, 120]) (by rfl)).2 k)
        have hc2 : 1 ≤ c.length := by have := congrArg List.length h2; simp at this; omega
        have hd2 : (c ++ 59 :: t).drop 1 = c.drop 1 ++ 59 :: t := List.drop_append_of_le_length hc2
        have hca : (c.drop 1).all not59 = true := by
          rw [List.all_eq_true] at h ⊢
          exact fun x hx => h x (List.mem_of_mem_drop hx)
        have hn : numC c = refN 10 6 (c.drop 1) := by unfold numC; rw [if_neg h4]; exact if_pos h2
        have no : ∀ (p q : List UInt8), ¬ ((p ++ 59 :: q).all not59 = true) := fun p q k => by
          rw [List.all_append, List.all_cons] at k
          simp [not59] at k
        rw [hd2, tw_of hca, tw_of h, if_neg (no _ _), if_neg (no _ _), hn, List.length_drop]
        have : 2 + (c.length - 1) + 1 = c.length + 2 := by omega
        rw [this]
    · rw [decide_eq_false (fun k => h3 (e2.1 k)), cnd_t (by rfl)]
      rcases tw_split r with h | ⟨c, t, rfl, h⟩
      · rw [if_pos h]
      · have h4 : ¬ (c.take 2 = [35, 120]) := fun k => h1 ((pre_iff (p := [35, 120]) (by rfl)).2 k)
        have h5 : ¬ (c.take 1 = [35]) := fun k => h3 ((pre_iff (p := [35]) (by rfl)).2 k)
        have hn : numC c = ([], 4) := by unfold numC; rw [if_neg h4, if_neg h5]
        rw [tw_of h, hn]
        split <;> rfl
theorem xref_eq {r : List UInt8} (hr : r.length ≤ 3999999) : xml_reference fuelH (38 :: r) = some (refX r) := by
  have h := xref_own (fuelM + 4990) (38 :: r)
  have hx := xnum_eq hr
  show xml_reference (fuelM + 4990 + 10) (38 :: r) = _
  rw [h, jn_e]
  simp only [hp_eq, bnd_some']
  have step : ∀ (p : List UInt8) (X Y : Option (List UInt8 × Int × Int)), cnd (decide ((38 :: r).take (38 :: (p ++ [59])).length = 38 :: (p ++ [59]))) X Y = if r.take (p ++ [59]).length = p ++ [59] then X else Y := fun p X Y => by
    rw [cnd_dec]
    by_cases e : r.take (p ++ [59]).length = p ++ [59]
    · rw [if_pos e, if_pos (by rw [List.length_cons, List.take_succ_cons, e])]
    · rw [if_neg e, if_neg (fun k => e (by rw [List.length_cons, List.take_succ_cons] at k; injection k))]
  have s1 := step [97, 109, 112]
  have s2 := step [108, 116]
  have s3 := step [103, 116]
  have s4 := step [113, 117, 111, 116]
  have s5 := step [97, 112, 111, 115]
  refine Eq.trans (s1 _ _) ?_
  rcases tw_split r with h | ⟨c, t, rfl, hc⟩
  · rw [if_neg (named_no h)]
    refine Eq.trans (s2 _ _) ?_
    rw [if_neg (named_no h)]
    refine Eq.trans (s3 _ _) ?_
    rw [if_neg (named_no h)]
    refine Eq.trans (s4 _ _) ?_
    rw [if_neg (named_no h)]
    refine Eq.trans (s5 _ _) ?_
    rw [if_neg (named_no h), refX_no h]
    refine Eq.trans hx ?_
    rw [if_pos h]
  · rw [refX_yes hc, refC_eq]
    simp only [named_iff hc (show ([97, 109, 112] : List UInt8).all not59 = true from rfl)]
    by_cases c1 : c = [97, 109, 112]
    · subst c1; rfl
    rw [if_neg c1, if_neg c1]
    refine Eq.trans (s2 _ _) ?_
    simp only [named_iff hc (show ([108, 116] : List UInt8).all not59 = true from rfl)]
    by_cases c2 : c = [108, 116]
    · subst c2; rfl
    rw [if_neg c2, if_neg c2]
    refine Eq.trans (s3 _ _) ?_
    simp only [named_iff hc (show ([103, 116] : List UInt8).all not59 = true from rfl)]
    by_cases c3 : c = [103, 116]
    · subst c3; rfl
    rw [if_neg c3, if_neg c3]
    refine Eq.trans (s4 _ _) ?_
    simp only [named_iff hc (show ([113, 117, 111, 116] : List UInt8).all not59 = true from rfl)]
    by_cases c4 : c = [113, 117, 111, 116]
    · subst c4; rfl
    rw [if_neg c4, if_neg c4]
    refine Eq.trans (s5 _ _) ?_
    simp only [named_iff hc (show ([97, 112, 111, 115] : List UInt8).all not59 = true from rfl)]
    by_cases c5 : c = [97, 112, 111, 115]
    · subst c5; rfl
    rw [if_neg c5, if_neg c5]
    refine Eq.trans hx ?_
    have no : ¬ ((c ++ 59 :: t).all not59 = true) := fun k => by
      rw [List.all_append, List.all_cons] at k
      simp [not59] at k
    rw [if_neg no, tw_of hc]
end
end Go.Mo
end

section
/-
  Plain facts: the text that is meant, names, both sides; XmlEscapes and XmlUnescapes return true.
-/
set_option linter.all false
namespace Go.Mo
open Go Go.W Go.Lib
set_option maxRecDepth 100000
noncomputable section

theorem refN_len (base : Int) (most : Nat) (d : List UInt8) : (refN base most d).1.length ≤ 4 := by
  unfold refN
  split
  · simp
  · split
    · simp
    · rename_i h
      exact enc_len (by simpa using h)
theorem refC_len (c : List UInt8) : (refC c).1.length ≤ 4 := by
  rw [refC_eq]
  repeat' split
  any_goals simp
  unfold numC
  repeat' split
  · exact refN_len _ _ _
  · exact refN_len _ _ _
  · simp
theorem tw_len {P : UInt8 → Bool} (l : List UInt8) : (l.takeWhile P).length ≤ l.length := (List.takeWhile_prefix P).length_le
theorem refX_ok {l : List UInt8} (h : (refX l).2.2 = 0) : (l.takeWhile not59).length < l.length ∧ (refX l).2.1 = (((l.takeWhile not59).length + 2 : Nat) : Int) ∧ (refX l).1 = (refC (l.takeWhile not59)).1 ∧ (refC (l.takeWhile not59)).2 = 0 := by
  have := tw_len (P := not59) l
  unfold refX at *
  simp only at *
  by_cases h1 : (l.takeWhile not59).length = l.length
  · rw [if_pos h1] at h
    cases h
  · rw [if_neg h1] at h ⊢
    by_cases h2 : (refC (l.takeWhile not59)).2 = 0
    · rw [if_pos h2] at h ⊢
      exact ⟨by omega, rfl, rfl, h2⟩
    · rw [if_neg h2] at h
      exact absurd h h2
def unE : Nat → List UInt8 → List UInt8 → List UInt8 × Int
  | 0, a, _ => (a, 0)
  | _ + 1, a, [] => (a, 0)
  | n + 1, a, b :: l => if b = 60 then ([], 4) else if b = 38 then (if (refX l).2.2 ≠ 0 then ([], (refX l).2.2) else unE n (a ++ (refX l).1) (l.drop ((l.takeWhile not59).length + 1))) else unE n (a ++ [b]) l
theorem unE_fuel : ∀ (n m : Nat) (a l : List UInt8), l.length ≤ n → l.length ≤ m → unE n a l = unE m a l
  | 0, m, a, l, h, _ => by
    have : l = [] := List.eq_nil_of_length_eq_zero (by omega)
    subst this
    cases m <;> rfl
  | n + 1, 0, a, l, _, h => by
    have : l = [] := List.eq_nil_of_length_eq_zero (by omega)
    subst this
    rfl
  | n + 1, m + 1, a, [], _, _ => rfl
  | n + 1, m + 1, a, b :: l, h1, h2 => by
    have e1 := fun a => unE_fuel n m a l (by simp at h1; omega) (by simp at h2; omega)
    have e2 := fun a => unE_fuel n m a (l.drop ((l.takeWhile not59).length + 1)) (by simp at h1 ⊢; omega) (by simp at h2 ⊢; omega)
    simp only [unE, e1, e2]
/-- the text that is meant, behind what is there already -/
def un (a l : List UInt8) : List UInt8 × Int := unE l.length a l
theorem un_nil (a : List UInt8) : un a [] = (a, 0) := rfl
theorem un_cons (a : List UInt8) (b : UInt8) (l : List UInt8) : un a (b :: l) = if b = 60 then ([], 4) else if b = 38 then (if (refX l).2.2 ≠ 0 then ([], (refX l).2.2) else un (a ++ (refX l).1) (l.drop ((l.takeWhile not59).length + 1))) else un (a ++ [b]) l := by
  have e2 := fun a => unE_fuel l.length (l.drop ((l.takeWhile not59).length + 1)).length a (l.drop ((l.takeWhile not59).length + 1)) (by simp) (Nat.le_refl _)
  show unE (l.length + 1) a (b :: l) = _
  simp only [unE, e2]
  rfl
theorem wstr_eq (a t : List UInt8) (h : a.length + t.length ≤ 100000000) : strings_Builder_WriteString fuelH (((), a), t) = some (len t, (), (), a ++ t) := by
  unfold strings_Builder_WriteString strings_Builder_copyCheck hand_strings_Builder_copyCheck
  rw [bnd_some', grd_t (room_t (by simp only [len, iadd]; omega))]
  rfl
theorem wbyte_eq (a : List UInt8) (b : UInt8) (h : a.length ≤ 100000000) : strings_Builder_WriteByte fuelH (((), a), b) = some ((), (), a ++ [b]) := by
  unfold strings_Builder_WriteByte strings_Builder_copyCheck hand_strings_Builder_copyCheck
  rw [bnd_some', grd_t (room_t (by simp only [len, iadd, List.length_cons, List.length_nil]; omega))]
  rfl
theorem un_eq {s : List UInt8} (hs : s.length ≤ 3900000) : xml_Unescape fuelH s = some (un [] s) := by
  unfold xml_Unescape
  rw [jn_e]
  have h := drop_loop (s := s) (fun (a : List UInt8) (i : Nat) => ((i : Int), ((), a))) (fun a l => some (un a l)) (fun i a => a.length ≤ 4 * i)
    (F := fun v2 (v3 : Int × Unit × List UInt8) =>
    cnd (ilt v3.1 (len s))
      (grd (inb v3.1 (len s))
        (cnd (ieq (n8 (lget s (toN v3.1) (0 : UInt8))) (n8 (60 : UInt8)))
          (some (([] : List UInt8), (4 : Int)))
          (cnd (ieq (n8 (lget s (toN v3.1) (0 : UInt8))) (n8 (38 : UInt8)))
            (grd (in2 v3.1 (len s))
              (bnd (xml_reference fuelH (ldrop (toN v3.1) s)) fun v4 =>
              cnd (ine v4.2.2 (0 : Int))
                (some (([] : List UInt8), v4.2.2))
                (bnd (strings_Builder_WriteString fuelH (((), v3.2.2), v4.1)) fun v5 =>
                v2 (w64 (iadd v3.1 v4.2.1), (), v5.2.2.2))))
            (grd (inb v3.1 (len s))
              (bnd (strings_Builder_WriteByte fuelH (((), v3.2.2), lget s (toN v3.1) (0 : UInt8))) fun v6 =>
              v2 (w64 (iadd v3.1 (1 : Int)), (), v6.2.2))))))
      (some (v3.2.2, (0 : Int)))) ?_ fuelH 0 [] (fuelH_len (by omega) 0) (Nat.zero_le _) (by simp)
  · exact h
  · intro self a i hi hI hself
    by_cases hl : i < s.length
    · have g : lget s (toN (i : Int)) (0 : UInt8) = s[i] := lget_i hl
      have hw : w64 (iadd (i : Int) 1) = ((i + 1 : Nat) : Int) := w64_succ hl (by omega)
      have hld : ldrop (toN (i : Int)) s = s.drop i := by simp [ldrop, toN]
      rw [List.drop_eq_getElem_cons hl, un_cons]
      show cnd (ilt (i : Int) (len s)) _ _ = _
      rw [cnd_t (ilt_t (by simp only [len]; omega)), grd_t (inb_t (by simp only [len]; omega)), g, hld]
      by_cases h60 : s[i] = 60
      · rw [if_pos h60, cnd_t (ieq_t (by rw [h60]))]
      rw [if_neg h60, cnd_f (ieq_f (fun k => h60 (n8_inj k)))]
      by_cases h38 : s[i] = 38
      · rw [if_pos h38, cnd_t (ieq_t (by rw [h38])), grd_t (in2_t (by simp only [len]; omega)), List.drop_eq_getElem_cons hl, h38, xref_eq (by simp; omega), bnd_some']
        by_cases he : (refX (s.drop (i + 1))).2.2 = 0
        · have ho := refX_ok he
          have hle : (refX (s.drop (i + 1))).1.length ≤ 4 := by rw [ho.2.2.1]; exact refC_len _
          have hdl : (s.drop (i + 1)).length = s.length - (i + 1) := List.length_drop
          rw [cnd_f (ine_f he), if_neg (by simpa using he), wstr_eq _ _ (by show a.length + _ ≤ _; omega), bnd_some', ho.2.1]
          have e1 : w64 (iadd (i : Int) ((((s.drop (i + 1)).takeWhile not59).length + 2 : Nat) : Int)) = ((i + (((s.drop (i + 1)).takeWhile not59).length + 2) : Nat) : Int) := by
            simp only [iadd]
            rw [w64_id (by omega)]
            omega
          rw [e1, List.drop_drop]
          have hz := hself (a ++ (refX (s.drop (i + 1))).1) (i + (((s.drop (i + 1)).takeWhile not59).length + 2)) (by omega) (by omega) (by rw [List.length_append]; omega)
          refine Eq.trans hz ?_
          congr 3
          omega
        · rw [cnd_t (ine_t he), if_pos (by simpa using he)]
      · rw [if_neg h38, cnd_f (ieq_f (fun k => h38 (n8_inj k))), grd_t (inb_t (by simp only [len]; omega)), wbyte_eq _ _ (by show a.length ≤ _; omega), bnd_some', hw]
        exact hself (a ++ [s[i]]) (i + 1) (by omega) (by omega) (by simp; omega)
    · obtain rfl : i = s.length := by omega
      show cnd (ilt (s.length : Int) (len s)) _ _ = _
      rw [cnd_f (ilt_f (by simp only [len]; omega)), List.drop_length]
      rfl

theorem scan_p {R : Type} {s : List UInt8} (hs : s.length ≤ 4000000) (P T : UInt8 → Bool) (hT : ∀ x, T x = P x) (K : Int → Option R) {i : Nat} (hi : i ≤ s.length) :
    fixN (fun (v9 : Int → Option R) (v10 : Int) => cnd (ilt v10 (len s)) (grd (inb v10 (len s)) (cnd (T (lget s (toN v10) (0 : UInt8))) (v9 (w64 (iadd v10 (1 : Int)))) (K v10))) (K v10)) fuelH (i : Int) = K ((i + ((s.drop i).takeWhile P).length : Nat) : Int) := by
  refine scan P K (fun self k hk => ?_) (fun self => ?_) fuelH i (fuelH_len hs i) hi
  · show cnd (ilt (k : Int) (len s)) _ _ = _
    rw [cnd_t (ilt_t (by simp only [len]; omega)), grd_t (inb_t (by simp only [len]; omega)), lget_i hk, hT, w64_succ hk (by omega), cnd_ite]
  · show cnd (ilt (s.length : Int) (len s)) _ _ = _
    rw [cnd_f (ilt_f (by simp only [len]; omega))]
theorem scan_b {R : Type} {s : List UInt8} (hs : s.length ≤ 4000000) (P : UInt8 → Bool) (g : UInt8 → Option Bool) (hg : ∀ x, g x = some (P x)) (K : Int → Option R) {i : Nat} (hi : i ≤ s.length) :
    fixN (fun (v9 : Int → Option R) (v10 : Int) => cnd (ilt v10 (len s)) (grd (inb v10 (len s)) (bnd (g (lget s (toN v10) (0 : UInt8))) fun v5 => cnd v5 (v9 (w64 (iadd v10 (1 : Int)))) (K v10))) (K v10)) fuelH (i : Int) = K ((i + ((s.drop i).takeWhile P).length : Nat) : Int) := by
  refine scan P K (fun self k hk => ?_) (fun self => ?_) fuelH i (fuelH_len hs i) hi
  · show cnd (ilt (k : Int) (len s)) _ _ = _
    rw [cnd_t (ilt_t (by simp only [len]; omega)), grd_t (inb_t (by simp only [len]; omega)), lget_i hk, hg, bnd_some', w64_succ hk (by omega), cnd_ite]
  · show cnd (ilt (s.length : Int) (len s)) _ _ = _
    rw [cnd_f (ilt_f (by simp only [len]; omega))]
theorem in3_u {l h n : Int} (k : 0 ≤ l ∧ l ≤ h ∧ h ≤ n) : in3 l h n = true := decide_eq_true k
theorem tw_take (P : UInt8 → Bool) : ∀ l : List UInt8, l.take (l.takeWhile P).length = l.takeWhile P
  | [] => rfl
  | b :: l => by
    rw [List.takeWhile_cons]
    split
    · rw [List.length_cons, List.take_succ_cons, tw_take P l]
    · rfl
theorem not59_T (x : UInt8) : ine (n8 x) (n8 59) = not59 x := by
  unfold not59
  by_cases h : x = 59
  · subst h; rfl
  · rw [ine_t (fun k => h (n8_inj k))]
    simpa using h
theorem run_un {s : List UInt8} (hs : s.length ≤ 3900000) : r20_Unescape fuelH s = some (un [] s) := by
  unfold r20_Unescape
  rw [jn_e]
  have h := drop_loop (s := s) (fun (a : List UInt8) (i : Nat) => (a, (i : Int))) (fun a l => some (un a l)) (fun i a => a.length ≤ 4 * i)
    (F := fun v2 (v3 : (List UInt8) × Int) =>
    cnd (ilt v3.2 (len s))
      (jn (fun (v4 : (List UInt8) × Int) =>
        v2 (v4.1, w64 (iadd v4.2 (1 : Int))))
      fun v5 =>
      grd (inb v3.2 (len s)) <|
      cnd (ieq (n8 (lget s (toN v3.2) (0 : UInt8))) (n8 (60 : UInt8)))
        (some (([] : List UInt8), (4 : Int)))
        (grd (inb v3.2 (len s))
          (cnd (ine (n8 (lget s (toN v3.2) (0 : UInt8))) (n8 (38 : UInt8)))
            (grd (in3 v3.2 (w64 (iadd v3.2 (1 : Int))) (len s))
              (grd (catOk (iadd (len v3.1) (len (ldrop (toN v3.2) (ltake (toN (w64 (iadd v3.2 (1 : Int)))) s)))))
                (v5 (lapp v3.1 (ldrop (toN v3.2) (ltake (toN (w64 (iadd v3.2 (1 : Int)))) s)), v3.2))))
            (jn (fun (v6 : Int) =>
              cnd (ieq v6 (len s))
                (some (([] : List UInt8), (4 : Int)))
                (grd (in3 (w64 (iadd v3.2 (1 : Int))) v6 (len s))
                  (bnd (r20_reference fuelH (ldrop (toN (w64 (iadd v3.2 (1 : Int)))) (ltake (toN v6) s))) fun v7 =>
                  cnd (ine v7.2 (0 : Int))
                    (some (([] : List UInt8), v7.2))
                    (grd (catOk (iadd (len v3.1) (len v7.1)))
                      (v5 (lapp v3.1 v7.1, v6))))))
            fun v8 =>
            fixN (fun v9 (v10 : Int) =>
              cnd (ilt v10 (len s))
                (grd (inb v10 (len s))
                  (cnd (ine (n8 (lget s (toN v10) (0 : UInt8))) (n8 (59 : UInt8)))
                    (v9 (w64 (iadd v10 (1 : Int))))
                    (v8 v10)))
                (v8 v10)) fuelH (w64 (iadd v3.2 (1 : Int)))))))
      (some (v3.1, (0 : Int)))) ?_ fuelH 0 [] (fuelH_len (by omega) 0) (Nat.zero_le _) (by simp)
  · exact h
  · intro self a i hi hI hself
    by_cases hl : i < s.length
    · have g : lget s (toN (i : Int)) (0 : UInt8) = s[i] := lget_i hl
      have hw : w64 (iadd (i : Int) 1) = ((i + 1 : Nat) : Int) := w64_succ hl (by omega)
      have hsl : ldrop (toN (i : Int)) (ltake (toN ((i + 1 : Nat) : Int)) s) = [s[i]] := by
        simp only [ldrop, ltake, toN, Int.toNat_natCast]
        rw [List.take_succ_eq_append_getElem hl, List.drop_left' (by simp; omega)]
      rw [List.drop_eq_getElem_cons hl, un_cons]
      show cnd (ilt (i : Int) (len s)) _ _ = _
      rw [cnd_t (ilt_t (by simp only [len]; omega)), jn_e, grd_t (inb_t (by simp only [len]; omega)), g, hw, hsl]
      by_cases h60 : s[i] = 60
      · rw [if_pos h60, cnd_t (ieq_t (by rw [h60]))]
      rw [if_neg h60, cnd_f (ieq_f (fun k => h60 (n8_inj k))), grd_t (inb_t (by simp only [len]; omega))]
      by_cases h38 : s[i] = 38
      · rw [if_pos h38, cnd_f (ine_f (by rw [h38])), jn_e]
        have hdl : (s.drop (i + 1)).length = s.length - (i + 1) := List.length_drop
        have htl := tw_len (P := not59) (s.drop (i + 1))
        refine Eq.trans (scan_p (by omega) not59 (fun x => ine (n8 x) (n8 59)) not59_T _ (by omega)) ?_
        generalize hn : ((s.drop (i + 1)).takeWhile not59).length = n at *
        by_cases he : n = s.length - (i + 1)
        · rw [cnd_t (ieq_t (by simp only [len]; omega))]
          have : refX (s.drop (i + 1)) = ([], 0, 4) := by
            unfold refX
            simp only
            rw [if_pos (by omega)]
          rw [this]
          rfl
        · rw [cnd_f (ieq_f (by simp only [len]; omega)), grd_t (in3_u (by simp only [len]; omega))]
          have hc : ldrop (toN ((i + 1 : Nat) : Int)) (ltake (toN ((i + 1 + n : Nat) : Int)) s) = (s.drop (i + 1)).takeWhile not59 := by
            simp only [ldrop, ltake, toN, Int.toNat_natCast]
            rw [List.drop_take, show i + 1 + n - (i + 1) = n by omega, ← hn]
            exact tw_take _ _
          rw [hc, rref_eq, bnd_some']
          have hx : refX (s.drop (i + 1)) = if (refC ((s.drop (i + 1)).takeWhile not59)).2 = 0 then ((refC ((s.drop (i + 1)).takeWhile not59)).1, ((n + 2 : Nat) : Int), 0) else ([], 0, (refC ((s.drop (i + 1)).takeWhile not59)).2) := by
            unfold refX
            simp only
            rw [if_neg (by omega), hn]
          have hle := refC_len ((s.drop (i + 1)).takeWhile not59)
          rw [hx]
          by_cases hz : (refC ((s.drop (i + 1)).takeWhile not59)).2 = 0
          · rw [if_pos hz, cnd_f (ine_f hz), grd_t (catOk_t (by simp only [len, iadd]; omega)), if_neg (by simp)]
            show self (a ++ _, w64 (iadd ((i + 1 + n : Nat) : Int) 1)) = _
            rw [w64_succ (n := s.length) (by omega) (by omega), List.drop_drop]
            refine Eq.trans (hself _ (i + 1 + n + 1) (by omega) (by omega) (by rw [List.length_append]; omega)) ?_
            rfl
          · rw [if_neg hz, cnd_t (ine_t hz), if_pos (by simpa using hz)]
      · rw [if_neg h38, cnd_t (ine_t (fun k => h38 (n8_inj k))), grd_t (in3_u (by simp only [len]; omega)), grd_t (catOk_t (by simp only [len, iadd, List.length_cons, List.length_nil]; omega))]
        show self (a ++ [s[i]], w64 (iadd (i : Int) 1)) = _
        rw [hw]
        exact hself (a ++ [s[i]]) (i + 1) (by omega) (by omega) (by simp; omega)
    · obtain rfl : i = s.length := by omega
      show cnd (ilt (s.length : Int) (len s)) _ _ = _
      rw [cnd_f (ilt_f (by simp only [len]; omega)), List.drop_length]
      rfl

/-- a name's form -/
def nmX (s : List UInt8) : Bool := decide (1 ≤ s.length) && decide (s.length ≤ 32) && letB (s.getD 0 0) && s.all namB
theorem let_nam {x : UInt8} (h : letB x = true) : namB x = true := by unfold namB; rw [h]; rfl
/-- the longest name at the beginning -/
def namP : List UInt8 → List UInt8
  | [] => []
  | b :: l => if letB b = true then b :: l.takeWhile namB else []
theorem namP_cons (b : UInt8) (l : List UInt8) : namP (b :: l) = if letB b = true then b :: l.takeWhile namB else [] := rfl
theorem nmX_eq (s : List UInt8) : nmX s = (decide (s ≠ []) && decide (s.length ≤ 32) && decide (namP s = s)) := by
  unfold nmX
  match s with
  | [] => rfl
  | b :: l =>
    have h0 : (b :: l).getD 0 0 = b := rfl
    rw [h0, List.all_cons]
    have h1 : decide (1 ≤ (b :: l).length) = true := decide_eq_true (by simp)
    have h2 : decide (b :: l ≠ []) = true := decide_eq_true (by simp)
    rw [h1, h2, Bool.and_assoc (true && decide ((b :: l).length ≤ 32))]
    congr 1
    rw [namP_cons]
    by_cases h : letB b = true
    · rw [h, let_nam h, if_pos rfl, Bool.true_and, Bool.true_and]
      rw [Bool.eq_iff_iff, decide_eq_true_eq]
      refine ⟨fun k => ?_, fun k => ?_⟩
      · have := List.takeWhile_append_of_pos (p := namB) (l₁ := l) (l₂ := []) (by simpa using k)
        simp at this
        rw [this]
      · injection k with _ k
        rw [← k]
        exact all_tw l
    · have : letB b = false := by simpa using h
      rw [this, if_neg (by decide), decide_eq_false (show ¬ (([] : List UInt8) = b :: l) by simp)]
      simp
theorem name_loop {s : List UInt8} (hs : s.length ≤ 4000000) : ∀ (fuel i : Nat), s.length - i < fuel → i ≤ s.length →
    fixN (fun v3 (v4 : Int) => cnd (ilt v4 (len s)) (grd (inb v4 (len s)) (bnd (xml_nameByte fuelH (lget s (toN v4) (0 : UInt8))) fun v5 => cnd (bnot v5) (some false) (v3 (w64 (iadd v4 (1 : Int)))))) (some true)) fuel (i : Int) = some ((s.drop i).all namB)
  | 0, i, h, _ => by omega
  | fuel + 1, i, h, hi => by
    rw [fixN_s]
    by_cases hl : i < s.length
    · rw [cnd_t (ilt_t (by simp only [len]; omega)), grd_t (inb_t (by simp only [len]; omega)), lget_i hl, namb_eq, bnd_some', w64_succ hl (by omega), name_loop hs fuel (i + 1) (by omega) (by omega), List.drop_eq_getElem_cons hl, List.all_cons]
      cases namB s[i] <;> rfl
    · obtain rfl : i = s.length := by omega
      rw [cnd_f (ilt_f (by simp only [len]; omega)), List.drop_length]
      rfl
theorem name_eq (s : List UInt8) : xml_Name fuelH s = some (nmX s) := by
  unfold xml_Name nmX
  by_cases h0 : 1 ≤ s.length
  · rw [cnd_f (ilt_f (by simp only [len]; omega)), decide_eq_true h0]
    by_cases h1 : s.length ≤ 32
    · have hg : lget s (toN (0 : Int)) (0 : UInt8) = s.getD 0 0 := rfl
      rw [cnd_f (ilt_f (by simp only [len]; omega)), decide_eq_true h1, grd_t (inb_t (by simp only [len]; omega)), letter_eq, bnd_some', hg]
      by_cases h2 : letB (s.getD 0 0) = true
      · rw [h2, cnd_f (by rfl), jn_e]
        exact name_loop (by omega) fuelH 0 (fuelH_len (by omega) 0) (Nat.zero_le _)
      · have h2 : letB (s.getD 0 0) = false := by simpa using h2
        rw [h2, cnd_t (by rfl)]
        rfl
    · rw [cnd_t (ilt_t (by simp only [len]; omega)), decide_eq_false h1]
      rfl
  · rw [cnd_t (ilt_t (by simp only [len]; omega)), decide_eq_false h0]
    rfl
theorem rnamb (x : UInt8) (X Y : Option (List UInt8)) (N : Nat) (s : List UInt8) (v : Int) (hv : inb v (len s) = true) (hx : lget s (toN v) 0 = x) :
    (bnd (r20_letter N x) fun v5 => cnd v5 X (grd (inb v (len s)) (bnd (r20_digit N x) fun v6 => cnd v6 X (grd (inb v (len s)) (cnd (ieq (n8 x) (n8 (45 : UInt8))) X Y))))) = if namB x = true then X else Y := by
  rw [rletter_eq, bnd_some', grd_t hv, rdigit_eq, bnd_some', grd_t hv]
  unfold namB
  cases letB x with
  | true => rfl
  | false =>
    rw [cnd_f (by rfl)]
    cases digB x with
    | true => rfl
    | false =>
      rw [cnd_f (by rfl)]
      by_cases h : x = 45
      · subst h; rfl
      · rw [cnd_f (ieq_f (fun k => h (n8_inj k))), if_neg (by simpa using h)]
theorem namep_eq {s : List UInt8} (hs : s.length ≤ 4000000) : r20_namePart fuelH s = some (namP s) := by
  unfold r20_namePart
  match s with
  | [] => rfl
  | b :: l =>
    rw [cnd_f (by rfl), grd_t (inb_t (by simp only [len, List.length_cons]; omega))]
    show (bnd (r20_letter fuelH b) _) = _
    rw [rletter_eq, bnd_some', namP_cons]
    by_cases h : letB b = true
    · rw [h, cnd_f (by rfl), jn_e, if_pos rfl]
      have hb : (1 : Nat) ≤ (b :: l).length := by simp
      refine Eq.trans (scan (s := b :: l) namB (fun v1 => grd (in2 v1 (len (b :: l))) (some (ltake (toN v1) (b :: l)))) (fun self k hk => ?_) (fun self => ?_) fuelH 1 (fuelH_len hs 1) hb) ?_
      · show cnd (ilt (k : Int) (len (b :: l))) _ _ = _
        have hv : inb (k : Int) (len (b :: l)) = true := inb_t (by simp only [len]; omega)
        rw [cnd_t (ilt_t (by simp only [len]; omega)), grd_t hv, w64_succ hk (by omega)]
        have hx := lget_i (l := b :: l) (d := (0 : UInt8)) hk
        rw [hx]
        exact rnamb _ _ _ _ _ _ hv hx
      · show cnd (ilt ((b :: l).length : Int) (len (b :: l))) _ _ = _
        rw [cnd_f (ilt_f (by simp only [len]; omega))]
      · have ht := tw_len (P := namB) l
        show grd (in2 ((1 + (l.takeWhile namB).length : Nat) : Int) (len (b :: l))) _ = _
        rw [grd_t (in2_t (by simp only [len, List.length_cons]; omega))]
        simp only [ltake, toN, Int.toNat_natCast]
        rw [Nat.add_comm, List.take_succ_cons]
        exact congrArg (fun x => some (b :: x)) (tw_take namB l)
    · have h : letB b = false := by simpa using h
      rw [h, cnd_t (by rfl)]
      rfl
theorem rname_eq {s : List UInt8} (hs : s.length ≤ 4000000) : r20_Name fuelH s = some (nmX s) := by
  unfold r20_Name
  rw [nmX_eq]
  by_cases h0 : s = []
  · subst h0; rfl
  rw [cnd_t (by unfold sne; simpa using h0)]
  by_cases h1 : s.length ≤ 32
  · rw [cnd_t (ile_t (by simp only [len]; omega)), namep_eq hs, bnd_some', seq_dec, decide_eq_true h0, decide_eq_true h1]
    rfl
  · rw [cnd_f (ile_f (by simp only [len]; omega)), decide_eq_false h1]
    simp

theorem awake20 : l20_awake fuelH () = some true := by kernel_rfl
theorem short20 (x : List UInt8) : l20_short fuelH x = some (x.take 400) := by
  unfold l20_short
  rw [grd_t (in2_t (by simp only [len, imin]; omega))]
  simp only [ltake, toN, len, imin]
  congr 1
  by_cases h : x.length ≤ 400
  · rw [show (min (x.length : Int) 400).toNat = x.length by omega, List.take_length, List.take_of_length_le h]
  · rw [show (min (x.length : Int) 400).toNat = 400 by omega]
end
end Go.Mo
end

section
/-
  Plain facts: attributes and children; XmlLooks returns true.
-/
set_option linter.all false
namespace Go.Mo
open Go Go.W Go.Lib
set_option maxRecDepth 100000
noncomputable section

abbrev Ln := List UInt8
abbrev At := List UInt8 × List UInt8
abbrev Nd := List UInt8 × List UInt8 × List At × Int
def dep (n : Nd) : Int := n.2.2.2
def i64 (x : Int) : Prop := -9223372036854775808 ≤ x ∧ x ≤ 9223372036854775807
theorem lgetn {l : List Nd} {i : Nat} (h : i < l.length) : lget l (toN (i : Int)) ([], ([], ([], (0 : Int)))) = l[i] := lget_i h
structure smN (n : Nd) : Prop where
  nm : n.1.length ≤ 1048576
  tx : n.2.1.length ≤ 1048576
  asz : n.2.2.1.length ≤ 1048576
  an : ∀ a ∈ n.2.2.1, a.1.length ≤ 1048576 ∧ a.2.length ≤ 1048576
end
end Go.Mo
end

section
/-
  Plain facts: the check of nodes.
-/
set_option linter.all false
namespace Go.Mo
open Go Go.W Go.Lib
set_option maxRecDepth 100000
noncomputable section

/-- the first error of attributes behind others -/
def atE : List Ln → List At → Int
  | _, [] => 0
  | seen, a :: r => if nmX a.1 = false then 5 else if a.1 ∈ seen then 7 else if vld a.2 = false then 10 else atE (seen ++ [a.1]) r
def elE (n : Nd) : Int := if nmX n.1 = false then 5 else if n.2.1 ≠ [] then 4 else if 16 < n.2.2.1.length then 9 else atE [] n.2.2.1
def depE (p : Option Nd) (n : Nd) : Int := match p with
  | none => if dep n ≠ 0 then 8 else 0
  | some q => if dep n < 1 then 8 else if (if q.1 ≠ [] then dep q + 1 else dep q) < dep n then 8 else if 15 < dep n then 9 else 0
def txP (p : Option Nd) (n : Nd) : Bool := match p with
  | none => true
  | some q => decide (q.1 = [] ∧ dep q = dep n)
def txE (p : Option Nd) (n : Nd) : Int :=
  if txP p n = true then 8 else if n.2.1 = [] then 4 else if 0 < n.2.2.1.length then 4 else if vld n.2.1 = false then 10 else 0
def ndE (p : Option Nd) (n : Nd) : Int := if depE p n ≠ 0 then depE p n else if n.1 ≠ [] then elE n else txE p n
def ckE : Option Nd → List Nd → Int
  | _, [] => 0
  | p, n :: r => if ndE p n ≠ 0 then ndE p n else ckE (some n) r
end
end Go.Mo
end

section
/-
  Plain facts: each node but the root is the child of one element; XmlCovers returns true.
-/
set_option linter.all false
namespace Go.Mo
open Go Go.W Go.Lib
set_option maxRecDepth 100000
noncomputable section
open Classical

/-- how deep nodes lie -/
structure Deep (l : List Nd) : Prop where
  root : ∀ h : 0 < l.length, dep l[0] = 0
  low : ∀ i (h : i + 1 < l.length), 1 ≤ dep l[i + 1] ∧ dep l[i + 1] ≤ dep l[i] + 1 ∧ (dep l[i] < dep l[i + 1] → l[i].1 ≠ [])
  high : ∀ i (h : i < l.length), 0 ≤ dep l[i] ∧ dep l[i] ≤ 15
end
end Go.Mo
end

section
/-
  Plain facts: tokens of a source.
-/
set_option linter.all false
namespace Go.Mo
open Go Go.W Go.Lib
set_option maxRecDepth 100000
noncomputable section

abbrev Ls := List UInt8
abbrev Aq := List UInt8 × List UInt8
abbrev Tok := Int × List UInt8 × List Aq × List UInt8

theorem word_eq {s : Ls} (hs : s.length ≤ 4000000) {i : Nat} (hi : i ≤ s.length) : xml_word fuelH (s, (i : Int)) = some (namP (s.drop i), ((i + (namP (s.drop i)).length : Nat) : Int)) := by
  unfold xml_word
  dsimp only
  by_cases hl : i < s.length
  · have g : lget s (toN (i : Int)) (0 : UInt8) = s[i] := lget_i hl
    rw [cnd_f (ile_f (by simp only [len]; omega)), grd_t (inb_t (by simp only [len]; omega)), g, letter_eq, bnd_some', List.drop_eq_getElem_cons hl, namP_cons]
    by_cases h : letB s[i] = true
    · rw [h, cnd_f (by rfl), if_pos rfl, jn_e]
      refine Eq.trans (scan_b hs namB (fun x => xml_nameByte fuelH x) (fun x => namb_eq fuelH x) _ hi) ?_
      have ht := tw_len (P := namB) (s.drop (i + 1))
      rw [List.length_drop] at ht
      rw [List.drop_eq_getElem_cons hl, List.takeWhile_cons, if_pos (let_nam h)]
      have hin : in3 (i : Int) ((i + (s[i] :: (s.drop (i + 1)).takeWhile namB).length : Nat) : Int) (len s) = true := in3_u (by simp only [len, List.length_cons]; omega)
      rw [grd_t hin]
      simp only [ldrop, ltake, toN, Int.toNat_natCast]
      rw [List.drop_take, show i + (s[i] :: (s.drop (i + 1)).takeWhile namB).length - i = (s[i] :: (s.drop (i + 1)).takeWhile namB).length by omega, List.drop_eq_getElem_cons hl, List.length_cons, List.take_succ_cons, tw_take]
    · have h : letB s[i] = false := by simpa using h
      rw [h, cnd_t (by rfl), if_neg (by decide)]
      rfl
  · obtain rfl : i = s.length := by omega
    rw [cnd_t (ile_t (by simp only [len]; omega)), List.drop_length]
    rfl
theorem blanks_eq {s : Ls} (hs : s.length ≤ 4000000) {i : Nat} (hi : i ≤ s.length) : xml_blanks fuelH (s, (i : Int)) = some ((i + ((s.drop i).takeWhile wsB).length : Nat) : Int) := by
  unfold xml_blanks
  dsimp only
  rw [jn_e]
  exact scan_b hs wsB (fun x => xml_white fuelH x) (fun x => white_eq fuelH x) _ hi
/-- behind white space -/
def skp (t : Ls) : Ls := t.drop (t.takeWhile wsB).length
theorem skp_len (t : Ls) : (skp t).length ≤ t.length := by unfold skp; rw [List.length_drop]; omega
theorem skp_at {s : Ls} {i : Nat} : skp (s.drop i) = s.drop (i + ((s.drop i).takeWhile wsB).length) := by unfold skp; rw [List.drop_drop]
/-- the value behind a quote, and what is left behind the second one -/
def valP (q : UInt8) (t : Ls) : Option (Ls × Ls) := match t.drop (t.takeWhile fun b => b != q && b != 60).length with
  | [] => none
  | c :: r => if c = q then some (t.takeWhile fun b => b != q && b != 60, r) else none
/-- an attribute, and what is left -/
def attrP (t : Ls) : Option (Aq × Ls) :=
  if namP t = [] then none else match skp (t.drop (namP t).length) with
  | [] => none
  | b :: r2 => if b = 61 then (match skp r2 with
    | [] => none
    | q :: r4 => if q = 34 ∨ q = 39 then (match valP q r4 with
      | some (v, r5) => some ((namP t, v), r5)
      | none => none) else none) else none
theorem namP_len (t : Ls) : (namP t).length ≤ t.length := by
  match t with
  | [] => exact Nat.le_refl _
  | b :: l =>
    rw [namP_cons]
    have := tw_len (P := namB) l
    split
    · simp; omega
    · simp
theorem valP_len {q : UInt8} {t v r : Ls} (h : valP q t = some (v, r)) : r.length < t.length ∧ v.length + 1 + r.length = t.length := by
  unfold valP at h
  have hl := congrArg List.length (tw_cat (fun b => b != q && b != 60) t)
  rw [List.length_append] at hl
  split at h
  · cases h
  · rename_i c r' hc
    split at h
    · injection h with h
      injection h with h1 h2
      rw [hc, List.length_cons] at hl
      subst h1
      subst h2
      exact ⟨by omega, by omega⟩
    · cases h
theorem attrP_len {t r : Ls} {a : Aq} (h : attrP t = some (a, r)) : r.length < t.length := by
  unfold attrP at h
  split at h
  · cases h
  split at h
  · cases h
  rename_i b r2 h2
  split at h
  · split at h
    · cases h
    rename_i q r4 h4
    split at h
    · split at h
      · rename_i v r5 h5
        injection h with h
        injection h with _ h
        subst h
        have e1 := valP_len h5
        have e2 := skp_len r2
        have e3 := skp_len (t.drop (namP t).length)
        rw [h4, List.length_cons] at e2
        rw [h2, List.length_cons, List.length_drop] at e3
        omega
      · cases h
    · cases h
  · cases h
theorem skp_suf (t : Ls) : ∃ u, u ++ skp t = t := ⟨_, List.take_append_drop _ t⟩
theorem valP_suf {q : UInt8} {t v r : Ls} (h : valP q t = some (v, r)) : t = v ++ q :: r := by
  unfold valP at h
  have hl := tw_cat (fun b => b != q && b != 60) t
  split at h
  · cases h
  · rename_i c r' hc
    split at h
    · rename_i e
      injection h with h
      injection h with h1 h2
      rw [hc, h1, h2, e] at hl
      exact hl.symm
    · cases h
theorem attrP_suf {t r : Ls} {a : Aq} (h : attrP t = some (a, r)) : ∃ u, u ++ r = t := by
  unfold attrP at h
  split at h
  · cases h
  split at h
  · cases h
  rename_i b r2 h2
  split at h
  · split at h
    · cases h
    rename_i q r4 h4
    split at h
    · split at h
      · rename_i v r5 h5
        injection h with h
        injection h with _ h
        subst h
        have e1 := valP_suf h5
        obtain ⟨u2, e2⟩ := skp_suf r2
        obtain ⟨u3, e3⟩ := skp_suf (t.drop (namP t).length)
        refine ⟨t.take (namP t).length ++ (u3 ++ (b :: (u2 ++ (q :: (v ++ [q]))))), ?_⟩
        conv => rhs; rw [← List.take_append_drop (namP t).length t, ← e3, h2, ← e2, h4, e1]
        simp
      · cases h
    · cases h
  · cases h
/-- the result of the program's function -/
def attrQ (s : Ls) : Option (Aq × Ls) → Aq × Int × Bool
  | some (a, r) => (a, ((s.length - r.length : Nat) : Int), true)
  | none => ((([] : List UInt8), ([] : List UInt8)), (0 : Int), false)
theorem attrQ_some (s : Ls) (a : Aq) (r : Ls) : attrQ s (some (a, r)) = (a, ((s.length - r.length : Nat) : Int), true) := rfl
theorem val_scan {R : Type} {s : Ls} (hs : s.length ≤ 4000000) {k2 : Nat} (h4 : k2 < s.length) (K : Int → Option R) :
    fixN (fun (v6 : Int → Option R) (v7 : Int) =>
              cnd (ilt v7 (len s))
                (grd (inb v7 (len s))
                  (grd (inb (k2 : Int) (len s))
                    (cnd (ine (n8 (lget s (toN v7) (0 : UInt8))) (n8 s[k2]))
                      (grd (inb v7 (len s))
                        (cnd (ine (n8 (lget s (toN v7) (0 : UInt8))) (n8 (60 : UInt8)))
                          (v6 (w64 (iadd v7 (1 : Int))))
                          (K v7)))
                      (K v7))))
                (K v7)) fuelH ((k2 + 1 : Nat) : Int) = K ((k2 + 1 + ((s.drop (k2 + 1)).takeWhile fun b => b != s[k2] && b != 60).length : Nat) : Int) := by
  have hin2 : inb (k2 : Int) (len s) = true := inb_t (by simp only [len]; omega)
  refine scan (s := s) (fun b => b != s[k2] && b != 60) K (fun self k hk => ?_) (fun self => ?_) fuelH (k2 + 1) (fuelH_len hs _) (by omega)
  · have hink : inb (k : Int) (len s) = true := inb_t (by simp only [len]; omega)
    rw [cnd_t (ilt_t (by simp only [len]; omega)), grd_t hink, grd_t hin2, lget_i hk, w64_succ hk (by omega), grd_t hink]
    by_cases e1 : s[k] = s[k2]
    · rw [cnd_f (ine_f (by rw [e1])), if_neg (by simp [e1])]
    · rw [cnd_t (ine_t (fun q => e1 (n8_inj q)))]
      by_cases e2 : s[k] = 60
      · rw [cnd_f (ine_f (by rw [e2])), if_neg (by simp [e2])]
      · rw [cnd_t (ine_t (fun q => e2 (n8_inj q))), if_pos (by simp [e1, e2])]
  · rw [cnd_f (ilt_f (by simp only [len]; omega))]
theorem attrN_eq {s : Ls} (hs : s.length ≤ 3999999) {i : Nat} (hi : i ≤ s.length) : xml_attribute fuelH (s, (i : Int)) = some (attrQ s (attrP (s.drop i))) := by
  have hs4 : s.length ≤ 4000000 := by omega
  unfold xml_attribute attrP
  dsimp only
  rw [word_eq hs4 hi, bnd_some']
  have hnl := namP_len (s.drop i)
  rw [List.length_drop] at hnl
  by_cases h1 : namP (s.drop i) = []
  · rw [cnd_t (by rw [seq_t]; exact h1), if_pos h1]
    rfl
  rw [cnd_f (by rw [seq_dec]; simpa using h1), if_neg h1]
  dsimp only
  rw [blanks_eq hs4 (show i + (namP (s.drop i)).length ≤ s.length by omega), bnd_some', List.drop_drop, skp_at]
  have ht1 := tw_len (P := wsB) (s.drop (i + (namP (s.drop i)).length))
  rw [List.length_drop] at ht1
  generalize hk1 : i + (namP (s.drop i)).length + ((s.drop (i + (namP (s.drop i)).length)).takeWhile wsB).length = k1 at *
  have hk1l : k1 ≤ s.length := by omega
  by_cases h2 : k1 < s.length
  · have g : lget s (toN (k1 : Int)) (0 : UInt8) = s[k1] := lget_i h2
    rw [cnd_f (ile_f (by simp only [len]; omega)), grd_t (inb_t (by simp only [len]; omega)), g, List.drop_eq_getElem_cons h2]
    dsimp only
    by_cases h3 : s[k1] = 61
    · rw [cnd_f (ine_f (by rw [h3])), if_pos h3, w64_succ h2 (by omega), blanks_eq hs4 (show k1 + 1 ≤ s.length by omega), bnd_some', jn_e, skp_at]
      have ht2 := tw_len (P := wsB) (s.drop (k1 + 1))
      rw [List.length_drop] at ht2
      generalize hk2 : k1 + 1 + ((s.drop (k1 + 1)).takeWhile wsB).length = k2 at *
      by_cases h4 : k2 < s.length
      · have g2 : lget s (toN (k2 : Int)) (0 : UInt8) = s[k2] := lget_i h4
        have hin2 : inb (k2 : Int) (len s) = true := inb_t (by simp only [len]; omega)
        rw [cnd_f (ile_f (by simp only [len]; omega)), grd_t hin2, List.drop_eq_getElem_cons h4]
        dsimp only
        rw [jn_e, w64_succ h4 (by omega)]
        simp only [g2]
        -- the value
        have hv : (fixN (fun v6 (v7 : Int) =>
              cnd (ilt v7 (len s))
                (grd (inb v7 (len s))
                  (grd (inb (k2 : Int) (len s))
                    (cnd (ine (n8 (lget s (toN v7) (0 : UInt8))) (n8 s[k2]))
                      (grd (inb v7 (len s))
                        (cnd (ine (n8 (lget s (toN v7) (0 : UInt8))) (n8 (60 : UInt8)))
                          (v6 (w64 (iadd v7 (1 : Int))))
                          ((fun (v4 : Int) =>
              cnd (ile (len s) v4)
                (some ((([] : List UInt8), ([] : List UInt8)), (0 : Int), false))
                (grd (inb v4 (len s))
                  (grd (inb (k2 : Int) (len s))
                    (cnd (ine (n8 (lget s (toN v4) (0 : UInt8))) (n8 s[k2]))
                      (some ((([] : List UInt8), ([] : List UInt8)), (0 : Int), false))
                      (grd (in3 ((k2 + 1 : Nat) : Int) v4 (len s))
                        (some ((namP (s.drop i), ldrop (toN ((k2 + 1 : Nat) : Int)) (ltake (toN v4) s)), w64 (iadd v4 (1 : Int)), true))))))) v7)))
                      ((fun (v4 : Int) =>
              cnd (ile (len s) v4)
                (some ((([] : List UInt8), ([] : List UInt8)), (0 : Int), false))
                (grd (inb v4 (len s))
                  (grd (inb (k2 : Int) (len s))
                    (cnd (ine (n8 (lget s (toN v4) (0 : UInt8))) (n8 s[k2]))
                      (some ((([] : List UInt8), ([] : List UInt8)), (0 : Int), false))
                      (grd (in3 ((k2 + 1 : Nat) : Int) v4 (len s))
                        (some ((namP (s.drop i), ldrop (toN ((k2 + 1 : Nat) : Int)) (ltake (toN v4) s)), w64 (iadd v4 (1 : Int)), true))))))) v7))))
                ((fun (v4 : Int) =>
              cnd (ile (len s) v4)
                (some ((([] : List UInt8), ([] : List UInt8)), (0 : Int), false))
                (grd (inb v4 (len s))
                  (grd (inb (k2 : Int) (len s))
                    (cnd (ine (n8 (lget s (toN v4) (0 : UInt8))) (n8 s[k2]))
                      (some ((([] : List UInt8), ([] : List UInt8)), (0 : Int), false))
                      (grd (in3 ((k2 + 1 : Nat) : Int) v4 (len s))
                        (some ((namP (s.drop i), ldrop (toN ((k2 + 1 : Nat) : Int)) (ltake (toN v4) s)), w64 (iadd v4 (1 : Int)), true))))))) v7)) fuelH ((k2 + 1 : Nat) : Int)) = some (attrQ s (match valP s[k2] (s.drop (k2 + 1)) with
      | some (v, r5) => some ((namP (s.drop i), v), r5)
      | none => none)) := by
          refine Eq.trans (val_scan hs4 h4 _) ?_
          have htl := tw_len (P := fun b => b != s[k2] && b != 60) (s.drop (k2 + 1))
          rw [List.length_drop] at htl
          unfold valP
          have hd : (s.drop (k2 + 1)).drop ((s.drop (k2 + 1)).takeWhile fun b => b != s[k2] && b != 60).length = s.drop (k2 + 1 + ((s.drop (k2 + 1)).takeWhile fun b => b != s[k2] && b != 60).length) := List.drop_drop
          have htk := tw_take (fun b => b != s[k2] && b != 60) (s.drop (k2 + 1))
          rw [hd]
          generalize (s.drop (k2 + 1)).takeWhile (fun b => b != s[k2] && b != 60) = v at *
          by_cases h5 : k2 + 1 + v.length < s.length
          · rw [cnd_f (ile_f (by simp only [len]; omega)), grd_t (inb_t (by simp only [len]; omega)), grd_t hin2, lget_i h5, List.drop_eq_getElem_cons h5]
            dsimp only
            by_cases e : s[k2 + 1 + v.length] = s[k2]
            · rw [cnd_f (ine_f (by rw [e])), grd_t (in3_u (by simp only [len]; omega)), if_pos e, w64_succ h5 (by omega)]
              have e1 : ldrop (toN ((k2 + 1 : Nat) : Int)) (ltake (toN ((k2 + 1 + v.length : Nat) : Int)) s) = v := by
                simp only [ldrop, ltake, toN, Int.toNat_natCast]
                rw [List.drop_take, show k2 + 1 + v.length - (k2 + 1) = v.length by omega, htk]
              dsimp only
              rw [e1, attrQ_some, List.length_drop]
              have e2 : s.length - (s.length - (k2 + 1 + v.length + 1)) = k2 + 1 + v.length + 1 := by omega
              rw [e2]
            · rw [cnd_t (ine_t (fun q => e (n8_inj q))), if_neg e]
              rfl
          · have e : k2 + 1 + v.length = s.length := by omega
            rw [cnd_t (ile_t (by simp only [len]; omega)), e, List.drop_length]
            rfl
        by_cases q1 : s[k2] = 34
        · rw [cnd_f (ine_f (by rw [q1])), if_pos (Or.inl q1)]
          exact hv
        · rw [cnd_t (ine_t (fun q => q1 (n8_inj q))), grd_t hin2]
          by_cases q2 : s[k2] = 39
          · rw [cnd_f (ine_f (by rw [q2])), if_pos (Or.inr q2)]
            exact hv
          · rw [cnd_t (ine_t (fun q => q2 (n8_inj q))), if_neg (by simp [q1, q2])]
            rfl
      · have e : k2 = s.length := by omega
        rw [cnd_t (ile_t (by simp only [len]; omega)), e, List.drop_length]
        rfl
    · rw [cnd_t (ine_t (fun q => h3 (n8_inj q))), if_neg h3]
      rfl
  · have e : k1 = s.length := by omega
    rw [cnd_t (ile_t (by simp only [len]; omega)), e, List.drop_length]
    rfl

/-- what stands behind the name of a start tag: its kind, its attributes, what is left -/
def tagL : Nat → Ls → List Aq → Option (Int × List Aq × Ls)
  | 0, _, _ => none
  | n + 1, t, l => match skp t with
    | [] => none
    | b :: r => if b = 62 then some (1, l, r) else if b = 47 ∧ r.take 1 = [62] then some (3, l, r.drop 1) else if (b :: r).length = t.length then none else match attrP (b :: r) with
      | none => none
      | some (a, r2) => tagL n r2 (l ++ [a])
theorem tagL_fuel : ∀ (n m : Nat) (t : Ls) (l : List Aq), t.length < n → t.length < m → tagL n t l = tagL m t l
  | 0, _, _, _, h, _ => by omega
  | _ + 1, 0, _, _, _, h => by omega
  | n + 1, m + 1, t, l, h1, h2 => by
    have hk := skp_len t
    unfold tagL
    generalize skp t = u at *
    match u with
    | [] => rfl
    | b :: r =>
      dsimp only
      split
      · rfl
      split
      · rfl
      split
      · rfl
      cases ha : attrP (b :: r) with
      | none => rfl
      | some p =>
        obtain ⟨a, r2⟩ := p
        have := attrP_len ha
        exact tagL_fuel n m r2 (l ++ [a]) (by omega) (by omega)
/-- the same, whatever the fuel -/
def tagS (t : Ls) (l : List Aq) : Option (Int × List Aq × Ls) := tagL (t.length + 1) t l
theorem tagS_step (t : Ls) (l : List Aq) : tagS t l = match skp t with
    | [] => none
    | b :: r => if b = 62 then some (1, l, r) else if b = 47 ∧ r.take 1 = [62] then some (3, l, r.drop 1) else if (b :: r).length = t.length then none else match attrP (b :: r) with
      | none => none
      | some (a, r2) => tagS r2 (l ++ [a]) := by
  have hk := skp_len t
  show tagL (t.length + 1) t l = _
  unfold tagL
  generalize skp t = u at *
  match u with
  | [] => rfl
  | b :: r =>
    dsimp only
    split
    · rfl
    split
    · rfl
    split
    · rfl
    cases ha : attrP (b :: r) with
    | none => rfl
    | some p =>
      obtain ⟨a, r2⟩ := p
      have := attrP_len ha
      exact tagL_fuel _ _ r2 (l ++ [a]) (by omega) (by omega)
theorem tagL_len : ∀ (n : Nat) (t : Ls) (l : List Aq) {k : Int} {m : List Aq} {r : Ls}, tagL n t l = some (k, m, r) → r.length < t.length ∧ m.length ≤ l.length + t.length ∧ (k = 1 ∨ k = 3)
  | 0, _, _, _, _, _, h => by cases h
  | n + 1, t, l, k, m, r, h => by
    have hk := skp_len t
    unfold tagL at h
    generalize skp t = u at *
    match u with
    | [] => cases h
    | b :: q =>
      dsimp only at h
      rw [List.length_cons] at hk
      split at h
      · injection h with h
        injection h with h1 h
        injection h with h2 h3
        subst h1 h2 h3
        exact ⟨by omega, by omega, .inl rfl⟩
      split at h
      · injection h with h
        injection h with h1 h
        injection h with h2 h3
        subst h1 h2 h3
        exact ⟨by rw [List.length_drop]; omega, by omega, .inr rfl⟩
      split at h
      · cases h
      cases ha : attrP (b :: q) with
      | none => rw [ha] at h; cases h
      | some p =>
        obtain ⟨a, r2⟩ := p
        rw [ha] at h
        have h1 := attrP_len ha
        have h2 := tagL_len n r2 (l ++ [a]) h
        rw [List.length_append, List.length_cons, List.length_nil] at h2
        rw [List.length_cons] at h1
        exact ⟨by omega, by omega, h2.2.2⟩
def tokQ (s name : Ls) : Option (Int × List Aq × Ls) → Tok × Int × Bool
  | some (k, l, r) => ((k, name, l, []), ((s.length - r.length : Nat) : Int), true)
  | none => (((0 : Int), ([] : List UInt8), ([] : List Aq), ([] : List UInt8)), (0 : Int), false)
theorem tokQ_some (s name : Ls) (k : Int) (l : List Aq) (r : Ls) : tokQ s name (some (k, l, r)) = ((k, name, l, []), ((s.length - r.length : Nat) : Int), true) := rfl
theorem tag_loop {s : Ls} (hs : s.length ≤ 3999999) (name : Ls) {i : Nat} (hi : i ≤ s.length) :
    fixN (fun v1 (v2 : Int × Int × (List UInt8) × (List ((List UInt8) × List UInt8)) × List UInt8) =>
      bnd (xml_blanks fuelH (s, v2.1)) fun v3 =>
      jn (fun (v4 : Bool) =>
        cnd v4
          (some (v2.2, w64 (iadd v3 (1 : Int)), true))
          (jn (fun (v5 : Bool) =>
            cnd v5
              (some (((3 : Int), v2.2.2), w64 (iadd v3 (2 : Int)), true))
              (cnd (ieq v3 v2.1)
                (some (((0 : Int), ([] : List UInt8), ([] : List ((List UInt8) × List UInt8)), ([] : List UInt8)), (0 : Int), false))
                (bnd (xml_attribute fuelH (s, v3)) fun v6 =>
                cnd (bnot v6.2.2)
                  (some (((0 : Int), ([] : List UInt8), ([] : List ((List UInt8) × List UInt8)), ([] : List UInt8)), (0 : Int), false))
                  (grd (room (iadd (len v2.2.2.2.1) (len ([v6.1] : List ((List UInt8) × List UInt8)))) 32)
                    (v1 (v6.2.1, v2.2.1, v2.2.2.1, lapp v2.2.2.2.1 ([v6.1] : List ((List UInt8) × List UInt8)), v2.2.2.2.2))))))
          fun v7 =>
          cnd (ilt (w64 (iadd v3 (1 : Int))) (len s))
            (grd (inb v3 (len s))
              (cnd (ieq (n8 (lget s (toN v3) (0 : UInt8))) (n8 (47 : UInt8)))
                (grd (inb (w64 (iadd v3 (1 : Int))) (len s))
                  (v7 (ieq (n8 (lget s (toN (w64 (iadd v3 (1 : Int)))) (0 : UInt8))) (n8 (62 : UInt8)))))
                (v7 false)))
            (v7 false)))
      fun v8 =>
      cnd (ilt v3 (len s))
        (grd (inb v3 (len s))
          (v8 (ieq (n8 (lget s (toN v3) (0 : UInt8))) (n8 (62 : UInt8)))))
        (v8 false)) fuelH ((i : Int), (1 : Int), name, ([] : List ((List UInt8) × List UInt8)), ([] : List UInt8)) = some (tokQ s name (tagS (s.drop i) [])) := by
  have hs4 : s.length ≤ 4000000 := by omega
  refine drop_loop (s := s) (fun (l : List Aq) (i : Nat) => ((i : Int), ((1 : Int), (name, (l, ([] : List UInt8)))))) (fun l r => some (tokQ s name (tagS r l))) (fun i l => l.length ≤ i) ?_ fuelH i [] (fuelH_len hs4 _) hi (Nat.zero_le _)
  intro self l i hi hI hself
  dsimp only
  have hsk := skp_at (s := s) (i := i)
  rw [blanks_eq hs4 hi, bnd_some', jn_e, tagS_step]
  have htl := tw_len (P := wsB) (s.drop i)
  rw [List.length_drop] at htl
  rw [hsk]
  generalize hk : i + ((s.drop i).takeWhile wsB).length = k at *
  by_cases hkl : k < s.length
  · have g : lget s (toN (k : Int)) (0 : UInt8) = s[k] := lget_i hkl
    have hin : inb (k : Int) (len s) = true := inb_t (by simp only [len]; omega)
    have hw : w64 (iadd (k : Int) 1) = ((k + 1 : Nat) : Int) := w64_succ hkl (by omega)
    rw [cnd_t (ilt_t (by simp only [len]; omega)), grd_t hin, g, List.drop_eq_getElem_cons hkl, hw]
    dsimp only
    have hrl : (s[k] :: s.drop (k + 1)).length = s.length - k := by rw [List.length_cons, List.length_drop]; omega
    by_cases h62 : s[k] = 62
    · rw [cnd_t (ieq_t (by rw [h62])), if_pos h62]
      rw [tokQ_some, List.length_drop, show s.length - (s.length - (k + 1)) = k + 1 by omega]
    · rw [cnd_f (ieq_f (fun q => h62 (n8_inj q))), if_neg h62, jn_e]
      -- an attribute
      have fin : ∀ b : Bool, b = false → ¬ (s[k] = 47 ∧ (s.drop (k + 1)).take 1 = [62]) → (cnd b
              (some (((3 : Int), name, l, ([] : List UInt8)), w64 (iadd (k : Int) (2 : Int)), true))
              (cnd (ieq (k : Int) (i : Int))
                (some (((0 : Int), ([] : List UInt8), ([] : List ((List UInt8) × List UInt8)), ([] : List UInt8)), (0 : Int), false))
                (bnd (xml_attribute fuelH (s, (k : Int))) fun v6 =>
                cnd (bnot v6.2.2)
                  (some (((0 : Int), ([] : List UInt8), ([] : List ((List UInt8) × List UInt8)), ([] : List UInt8)), (0 : Int), false))
                  (grd (room (iadd (len l) (len ([v6.1] : List ((List UInt8) × List UInt8)))) 32)
                    (self (v6.2.1, (1 : Int), name, lapp l ([v6.1] : List ((List UInt8) × List UInt8)), ([] : List UInt8))))))) =
          some (tokQ s name (if s[k] = 47 ∧ (s.drop (k + 1)).take 1 = [62] then some (3, l, (s.drop (k + 1)).drop 1) else if (s[k] :: s.drop (k + 1)).length = (s.drop i).length then none else match attrP (s[k] :: s.drop (k + 1)) with
            | none => none
            | some (a, r2) => tagS r2 (l ++ [a]))) := by
        intro b hb hno
        subst hb
        rw [cnd_f (by rfl), if_neg hno, hrl, List.length_drop]
        by_cases hki : k = i
        · rw [cnd_t (ieq_t (by omega)), if_pos (by omega)]
          rfl
        · rw [cnd_f (ieq_f (by omega)), if_neg (by omega), attrN_eq hs (by omega), bnd_some', ← List.drop_eq_getElem_cons hkl]
          cases ha : attrP (s.drop k) with
          | none => rfl
          | some p =>
            obtain ⟨a, r2⟩ := p
            have hal := attrP_len ha
            rw [List.length_drop] at hal
            rw [attrQ_some, cnd_f (by rfl), grd_t (room_t (by simp only [len, iadd, List.length_cons, List.length_nil]; omega))]
            dsimp only
            have hsuf : r2 = s.drop (s.length - r2.length) := by
              have h1 := attrP_suf ha
              obtain ⟨u, hu⟩ := h1
              obtain ⟨v, hv⟩ : ∃ v, s = v ++ r2 := ⟨s.take k ++ u, by rw [List.append_assoc, hu, List.take_append_drop]⟩
              conv => rhs; rw [hv]
              rw [List.length_append, show v.length + r2.length - r2.length = v.length by omega, List.drop_left]
            have hz := hself (l ++ [a]) (s.length - r2.length) (by omega) (by omega) (by simp; omega)
            rw [← hsuf] at hz
            exact hz
      have hd1 : (s.drop (k + 1)).take 1 = if h : k + 1 < s.length then [s[k + 1]] else [] := by
        by_cases h : k + 1 < s.length
        · rw [dif_pos h, List.drop_eq_getElem_cons h]
          rfl
        · rw [dif_neg h, List.drop_of_length_le (by omega)]
          rfl
      by_cases h1 : k + 1 < s.length
      · have g1 : lget s (toN ((k + 1 : Nat) : Int)) (0 : UInt8) = s[k + 1] := lget_i h1
        rw [dif_pos h1] at hd1
        rw [cnd_t (ilt_t (by simp only [len]; omega)), grd_t hin]
        by_cases h47 : s[k] = 47
        · rw [cnd_t (ieq_t (by rw [h47])), grd_t (inb_t (by simp only [len]; omega)), g1]
          by_cases h2 : s[k + 1] = 62
          · have hw2 : w64 (iadd (k : Int) 2) = ((k + 2 : Nat) : Int) := by
              simp only [iadd]
              rw [w64_id (by omega)]
              omega
            have e62 : ieq (n8 s[k + 1]) (n8 62) = true := ieq_t (by rw [h2])
            rw [e62]
            dsimp only
            rw [cnd_t (by rfl), if_pos ⟨h47, by rw [hd1, h2]⟩, hw2]
            rw [tokQ_some, List.drop_drop, List.length_drop, show s.length - (s.length - (k + 1 + 1)) = k + 2 by omega]
          · refine fin (ieq (n8 s[k + 1]) (n8 62)) (ieq_f (fun q => h2 (n8_inj q))) (fun q => h2 ?_)
            have := q.2
            rw [hd1] at this
            injection this
        · rw [cnd_f (ieq_f (fun q => h47 (n8_inj q)))]
          exact fin false rfl (fun q => h47 q.1)
      · rw [cnd_f (ilt_f (by simp only [len]; omega))]
        refine fin false rfl (fun q => ?_)
        have := q.2
        rw [hd1, dif_neg h1] at this
        cases this
  · have e : k = s.length := by omega
    rw [cnd_f (ilt_f (by simp only [len]; omega))]
    dsimp only
    rw [cnd_f (by rfl), jn_e]
    have hw : ¬ (w64 (iadd (k : Int) 1) < len s) := by
      simp only [iadd, len]
      rw [w64_id (by omega)]
      omega
    rw [cnd_f (ilt_f hw)]
    dsimp only
    rw [cnd_f (by rfl), e, List.drop_length]
    by_cases hki : k = i
    · rw [cnd_t (ieq_t (by omega))]
      rfl
    · have ha := attrN_eq hs (Nat.le_refl s.length)
      rw [List.drop_length] at ha
      rw [cnd_f (ieq_f (by omega)), ha]
      rfl
end
end Go.Mo
end

section
/-
  Plain facts: the token at the beginning of a source.
-/
set_option linter.all false
namespace Go.Mo
open Go Go.W Go.Lib
set_option maxRecDepth 100000
noncomputable section

def not60 (b : UInt8) : Bool := b != 60
/-- a note behind its head -/
def noteP (s head tail : Ls) : Option (Tok × Ls) := if Lib.index (s.drop head.length) tail < 0 then none else some ((4, [], [], head), s.drop (head.length + (Lib.index (s.drop head.length) tail).toNat + tail.length))
/-- an end tag -/
def endT (s : Ls) : Option (Tok × Ls) := if namP (s.drop 2) = [] then none else match skp ((s.drop 2).drop (namP (s.drop 2)).length) with
  | [] => none
  | b :: r => if b = 62 then some ((2, namP (s.drop 2), [], []), r) else none
/-- a start tag -/
def begT (s : Ls) : Option (Tok × Ls) := if namP (s.drop 1) = [] then none else match tagS ((s.drop 1).drop (namP (s.drop 1)).length) [] with
  | none => none
  | some (k, l, r) => some ((k, namP (s.drop 1), l, []), r)
/-- the token at the beginning, and what is left -/
def nextP (s : Ls) : Option (Tok × Ls) := match s with
  | [] => none
  | b :: _ => if b = 60 then (if s.take 2 = [60, 63] then noteP s [60, 63] [63, 62] else if s.take 4 = [60, 33, 45, 45] then noteP s [60, 33, 45, 45] [45, 45, 62] else if s.take 2 = [60, 47] then endT s else begT s)
    else some ((0, [], [], s.takeWhile not60), s.drop (s.takeWhile not60).length)
theorem nextP_cons (b : UInt8) (t : Ls) : nextP (b :: t) = if b = 60 then (if (b :: t).take 2 = [60, 63] then noteP (b :: t) [60, 63] [63, 62] else if (b :: t).take 4 = [60, 33, 45, 45] then noteP (b :: t) [60, 33, 45, 45] [45, 45, 62] else if (b :: t).take 2 = [60, 47] then endT (b :: t) else begT (b :: t))
    else some ((0, [], [], (b :: t).takeWhile not60), (b :: t).drop ((b :: t).takeWhile not60).length) := rfl
def NextIs (s : Ls) : Option (Tok × Ls) → Prop
  | some (t, r) => xml_next fuelH s = some (t, ((s.length - r.length : Nat) : Int), true)
  | none => ∃ t n, xml_next fuelH s = some (t, n, false)
theorem begT_eq {s : Ls} (hs : s.length ≤ 3999999) (h1 : 1 ≤ s.length) : (∀ t r, begT s = some (t, r) → xml_startTag fuelH s = some (t, ((s.length - r.length : Nat) : Int), true)) ∧ (begT s = none → xml_startTag fuelH s = some ((0, [], [], []), 0, false)) := by
  have hw := word_eq (s := s) (by omega) h1
  have hnl := namP_len (s.drop 1)
  rw [List.length_drop] at hnl
  unfold xml_startTag begT
  have hw' : xml_word fuelH (s, (1 : Int)) = some (namP (s.drop 1), ((1 + (namP (s.drop 1)).length : Nat) : Int)) := hw
  rw [hw', bnd_some']
  by_cases h : namP (s.drop 1) = []
  · rw [cnd_t (by rw [seq_t]; exact h), if_pos h]
    exact ⟨fun _ _ k => (by cases k), fun _ => rfl⟩
  · rw [cnd_f (by rw [seq_dec]; simpa using h), if_neg h]
    have ht := tag_loop hs (namP (s.drop 1)) (i := 1 + (namP (s.drop 1)).length) (by omega)
    rw [ht, List.drop_drop]
    cases hq : tagS (s.drop (1 + (namP (s.drop 1)).length)) [] with
    | none => exact ⟨fun _ _ k => (by cases k), fun _ => rfl⟩
    | some p =>
      obtain ⟨k, l, r⟩ := p
      refine ⟨fun t r' e => ?_, fun e => (by cases e)⟩
      dsimp only at e
      injection e with e
      injection e with e1 e2
      subst e1
      subst e2
      rfl
theorem ixb (c : UInt8) (s : Ls) : Lib.indexByte s c = if (s.takeWhile fun b => b != c).length = s.length then -1 else ((s.takeWhile fun b => b != c).length : Int) := by
  induction s with
  | nil => rfl
  | cons b s ih =>
    have ht := tw_len (P := fun b => b != c) s
    unfold Lib.indexByte
    rw [List.takeWhile_cons]
    by_cases h : b = c
    · subst h
      simp
    · have hb : (b == c) = false := by simpa using h
      have hn : (b != c) = true := by simpa using h
      rw [hb, if_neg (by decide), if_pos hn, ih]
      by_cases e : (s.takeWhile fun b => b != c).length = s.length
      · rw [if_pos e, if_pos (by decide), if_pos (by rw [List.length_cons, List.length_cons, e])]
      · rw [if_neg e, if_neg (by simp), if_neg (by rw [List.length_cons, List.length_cons]; omega), List.length_cons]
        omega
theorem ixs_eq {s : Ls} (hs : s.length ≤ 4000000) (sub : Ls) : strings_Index fuelH (s, sub) = some (Lib.index s sub) := by
  unfold strings_Index hand_strings_Index
  rw [grd_t (decide_eq_true (by show s.length < _; omega))]
theorem nextN (N : Nat) (x : Ls) : xml_next (N + 5) x = grd (inb (0 : Int) (len x)) (cnd (ine (n8 (lget x (toN (0 : Int)) (0 : UInt8))) (n8 (60 : UInt8)))
    (bnd (strings_IndexByte (N + 5) (x, (60 : UInt8))) fun v0 =>
    cnd (ilt v0 (0 : Int))
      (grd (in2 (len x) (len x))
        (some (((0 : Int), ([] : List UInt8), ([] : List ((List UInt8) × List UInt8)), ltake (toN (len x)) x), len x, true)))
      (grd (in2 v0 (len x))
        (some (((0 : Int), ([] : List UInt8), ([] : List ((List UInt8) × List UInt8)), ltake (toN v0) x), v0, true))))
    (jn (fun (v1 : Unit) =>
      bnd (strings_HasPrefix (N + 5) (x, ([60, 47] : List UInt8))) fun v2 =>
      cnd v2
        (bnd (xml_word (N + 5) (x, (2 : Int))) fun v3 =>
        bnd (xml_blanks (N + 5) (x, v3.2)) fun v4 =>
        cnd (seq v3.1 ([] : List UInt8))
          (some (((0 : Int), ([] : List UInt8), ([] : List ((List UInt8) × List UInt8)), ([] : List UInt8)), (0 : Int), false))
          (cnd (ile (len x) v4)
            (some (((0 : Int), ([] : List UInt8), ([] : List ((List UInt8) × List UInt8)), ([] : List UInt8)), (0 : Int), false))
            (grd (inb v4 (len x))
              (cnd (ine (n8 (lget x (toN v4) (0 : UInt8))) (n8 (62 : UInt8)))
                (some (((0 : Int), ([] : List UInt8), ([] : List ((List UInt8) × List UInt8)), ([] : List UInt8)), (0 : Int), false))
                (some (((2 : Int), v3.1, ([] : List ((List UInt8) × List UInt8)), ([] : List UInt8)), w64 (iadd v4 (1 : Int)), true))))))
        (bnd (xml_startTag (N + 5) x) fun v5 =>
        some v5))
    fun v6 => bnd (strings_HasPrefix (N + 5) (x, ([60, 63] : List UInt8))) fun b => cnd b
      (grd (in2 (2 : Int) (len x)) (bnd (strings_Index (N + 5) (ldrop (toN (2 : Int)) x, ([63, 62] : List UInt8))) fun v10 => some (((4 : Int), ([] : List UInt8), ([] : List ((List UInt8) × List UInt8)), ([60, 63] : List UInt8)), w64 (iadd (w64 (iadd (2 : Int) v10)) (2 : Int)), ile (0 : Int) v10)))
      (bnd (strings_HasPrefix (N + 5) (x, ([60, 33, 45, 45] : List UInt8))) fun b => cnd b
        (grd (in2 (4 : Int) (len x)) (bnd (strings_Index (N + 5) (ldrop (toN (4 : Int)) x, ([45, 45, 62] : List UInt8))) fun v10 => some (((4 : Int), ([] : List UInt8), ([] : List ((List UInt8) × List UInt8)), ([60, 33, 45, 45] : List UInt8)), w64 (iadd (w64 (iadd (4 : Int) v10)) (3 : Int)), ile (0 : Int) v10)))
        (v6 ())))) := by kernel_rfl
theorem note_is {s head tail : Ls} (hs : s.length ≤ 3999999) (hp : s.take head.length = head) (hh : head.length ≤ 4) (ht : tail.length ≤ 3) (ht1 : 1 ≤ tail.length)
    (he : xml_next fuelH s = grd (in2 (head.length : Int) (len s)) (bnd (strings_Index fuelH (ldrop (toN (head.length : Int)) s, tail)) fun v10 => some (((4 : Int), ([] : List UInt8), ([] : List Aq), head), w64 (iadd (w64 (iadd (head.length : Int) v10)) (tail.length : Int)), ile (0 : Int) v10))) : NextIs s (noteP s head tail) := by
  have hl : head.length ≤ s.length := by
    have := congrArg List.length hp
    rw [List.length_take] at this
    omega
  have hd : ldrop (toN (head.length : Int)) s = s.drop head.length := by simp [ldrop, toN]
  have hr := Lib.index_room (s.drop head.length) tail
  have hg := Lib.index_ge (s.drop head.length) tail
  rw [grd_t (in2_t (by simp only [len]; omega)), hd, ixs_eq (by rw [List.length_drop]; omega), bnd_some'] at he
  unfold noteP
  by_cases h : Lib.index (s.drop head.length) tail < 0
  · rw [if_pos h]
    exact ⟨_, _, by rw [he, ile_f (by omega)]⟩
  · rw [if_neg h]
    show xml_next fuelH s = _
    obtain ⟨n, hn⟩ : ∃ n : Nat, Lib.index (s.drop head.length) tail = (n : Int) := ⟨(Lib.index (s.drop head.length) tail).toNat, by omega⟩
    rw [List.length_drop] at hr
    rw [he, hn, ile_t (by omega), Int.toNat_natCast, List.length_drop]
    have e1 : w64 (iadd (w64 (iadd (head.length : Int) (n : Int))) (tail.length : Int)) = ((head.length + n + tail.length : Nat) : Int) := by
      simp only [iadd]
      rw [w64_id (x := (head.length : Int) + (n : Int)) (by omega), w64_id (by omega)]
      omega
    rw [e1]
    have : s.length - (s.length - (head.length + n + tail.length)) = head.length + n + tail.length := by omega
    rw [this]
theorem next_is {s : Ls} (hs : s.length ≤ 3999999) (h0 : s ≠ []) : NextIs s (nextP s) := by
  have hN : xml_next fuelH s = _ := nextN (fuelM + 4995) s
  match s, h0 with
  | b :: t, _ =>
    have hin : inb (0 : Int) (len (b :: t)) = true := inb_t (by simp only [len, List.length_cons]; omega)
    have hg : lget (b :: t) (toN (0 : Int)) (0 : UInt8) = b := rfl
    rw [grd_t hin, hg] at hN
    rw [nextP_cons]
    by_cases hb : b = 60
    · rw [if_pos hb]
      rw [cnd_f (ine_f (by rw [hb])), jn_e] at hN
      have h1 : strings_HasPrefix (fuelM + 4995 + 5) (b :: t, ([60, 63] : List UInt8)) = some (decide ((b :: t).take 2 = [60, 63])) := hp_eq _ _ _
      have h2 : strings_HasPrefix (fuelM + 4995 + 5) (b :: t, ([60, 33, 45, 45] : List UInt8)) = some (decide ((b :: t).take 4 = [60, 33, 45, 45])) := hp_eq _ _ _
      have h3 : strings_HasPrefix (fuelM + 4995 + 5) (b :: t, ([60, 47] : List UInt8)) = some (decide ((b :: t).take 2 = [60, 47])) := hp_eq _ _ _
      rw [h1, bnd_some'] at hN
      by_cases c1 : (b :: t).take 2 = [60, 63]
      · rw [if_pos c1]
        rw [cnd_t (decide_eq_true c1)] at hN
        exact note_is hs c1 (by decide) (by decide) (by decide) hN
      rw [if_neg c1]
      rw [cnd_f (decide_eq_false c1), h2, bnd_some'] at hN
      by_cases c2 : (b :: t).take 4 = [60, 33, 45, 45]
      · rw [if_pos c2]
        rw [cnd_t (decide_eq_true c2)] at hN
        exact note_is hs c2 (by decide) (by decide) (by decide) hN
      rw [if_neg c2]
      rw [cnd_f (decide_eq_false c2), h3, bnd_some'] at hN
      by_cases c3 : (b :: t).take 2 = [60, 47]
      · rw [if_pos c3]
        rw [cnd_t (decide_eq_true c3)] at hN
        have hl2 : 2 ≤ (b :: t).length := by have := congrArg List.length c3; rw [List.length_take] at this; simp at this ⊢; omega
        generalize b :: t = s at *
        have hw : xml_word (fuelM + 4995 + 5) (s, (2 : Int)) = some (namP (s.drop 2), ((2 + (namP (s.drop 2)).length : Nat) : Int)) := word_eq (s := s) (by omega) hl2
        have hnl := namP_len (s.drop 2)
        rw [List.length_drop] at hnl
        have hbl : xml_blanks (fuelM + 4995 + 5) (s, ((2 + (namP (s.drop 2)).length : Nat) : Int)) = _ := blanks_eq (s := s) (by omega) (show 2 + (namP (s.drop 2)).length ≤ s.length by omega)
        have htl := tw_len (P := wsB) (s.drop (2 + (namP (s.drop 2)).length))
        rw [List.length_drop] at htl
        rw [hw, bnd_some'] at hN
        dsimp only at hN
        rw [hbl, bnd_some'] at hN
        unfold endT
        by_cases hn : namP (s.drop 2) = []
        · rw [if_pos hn]
          rw [cnd_t (by rw [seq_t]; exact hn)] at hN
          exact ⟨_, _, hN⟩
        rw [if_neg hn, List.drop_drop, skp_at]
        rw [cnd_f (by rw [seq_dec]; simpa using hn)] at hN
        generalize hk : 2 + (namP (s.drop 2)).length + ((s.drop (2 + (namP (s.drop 2)).length)).takeWhile wsB).length = k at *
        by_cases hkl : k < s.length
        · have g : lget s (toN (k : Int)) (0 : UInt8) = s[k] := lget_i hkl
          rw [cnd_f (ile_f (by simp only [len]; omega)), grd_t (inb_t (by simp only [len]; omega)), g] at hN
          rw [List.drop_eq_getElem_cons hkl]
          dsimp only
          by_cases h62 : s[k] = 62
          · rw [if_pos h62]
            rw [cnd_f (ine_f (by rw [h62])), w64_succ hkl (by omega)] at hN
            show xml_next fuelH s = _
            rw [hN, List.length_drop]
            have : s.length - (s.length - (k + 1)) = k + 1 := by omega
            rw [this]
          · rw [if_neg h62]
            rw [cnd_t (ine_t (fun q => h62 (n8_inj q)))] at hN
            exact ⟨_, _, hN⟩
        · have e : k = s.length := by omega
          rw [cnd_t (ile_t (by simp only [len]; omega))] at hN
          rw [e, List.drop_length]
          exact ⟨_, _, hN⟩
      rw [if_neg c3]
      rw [cnd_f (decide_eq_false c3)] at hN
      have hbt := begT_eq hs (by simp)
      cases hq : begT (b :: t) with
      | none =>
        have := hbt.2 hq
        refine ⟨(0, [], [], []), 0, Eq.trans hN ?_⟩
        show bnd (xml_startTag fuelH (b :: t)) _ = _
        rw [this]
        rfl
      | some p =>
        obtain ⟨tk, r⟩ := p
        have := hbt.1 _ _ hq
        refine Eq.trans hN ?_
        show bnd (xml_startTag fuelH (b :: t)) _ = _
        rw [this]
        rfl
    · rw [if_neg hb]
      rw [cnd_t (ine_t (fun q => hb (n8_inj q)))] at hN
      generalize b :: t = s at *
      have hi : strings_IndexByte (fuelM + 4995 + 5) (s, (60 : UInt8)) = some (Lib.indexByte s 60) := rfl
      have htl := tw_len (P := not60) s
      have htk := tw_take not60 s
      have hx : Lib.indexByte s 60 = if (s.takeWhile not60).length = s.length then -1 else ((s.takeWhile not60).length : Int) := ixb 60 s
      rw [hi, bnd_some', hx] at hN
      show xml_next fuelH s = _
      rw [List.length_drop]
      by_cases e : (s.takeWhile not60).length = s.length
      · rw [if_pos e, cnd_t (by rfl), grd_t (in2_t (by simp only [len]; omega))] at hN
        rw [hN]
        have e1 : ltake (toN (len s)) s = s.takeWhile not60 := by
          simp only [ltake, toN, len, Int.toNat_natCast]
          rw [← e, htk]
        have e2 : len s = ((s.length - (s.length - (s.takeWhile not60).length) : Nat) : Int) := by simp only [len]; omega
        rw [e1, ← e2]
      · rw [if_neg e, cnd_f (ilt_f (by omega)), grd_t (in2_t (by simp only [len]; omega))] at hN
        rw [hN]
        have e1 : ltake (toN ((s.takeWhile not60).length : Int)) s = s.takeWhile not60 := by
          simp only [ltake, toN, Int.toNat_natCast]
          exact htk
        have e2 : s.length - (s.length - (s.takeWhile not60).length) = (s.takeWhile not60).length := by omega
        rw [e1, e2]
theorem nextP_len {s r : Ls} {t : Tok} (h : nextP s = some (t, r)) : r.length < s.length := by
  match s with
  | [] => cases h
  | b :: u =>
    rw [nextP_cons] at h
    have note : ∀ head tail : Ls, 1 ≤ head.length → noteP (b :: u) head tail = some (t, r) → r.length < (b :: u).length := fun head tail h1 h => by
      unfold noteP at h
      split at h
      · cases h
      · injection h with h
        injection h with _ h
        rw [← h, List.length_drop]
        simp
        omega
    split at h
    · split at h
      · exact note _ _ (by decide) h
      split at h
      · exact note _ _ (by decide) h
      split at h
      · unfold endT at h
        split at h
        · cases h
        have h1 := skp_len (((b :: u).drop 2).drop (namP ((b :: u).drop 2)).length)
        split at h
        · cases h
        · rename_i c q hq
          rw [hq, List.length_drop, List.length_drop, List.length_cons] at h1
          split at h
          · injection h with h
            injection h with _ h
            rw [← h]
            omega
          · cases h
      · unfold begT at h
        split at h
        · cases h
        split at h
        · cases h
        · rename_i k l q hq
          injection h with h
          injection h with _ h
          have := (tagL_len _ _ _ hq).1
          rw [List.length_drop, List.length_drop] at this
          rw [← h]
          omega
    · rename_i hb
      injection h with h
      injection h with _ h
      rw [← h, List.length_drop, List.takeWhile_cons, if_pos (by simpa [not60] using hb)]
      simp
      omega
end
end Go.Mo
end

section
/-
  Plain facts: the parser takes a token.
-/
set_option linter.all false
namespace Go.Mo
open Go Go.W Go.Lib
set_option maxRecDepth 100000
noncomputable section

def lastN (s : Ls) : Int := (s.length : Int) - 1 - ((s.reverse.takeWhile fun b => b != 10).length : Int)
def atP (s : Ls) (i : Nat) (e : Int) : List (Int × Int × Int) := [(1 + (((s.take i).count 10 : Nat) : Int), (i : Int) - lastN (s.take i), e)]
theorem last_loop10 {s : Ls} (hs : s.length ≤ 4000000) : ∀ (fuel k : Nat), k < fuel → k ≤ s.length →
    fixN (fun v2 (v3 : Int) =>
    cnd (ile (0 : Int) v3)
      (grd (inb v3 (len s))
        (cnd (ieq (n8 (lget s (toN v3) (0 : UInt8))) (n8 (10 : UInt8)))
          (some v3)
          (v2 (w64 (isub v3 (1 : Int))))))
      (some (-1 : Int))) fuel ((k : Int) - 1) = some (lastN (s.take k))
  | 0, k, h, _ => by omega
  | fuel + 1, k, h, hk => by
    rw [fixN_s]
    cases k with
    | zero =>
      rw [cnd_f (ile_f (by omega))]
      rfl
    | succ k =>
      have e0 : ((k + 1 : Nat) : Int) - 1 = (k : Int) := by omega
      have hkl : k < s.length := by omega
      rw [e0, cnd_t (ile_t (by omega)), grd_t (inb_t (by simp only [len]; omega)), lget_i hkl]
      have hr : (s.take (k + 1)).reverse = s[k] :: (s.take k).reverse := by
        rw [List.take_succ_eq_append_getElem hkl, List.reverse_append]
        rfl
      have hl : (s.take (k + 1)).length = k + 1 := by rw [List.length_take]; omega
      have hl2 : (s.take k).length = k := by rw [List.length_take]; omega
      unfold lastN
      rw [hr, hl, List.takeWhile_cons]
      by_cases e : s[k] = 10
      · rw [cnd_t (ieq_t (by rw [e])), if_neg (by simp [e])]
        congr 1
        simp
      · have e1 : w64 (isub (k : Int) 1) = (k : Int) - 1 := by
          simp only [isub]
          rw [w64_id (by omega)]
        rw [cnd_f (ieq_f (fun q => e (n8_inj q))), e1, last_loop10 hs fuel k (by omega) (by omega), if_pos (by simp [e])]
        unfold lastN
        rw [hl2, List.length_cons]
        congr 1
        omega
theorem lastN_le (s : Ls) : -1 ≤ lastN s ∧ lastN s < (s.length : Int) := by
  unfold lastN
  have := (List.takeWhile_prefix (p := fun b : UInt8 => b != 10) (l := s.reverse)).length_le
  rw [List.length_reverse] at this
  omega
theorem at_eq {s : Ls} (hs : s.length ≤ 3999999) {i : Nat} (hi : i ≤ s.length) (e : Int) : xml_at fuelH (s, (i : Int), e) = some (atP s i e) := by
  have hin : in2 (i : Int) (len s) = true := in2_t (by simp only [len]; omega)
  have ht : ltake (toN (i : Int)) s = s.take i := by simp [ltake, toN]
  have hl : (s.take i).length = i := by rw [List.length_take]; omega
  have hc : strings_Count fuelH (s.take i, ([10] : List UInt8)) = some (((s.take i).count 10 : Nat) : Int) := rfl
  have hlast : strings_LastIndex fuelH (s.take i, ([10] : List UInt8)) = some (lastN (s.take i)) := by
    have h1 : strings_LastIndex fuelH (s.take i, ([10] : List UInt8)) = bnd (bytealg_LastIndexByteString fuelH (s.take i, 10)) fun v0 => some v0 := rfl
    rw [h1]
    unfold bytealg_LastIndexByteString
    dsimp only
    rw [jn_e]
    have e0 : w64 (isub (len (s.take i)) 1) = (((s.take i).length : Nat) : Int) - 1 := by
      simp only [isub, len]
      rw [w64_id (by omega)]
    rw [e0, last_loop10 (s := s.take i) (by omega) fuelH _ (by have := fuelH_eq; omega) (Nat.le_refl _), bnd_some', List.take_length]
  have hcl := List.count_le_length (a := (10 : UInt8)) (l := s.take i)
  have hln := lastN_le (s.take i)
  unfold xml_at atP
  dsimp only
  rw [grd_t hin, ht, hc, bnd_some', grd_t hin, hlast, bnd_some']
  simp only [iadd, isub]
  rw [w64_id (by omega), w64_id (by omega)]

theorem un_len : ∀ (n : Nat) (l a : Ls), l.length ≤ n → (un a l).1.length ≤ a.length + 4 * l.length
  | 0, l, a, h => by
    have : l = [] := List.eq_nil_of_length_eq_zero (by omega)
    subst this
    rw [un_nil]
    simp
  | n + 1, [], a, _ => by rw [un_nil]; simp
  | n + 1, b :: l, a, h => by
    rw [List.length_cons] at h
    rw [un_cons]
    split
    · simp
    split
    · split
      · simp
      · rename_i h60 h38 he
        have he : (refX l).2.2 = 0 := by simpa using he
        have ho := refX_ok he
        have hle : (refX l).1.length ≤ 4 := by rw [ho.2.2.1]; exact refC_len _
        have := un_len n (l.drop ((l.takeWhile not59).length + 1)) (a ++ (refX l).1) (by rw [List.length_drop]; omega)
        rw [List.length_append, List.length_drop] at this
        rw [List.length_cons]
        omega
    · have := un_len n l (a ++ [b]) (by omega)
      rw [List.length_append, List.length_cons, List.length_nil] at this
      rw [List.length_cons]
      omega
/-- what a value or text means, or its error -/
def meanP (s : Ls) : Ls × Int := if (un [] (s.map flatB)).2 ≠ 0 then ([], (un [] (s.map flatB)).2) else if vld (un [] (s.map flatB)).1 = false then ([], 10) else ((un [] (s.map flatB)).1, 0)
theorem meanP_len (s : Ls) : (meanP s).1.length ≤ 4 * s.length := by
  have := un_len _ (s.map flatB) [] (Nat.le_refl _)
  rw [List.length_map, List.length_nil] at this
  unfold meanP
  split
  · simp
  split
  · simp
  · show (un [] (s.map flatB)).1.length ≤ _
    omega
theorem mean_eq {s : Ls} (hs : s.length ≤ 900000) : xml_meaning fuelH s = some (meanP s) := by
  have hu := un_len _ (s.map flatB) [] (Nat.le_refl _)
  have hml : (s.map flatB).length = s.length := List.length_map _
  rw [hml, List.length_nil] at hu
  unfold xml_meaning xml_flat hand_xml_flat
  rw [grd_t (decide_eq_true (by omega)), bnd_some', un_eq (by omega), bnd_some']
  unfold meanP
  by_cases h : (un [] (s.map flatB)).2 = 0
  · rw [cnd_f (ine_f h), if_neg (by simpa using h), ch_valid _ (by omega), bnd_some']
    cases hv : vld (un [] (s.map flatB)).1 <;> rfl
  · rw [cnd_t (ine_t h), if_pos (by simpa using h)]

abbrev Ps := List Nd × List Ls × Bool
def roomP (p : Ps) (text : Bool) : Int := if p.2.1 = [] ∧ (text = true ∨ p.1 ≠ []) then 8 else if 15 < p.2.1.length then 9 else if 8192 ≤ p.1.length ∧ ¬ (text = true ∧ p.2.2 = true) then 9 else 0
theorem room_eq (N : Nat) (p : Ps) (text : Bool) : xml_parser_room N (p, text) = some (roomP p text, p) := by
  obtain ⟨nodes, stack, joined⟩ := p
  unfold xml_parser_room roomP
  dsimp only
  rw [jn_e]
  have tail : ∀ b : Bool, b = false → (cnd b (some ((8 : Int), (nodes, stack, joined)))
      (cnd (ilt (15 : Int) (len stack))
        (some ((9 : Int), (nodes, stack, joined)))
        (cnd (ile (8192 : Int) (len nodes))
          (cnd text
            (cnd (bnot joined)
              (some ((9 : Int), (nodes, stack, joined)))
              (some ((0 : Int), (nodes, stack, joined))))
            (cnd (bnot false)
              (some ((9 : Int), (nodes, stack, joined)))
              (some ((0 : Int), (nodes, stack, joined)))))
          (some ((0 : Int), (nodes, stack, joined)))))) = some (if 15 < stack.length then 9 else if 8192 ≤ nodes.length ∧ ¬ (text = true ∧ joined = true) then 9 else 0, nodes, stack, joined) := by
    intro b hb
    subst hb
    rw [cnd_f (by rfl)]
    by_cases h1 : 15 < stack.length
    · rw [cnd_t (ilt_t (by simp only [len]; omega)), if_pos h1]
    rw [cnd_f (ilt_f (by simp only [len]; omega)), if_neg h1]
    by_cases h2 : 8192 ≤ nodes.length
    · rw [cnd_t (ile_t (by simp only [len]; omega))]
      cases text with
      | true =>
        cases joined with
        | true => rw [if_neg (by simp)]; rfl
        | false => rw [if_pos ⟨h2, by simp⟩]; rfl
      | false => rw [if_pos ⟨h2, by simp⟩]; rfl
    · rw [cnd_f (ile_f (by simp only [len]; omega)), if_neg (fun k => h2 k.1)]
  by_cases h0 : stack = []
  · subst h0
    rw [cnd_t (by rfl)]
    cases text with
    | true =>
      rw [cnd_t (by rfl), if_pos ⟨rfl, .inl rfl⟩]
      rfl
    | false =>
      rw [cnd_f (by rfl)]
      by_cases h1 : nodes = []
      · subst h1
        rw [if_neg (by simp)]
        exact tail _ rfl
      · have : ilt 0 (len nodes) = true := ilt_t (by
          have : 0 < nodes.length := List.length_pos_iff.2 h1
          simp only [len]; omega)
        rw [this, if_pos ⟨rfl, .inr h1⟩]
        rfl
  · have : ieq (len stack) 0 = false := ieq_f (by
      have : 0 < stack.length := List.length_pos_iff.2 h0
      simp only [len]; omega)
    rw [this, cnd_f (by rfl), if_neg (fun k => h0 k.1)]
    exact tail _ rfl
/-- only white space -/
def blank (s : Ls) : Bool := s.all wsB
def nlB (s : Ls) : Bool := decide ((s.takeWhile fun b => b != 10).length ≠ s.length)
theorem dw_nil {P : UInt8 → Bool} (s : Ls) : s.dropWhile P = [] ↔ s.all P = true := by
  induction s with
  | nil => simp
  | cons b s ih =>
    rw [List.dropWhile_cons, List.all_cons]
    by_cases h : P b = true
    · rw [if_pos h, ih, h, Bool.true_and]
    · rw [if_neg h]
      have h : P b = false := by simpa using h
      rw [h]
      simp
theorem ws_has (b : UInt8) : ([9, 10, 13, 32] : Ls).contains b = wsB b := by
  unfold wsB
  simp only [List.contains, List.elem]
  cases (b == 9) <;> cases (b == 10) <;> cases (b == 13) <;> cases (b == 32) <;> rfl
theorem trim_blank (s : Ls) : Lib.trimS s [9, 10, 13, 32] = [] ↔ blank s = true := by
  have hf : (fun b : UInt8 => ([9, 10, 13, 32] : Ls).contains b) = wsB := by funext b; exact ws_has b
  unfold Lib.trimS Lib.trimLeftS Lib.trimRightS blank
  rw [hf, dw_nil, List.all_reverse]
  constructor
  · intro h
    rw [List.all_eq_true] at h ⊢
    intro x hx
    by_cases e : s.reverse.dropWhile wsB = []
    · rw [dw_nil, List.all_reverse] at e
      exact List.all_eq_true.1 e x hx
    · obtain ⟨y, hy⟩ := List.exists_mem_of_ne_nil _ e
      exfalso
      have h1 : ∀ l : Ls, (∀ z ∈ l.dropWhile wsB, wsB z = true) → l.dropWhile wsB = [] := fun l => by
        induction l with
        | nil => intro _; rfl
        | cons b l ih =>
          intro hz
          rw [List.dropWhile_cons] at hz ⊢
          by_cases hb : wsB b = true
          · rw [if_pos hb] at hz ⊢
            exact ih hz
          · rw [if_neg hb] at hz
            exact absurd (hz b List.mem_cons_self) hb
      exact e (h1 _ h)
  · intro h
    have : s.reverse.dropWhile wsB = [] := (dw_nil _).2 (by rw [List.all_reverse]; exact h)
    rw [this]
    rfl
theorem contains_nl (s : Ls) : Lib.contains s [10] = nlB s := by
  unfold Lib.contains nlB
  rw [Lib.index_one, ixb]
  have := tw_len (P := fun b => b != 10) s
  by_cases h : (s.takeWhile fun b => b != 10).length = s.length
  · rw [if_pos h]; simp [h]
  · rw [if_neg h]; simp [h]
/-- more text behind the last node -/
def joinT (l : List Nd) (t : Ls) : List Nd := match l.getLast? with
  | none => l
  | some n => l.dropLast ++ [(n.1, n.2.1 ++ t, n.2.2)]
def textS (p : Ps) (s : Ls) : Int × Ps :=
  if blank s = true ∧ (nlB s = true ∨ p.2.1 = []) then (0, p) else if (meanP s).2 ≠ 0 then ((meanP s).2, p) else if roomP p true ≠ 0 then (roomP p true, p)
  else if p.2.2 = true then (0, joinT p.1 (meanP s).1, p.2.1, p.2.2) else (0, p.1 ++ [([], (meanP s).1, [], (p.2.1.length : Int))], p.2.1, true)
theorem last_of {α : Type} {l : List α} (h : l ≠ []) : ∃ n, l.getLast? = some n ∧ l = l.dropLast ++ [n] ∧ ∃ hl : l.length - 1 < l.length, l[l.length - 1] = n := by
  rcases List.eq_nil_or_concat l with e | ⟨m, n, rfl⟩
  · exact absurd e h
  · refine ⟨n, by simp, by simp, by simp, by simp⟩
theorem set_last {α : Type} {l : List α} (h : l ≠ []) (y : α) : l.set (l.length - 1) y = l.dropLast ++ [y] := by
  obtain ⟨n, _, h2, _⟩ := last_of h
  have hl : l.length - 1 = l.dropLast.length := by rw [List.length_dropLast]
  conv => lhs; rw [hl, h2]
  rw [List.dropLast_concat, List.set_append_right _ _ (Nat.le_refl _), Nat.sub_self]
  rfl
theorem text2_eq {p : Ps} {s : Ls} (hs : s.length ≤ 300000) (hj : p.2.2 = true → p.1 ≠ []) (hn : p.1.length ≤ 300000) (ht : ∀ n ∈ p.1, n.2.1.length ≤ 4000000) : xml_parser_text fuelH (p, s) = some (textS p s) := by
  have hml := meanP_len s
  unfold xml_parser_text textS
  dsimp only
  rw [jn_e]
  have ht1 : strings_Trim fuelH (s, ([9, 10, 13, 32] : List UInt8)) = some (Lib.trimS s [9, 10, 13, 32]) := by
    unfold strings_Trim hand_strings_Trim
    rw [grd_t (decide_eq_true (by show s.length < _; omega)), grd_t (by rfl), grd_t (by rfl)]
  have hc1 : strings_Contains fuelH (s, ([10] : List UInt8)) = some (nlB s) := by
    unfold strings_Contains hand_strings_Contains
    rw [grd_t (decide_eq_true (by show s.length < _; omega)), contains_nl]
  rw [ht1, bnd_some', hc1, bnd_some']
  have rest : (bnd (xml_meaning fuelH s) fun v1 =>
    cnd (ine v1.2 (0 : Int))
      (some (v1.2, p))
      (bnd (xml_parser_room fuelH (p, true)) fun v2 =>
      cnd (ine v2.1 (0 : Int))
        (some v2)
        (cnd v2.2.2.2
          (grd (inb (w64 (isub (len v2.2.1) (1 : Int))) (len v2.2.1))
            (grd (catOk (iadd (len (lget v2.2.1 (toN (w64 (isub (len v2.2.1) (1 : Int)))) ([], ([], ([], (0 : Int))))).2.1) (len v1.1)))
              (grd (inb (w64 (isub (len v2.2.1) (1 : Int))) (len v2.2.1))
                (some ((0 : Int), lset v2.2.1 (toN (w64 (isub (len v2.2.1) (1 : Int)))) ((lget v2.2.1 (toN (w64 (isub (len v2.2.1) (1 : Int)))) ([], ([], ([], (0 : Int))))).1, lapp (lget v2.2.1 (toN (w64 (isub (len v2.2.1) (1 : Int)))) ([], ([], ([], (0 : Int))))).2.1 v1.1, (lget v2.2.1 (toN (w64 (isub (len v2.2.1) (1 : Int)))) ([], ([], ([], (0 : Int))))).2.2), v2.2.2)))))
          (grd (room (iadd (len v2.2.1) (len ([(([] : List UInt8), v1.1, ([] : List ((List UInt8) × List UInt8)), len v2.2.2.1)] : List ((List UInt8) × (List UInt8) × (List ((List UInt8) × List UInt8)) × Int)))) 64)
            (some ((0 : Int), lapp v2.2.1 ([(([] : List UInt8), v1.1, ([] : List ((List UInt8) × List UInt8)), len v2.2.2.1)] : List ((List UInt8) × (List UInt8) × (List ((List UInt8) × List UInt8)) × Int)), v2.2.2.1, true)))))) =
      some (if (meanP s).2 ≠ 0 then ((meanP s).2, p) else if roomP p true ≠ 0 then (roomP p true, p)
  else if p.2.2 = true then (0, joinT p.1 (meanP s).1, p.2.1, p.2.2) else (0, p.1 ++ [([], (meanP s).1, [], (p.2.1.length : Int))], p.2.1, true)) := by
    rw [mean_eq (by omega), bnd_some', room_eq, bnd_some']
    dsimp only
    by_cases h1 : (meanP s).2 = 0
    · rw [cnd_f (ine_f h1), if_neg (fun k => k h1)]
      by_cases h2 : roomP p true = 0
      · rw [cnd_f (ine_f h2), if_neg (fun k => k h2)]
        by_cases h3 : p.2.2 = true
        · have hne := hj h3
          obtain ⟨n, q1, q2, q3, q4⟩ := last_of hne
          have hp : 0 < p.1.length := List.length_pos_iff.2 hne
          have hw : w64 (isub (len p.1) 1) = ((p.1.length - 1 : Nat) : Int) := w64_pred hp (by omega)
          have hg : lget p.1 (toN ((p.1.length - 1 : Nat) : Int)) ([], ([], ([], (0 : Int)))) = n := by rw [lgetn q3, q4]
          have htn := ht n (by rw [q2]; simp)
          rw [cnd_t h3, if_pos h3, hw, hg, grd_t (inb_t (by simp only [len]; omega)), grd_t (catOk_t (by simp only [len, iadd]; omega)), grd_t (inb_t (by simp only [len]; omega))]
          unfold joinT
          rw [q1]
          dsimp only
          have : lset p.1 (toN ((p.1.length - 1 : Nat) : Int)) (n.1, lapp n.2.1 (meanP s).1, n.2.2) = p.1.dropLast ++ [(n.1, n.2.1 ++ (meanP s).1, n.2.2)] := by
            unfold lset
            rw [show toN ((p.1.length - 1 : Nat) : Int) = p.1.length - 1 by simp [toN]]
            exact set_last hne _
          rw [this]
        · rw [cnd_f (by simpa using h3), if_neg h3, grd_t (room_t (by simp only [len, iadd, List.length_cons, List.length_nil]; omega))]
          rfl
      · rw [cnd_t (ine_t h2), if_pos h2]
    · rw [cnd_t (ine_t h1), if_pos h1]
  by_cases hb : blank s = true
  · rw [cnd_t (by rw [seq_t]; exact (trim_blank s).2 hb)]
    by_cases hn2 : nlB s = true
    · rw [cnd_t hn2, if_pos ⟨hb, .inl hn2⟩]
    · rw [cnd_f (by simpa using hn2)]
      by_cases ho : p.2.1 = []
      · rw [cnd_t (by rw [ho]; rfl), if_pos ⟨hb, .inr ho⟩]
      · rw [cnd_f (ieq_f (by have := List.length_pos_iff.2 ho; simp only [len]; omega)), if_neg (fun k => by rcases k.2 with k | k; exact hn2 k; exact ho k)]
        exact rest
  · rw [cnd_f (by rw [seq_dec]; simpa using fun k => hb ((trim_blank s).1 k)), if_neg (fun k => hb k.1)]
    exact rest
def endS (p : Ps) (name : Ls) : Int × Ps := if nmX name = false then (5, p) else if p.2.1.getLast? = some name then (0, p.1, p.2.1.dropLast, false) else (8, p)
theorem end_eq {p : Ps} {t : Tok} (ho : p.2.1.length ≤ 300000) : xml_parser_end fuelH (p, t) = some (endS p t.2.1) := by
  unfold xml_parser_end endS
  dsimp only
  rw [name_eq, bnd_some']
  by_cases h1 : nmX t.2.1 = true
  · rw [h1, cnd_f (by rfl), if_neg (by decide)]
    by_cases h2 : p.2.1 = []
    · rw [h2, cnd_t (by rfl), if_neg (by simp)]
    · obtain ⟨n, q1, q2, q3, q4⟩ := last_of h2
      have hp : 0 < p.2.1.length := List.length_pos_iff.2 h2
      have hw : w64 (isub (len p.2.1) 1) = ((p.2.1.length - 1 : Nat) : Int) := w64_pred hp (by omega)
      have hg : lget p.2.1 (toN ((p.2.1.length - 1 : Nat) : Int)) [] = n := by rw [lget_i q3, q4]
      rw [cnd_f (ieq_f (by simp only [len]; omega)), hw, grd_t (inb_t (by simp only [len]; omega)), hg, q1]
      by_cases h3 : n = t.2.1
      · rw [cnd_f (by unfold sne; simpa using h3), if_pos (by rw [h3]), grd_t (in2_t (by simp only [ofN, nlen]; omega))]
        have : cutl p.2.1 0 (toN ((p.2.1.length - 1 : Nat) : Int)) = p.2.1.dropLast := by
          simp only [cutl, toN, Int.toNat_natCast, List.drop_zero]
          rw [List.dropLast_eq_take]
        rw [this]
      · rw [cnd_t (by unfold sne; simpa using h3), if_neg (fun k => h3 (by injection k))]
  · have h1 : nmX t.2.1 = false := by simpa using h1
    rw [h1, cnd_t (by rfl), if_pos rfl]
end
end Go.Mo
end

section
/-
  Plain facts: start tags, tokens taken, the tree of a source.
-/
set_option linter.all false
namespace Go.Mo
open Go Go.W Go.Lib
set_option maxRecDepth 100000
noncomputable section

/-- the attributes of a start tag with their meanings, or the error -/
def atM : List Ls → List At → List At → Int × List At
  | _, out, [] => (0, out)
  | seen, out, a :: r => if a.1 ∈ seen then (7, []) else if (meanP a.2).2 ≠ 0 then ((meanP a.2).2, []) else atM (seen ++ [a.1]) (out ++ [(a.1, (meanP a.2).1)]) r
def startS (p : Ps) (t : Tok) : Int × Ps :=
  if (t.2.1 :: t.2.2.1.map Prod.fst).all nmX = false then (5, p) else if 16 < t.2.2.1.length then (9, p) else if (atM [] [] t.2.2.1).1 ≠ 0 then ((atM [] [] t.2.2.1).1, p) else if roomP p false ≠ 0 then (roomP p false, p)
  else (0, p.1 ++ [(t.2.1, [], (atM [] [] t.2.2.1).2, (p.2.1.length : Int))], if t.1 = 1 then p.2.1 ++ [t.2.1] else p.2.1, false)
theorem names_loop {R : Type} {l : List At} (hl : l.length ≤ 300000) (n0 : Ls) (K : List Ls × Int → Option R) :
    fixN (fun v19 (v20 : (List (List UInt8)) × Int) =>
    cnd (ilt v20.2 (len l))
      (grd (inb v20.2 (len l))
        (grd (room (iadd (len v20.1) (len ([(lget l (toN v20.2) ([], [])).1] : List (List UInt8)))) 16)
          (v19 (lapp v20.1 ([(lget l (toN v20.2) ([], [])).1] : List (List UInt8)), w64 (iadd v20.2 (1 : Int))))))
      (K v20)) fuelH (([n0] : List (List UInt8)), (0 : Int)) = K (n0 :: l.map Prod.fst, (l.length : Int)) := by
  have h := drop_loop (s := l) (fun (a : List Ls) (j : Nat) => (a, (j : Int))) (fun a r => K (a ++ r.map Prod.fst, (l.length : Int))) (fun j a => a.length ≤ j + 1)
    (F := fun v19 (v20 : (List (List UInt8)) × Int) =>
    cnd (ilt v20.2 (len l))
      (grd (inb v20.2 (len l))
        (grd (room (iadd (len v20.1) (len ([(lget l (toN v20.2) ([], [])).1] : List (List UInt8)))) 16)
          (v19 (lapp v20.1 ([(lget l (toN v20.2) ([], [])).1] : List (List UInt8)), w64 (iadd v20.2 (1 : Int))))))
      (K v20)) ?_ fuelH 0 [n0] (fuelH_len (by omega) _) (Nat.zero_le _) (by simp)
  · exact h
  · intro self a j hj hI hself
    dsimp only
    by_cases hjl : j < l.length
    · have hw : w64 (iadd (j : Int) 1) = ((j + 1 : Nat) : Int) := w64_succ hjl (by omega)
      rw [cnd_t (ilt_t (by simp only [len]; omega)), grd_t (inb_t (by simp only [len]; omega)), lget_i hjl, grd_t (room_t (by simp only [len, iadd, List.length_cons, List.length_nil]; omega)), hw, List.drop_eq_getElem_cons hjl]
      refine Eq.trans (hself (a ++ [(l[j]).1]) (j + 1) (by omega) (by omega) (by simp; omega)) ?_
      rw [List.map_cons, List.append_assoc]
      rfl
    · obtain rfl : j = l.length := by omega
      rw [cnd_f (ilt_f (by simp only [len]; omega)), List.drop_length]
      simp
theorem all_loop {R : Type} {l : List Ls} (hl : l.length ≤ 400000) (bad : Option R) (K : Option R) :
    fixN (fun v15 (v16 : Int) =>
      cnd (ilt v16 (len l))
        (grd (inb v16 (len l))
          (bnd (xml_Name fuelH (lget l (toN v16) [])) fun v17 =>
          cnd (bnot v17)
            bad
            (v15 (w64 (iadd v16 (1 : Int))))))
        K) fuelH (0 : Int) = if l.all nmX = false then bad else K := by
  have h := drop_loop (s := l) (fun (_ : Unit) (j : Nat) => (j : Int)) (fun _ r => if r.all nmX = false then bad else K) (fun _ _ => True)
    (F := fun v15 (v16 : Int) =>
      cnd (ilt v16 (len l))
        (grd (inb v16 (len l))
          (bnd (xml_Name fuelH (lget l (toN v16) [])) fun v17 =>
          cnd (bnot v17)
            bad
            (v15 (w64 (iadd v16 (1 : Int))))))
        K) ?_ fuelH 0 () (fuelH_len (by omega) _) (Nat.zero_le _) trivial
  · exact h
  · intro self a j hj _ hself
    by_cases hjl : j < l.length
    · have hw : w64 (iadd (j : Int) 1) = ((j + 1 : Nat) : Int) := w64_succ hjl (by omega)
      rw [cnd_t (ilt_t (by simp only [len]; omega)), grd_t (inb_t (by simp only [len]; omega)), lget_i hjl, name_eq, bnd_some', hw, List.drop_eq_getElem_cons hjl, List.all_cons]
      by_cases e : nmX l[j] = true
      · rw [e, cnd_f (by rfl), Bool.true_and]
        exact hself () (j + 1) (by omega) (by omega) trivial
      · have e : nmX l[j] = false := by simpa using e
        rw [e, cnd_t (by rfl), Bool.false_and, if_pos rfl]
    · obtain rfl : j = l.length := by omega
      rw [cnd_f (ilt_f (by simp only [len]; omega)), List.drop_length]
      rfl
theorem dup_loop {R : Type} {l : List At} (hl : l.length ≤ 400000) (name : Ls) (bad : Option R) (K : Option R) :
    fixN (fun v12 (v13 : Int) =>
              cnd (ilt v13 (len l))
                (grd (inb v13 (len l))
                  (cnd (seq (lget l (toN v13) ([], [])).1 name)
                    bad
                    (v12 (w64 (iadd v13 (1 : Int))))))
                K) fuelH (0 : Int) = if name ∈ l.map Prod.fst then bad else K := by
  have h := drop_loop (s := l) (fun (_ : Unit) (j : Nat) => (j : Int)) (fun _ r => if name ∈ r.map Prod.fst then bad else K) (fun _ _ => True)
    (F := fun v12 (v13 : Int) =>
              cnd (ilt v13 (len l))
                (grd (inb v13 (len l))
                  (cnd (seq (lget l (toN v13) ([], [])).1 name)
                    bad
                    (v12 (w64 (iadd v13 (1 : Int))))))
                K) ?_ fuelH 0 () (fuelH_len (by omega) _) (Nat.zero_le _) trivial
  · exact h
  · intro self a j hj _ hself
    by_cases hjl : j < l.length
    · have hw : w64 (iadd (j : Int) 1) = ((j + 1 : Nat) : Int) := w64_succ hjl (by omega)
      rw [cnd_t (ilt_t (by simp only [len]; omega)), grd_t (inb_t (by simp only [len]; omega)), lget_i hjl, hw, List.drop_eq_getElem_cons hjl, List.map_cons]
      by_cases e : (l[j]).1 = name
      · rw [cnd_t (by rw [seq_t]; exact e), if_pos (by rw [e]; exact List.mem_cons_self)]
      · rw [cnd_f (by rw [seq_dec]; simpa using e)]
        refine Eq.trans (hself () (j + 1) (by omega) (by omega) trivial) ?_
        have : (name ∈ (l[j]).1 :: (l.drop (j + 1)).map Prod.fst) ↔ (name ∈ (l.drop (j + 1)).map Prod.fst) := by
          rw [List.mem_cons]
          exact ⟨fun k => k.resolve_left (fun q => e q.symm), .inr⟩
        simp only [this]
    · obtain rfl : j = l.length := by omega
      rw [cnd_f (ilt_f (by simp only [len]; omega)), List.drop_length]
      rfl
theorem start_eq {p : Ps} {t : Tok} (hl : t.2.2.1.length ≤ 300000) (hv : ∀ a ∈ t.2.2.1, a.2.length ≤ 900000) (hp : p.1.length ≤ 300000) (ho : p.2.1.length ≤ 300000) : xml_parser_start fuelH (p, t) = some (startS p t) := by
  unfold xml_parser_start startS
  dsimp only
  rw [jn_e]
  refine Eq.trans (names_loop hl t.2.1 _) ?_
  dsimp only
  rw [jn_e]
  refine Eq.trans (all_loop (by simp; omega) _ _) ?_
  by_cases h1 : (t.2.1 :: t.2.2.1.map Prod.fst).all nmX = false
  · rw [if_pos h1, if_pos h1]
  rw [if_neg h1, if_neg h1]
  by_cases h2 : 16 < t.2.2.1.length
  · rw [cnd_t (ilt_t (by simp only [len]; omega)), if_pos h2]
  rw [cnd_f (ilt_f (by simp only [len]; omega)), if_neg h2, jn_e]
  generalize hal : t.2.2.1 = l at *
  have h := drop_loop (s := l) (fun (out : List At) (j : Nat) => ((j : Int), (t.2.1, (([] : List UInt8), (out, len p.2.1)))))
    (fun out r => some (if (atM ((l.take (l.length - r.length)).map Prod.fst) out r).1 ≠ 0 then ((atM ((l.take (l.length - r.length)).map Prod.fst) out r).1, p) else if roomP p false ≠ 0 then (roomP p false, p)
      else (0, p.1 ++ [(t.2.1, [], (atM ((l.take (l.length - r.length)).map Prod.fst) out r).2, (p.2.1.length : Int))], if t.1 = 1 then p.2.1 ++ [t.2.1] else p.2.1, false))) (fun j out => out.length ≤ j)
    (F := fun v5 (v6 : Int × (List UInt8) × (List UInt8) × (List ((List UInt8) × List UInt8)) × Int) =>
          cnd (ilt v6.1 (len l))
            (jn (fun (v7 : (List UInt8) × (List UInt8) × (List ((List UInt8) × List UInt8)) × Int) =>
              v5 (w64 (iadd v6.1 (1 : Int)), v7))
            fun v8 =>
            grd (inb v6.1 (len l)) <|
            jn (fun (v9 : Unit) =>
              bnd (xml_meaning fuelH (lget l (toN v6.1) ([], [])).2) fun v10 =>
              cnd (ine v10.2 (0 : Int))
                (some (v10.2, p))
                (grd (room (iadd (len v6.2.2.2.1) (len ([((lget l (toN v6.1) ([], [])).1, v10.1)] : List ((List UInt8) × List UInt8)))) 32)
                  (v8 (v6.2.1, v6.2.2.1, lapp v6.2.2.2.1 ([((lget l (toN v6.1) ([], [])).1, v10.1)] : List ((List UInt8) × List UInt8)), v6.2.2.2.2))))
            fun v11 =>
            grd (in2 v6.1 (len l)) <|
            fixN (fun v12 (v13 : Int) =>
              cnd (ilt v13 (len (ltake (toN v6.1) l)))
                (grd (inb v13 (len (ltake (toN v6.1) l)))
                  (cnd (seq (lget (ltake (toN v6.1) l) (toN v13) ([], [])).1 (lget l (toN v6.1) ([], [])).1)
                    (some ((7 : Int), p))
                    (v12 (w64 (iadd v13 (1 : Int))))))
                (v11 ())) fuelH (0 : Int))
            ((fun (v2 : (List UInt8) × (List UInt8) × (List ((List UInt8) × List UInt8)) × Int) =>
          bnd (xml_parser_room fuelH (p, false)) fun v3 =>
          cnd (ine v3.1 (0 : Int))
            (some v3)
            (grd (room (iadd (len v3.2.1) (len ([v2] : List ((List UInt8) × (List UInt8) × (List ((List UInt8) × List UInt8)) × Int)))) 64)
              (cnd (ieq t.1 (1 : Int))
                (grd (room (iadd (len v3.2.2.1) (len ([t.2.1] : List (List UInt8)))) 16)
                  (some ((0 : Int), lapp v3.2.1 ([v2] : List ((List UInt8) × (List UInt8) × (List ((List UInt8) × List UInt8)) × Int)), lapp v3.2.2.1 ([t.2.1] : List (List UInt8)), false)))
                (some ((0 : Int), lapp v3.2.1 ([v2] : List ((List UInt8) × (List UInt8) × (List ((List UInt8) × List UInt8)) × Int)), v3.2.2.1, false))))) v6.2)) ?_ fuelH 0 [] (fuelH_len (by omega) _) (Nat.zero_le _) (Nat.zero_le _)
  · refine Eq.trans h ?_
    rw [List.drop_zero, Nat.sub_self]
    rfl
  · intro self out j hj hI hself
    dsimp only
    by_cases hjl : j < l.length
    · have hw : w64 (iadd (j : Int) 1) = ((j + 1 : Nat) : Int) := w64_succ hjl (by omega)
      have hva := hv _ (List.getElem_mem hjl)
      have hin : inb (j : Int) (len l) = true := inb_t (by simp only [len]; omega)
      have htk : ltake (toN (j : Int)) l = l.take j := by simp [ltake, toN]
      rw [cnd_t (ilt_t (by simp only [len]; omega)), jn_e, grd_t hin, jn_e, grd_t (in2_t (by simp only [len]; omega)), htk, lget_i hjl]
      refine Eq.trans (dup_loop (by rw [List.length_take]; omega) _ _ _) ?_
      have hrl : l.length - (l.drop j).length = j := by rw [List.length_drop]; omega
      have hrl2 : l.length - (l.drop (j + 1)).length = j + 1 := by rw [List.length_drop]; omega
      rw [hrl, List.drop_eq_getElem_cons hjl]
      have hat : atM ((l.take j).map Prod.fst) out (l[j] :: l.drop (j + 1)) = if (l[j]).1 ∈ (l.take j).map Prod.fst then (7, []) else if (meanP (l[j]).2).2 ≠ 0 then ((meanP (l[j]).2).2, []) else atM ((l.take j).map Prod.fst ++ [(l[j]).1]) (out ++ [((l[j]).1, (meanP (l[j]).2).1)]) (l.drop (j + 1)) := rfl
      rw [hat]
      by_cases h3 : (l[j]).1 ∈ (l.take j).map Prod.fst
      · rw [if_pos h3, if_pos h3]
        rfl
      rw [if_neg h3, if_neg h3, mean_eq (by omega), bnd_some']
      by_cases h4 : (meanP (l[j]).2).2 = 0
      · rw [cnd_f (ine_f h4), if_neg (show ¬ (meanP (l[j]).2).2 ≠ 0 from fun k => k h4), grd_t (room_t (by simp only [len, iadd, List.length_cons, List.length_nil]; omega)), hw]
        have hseen : (l.take j).map Prod.fst ++ [(l[j]).1] = (l.take (j + 1)).map Prod.fst := by
          rw [List.take_succ_eq_append_getElem hjl, List.map_append]
          rfl
        rw [hseen]
        refine Eq.trans (hself (out ++ [((l[j]).1, (meanP (l[j]).2).1)]) (j + 1) (by omega) (by omega) (by simp; omega)) ?_
        rw [hrl2]
      · rw [cnd_t (ine_t h4), if_pos h4]
        dsimp only
        rw [if_pos h4]
    · obtain rfl : j = l.length := by omega
      rw [cnd_f (ilt_f (by simp only [len]; omega)), List.drop_length, List.length_nil, Nat.sub_zero, room_eq, bnd_some']
      have hat : ∀ seen out, atM seen out [] = (0, out) := fun _ _ => rfl
      rw [hat]
      dsimp only
      rw [if_neg (show ¬ (0 : Int) ≠ 0 by simp)]
      by_cases h5 : roomP p false = 0
      · rw [cnd_f (ine_f h5), if_neg (fun k => k h5), grd_t (room_t (by simp only [len, iadd, List.length_cons, List.length_nil]; omega))]
        by_cases h6 : t.1 = 1
        · rw [cnd_t (ieq_t h6), if_pos h6, grd_t (room_t (by simp only [len, iadd, List.length_cons, List.length_nil]; omega))]
          rfl
        · rw [cnd_f (ieq_f h6), if_neg h6]
          rfl
      · rw [cnd_t (ine_t h5), if_pos h5]
def takeS (p : Ps) (t : Tok) (first : Bool) : Int × Ps := if t.1 = 0 then textS p t.2.2.2 else if t.1 = 2 then endS p t.2.1 else if t.1 = 4 then (if t.2.2.2 = [60, 63] ∧ first = false then (4, p) else (0, p)) else startS p t
theorem take_eq {p : Ps} {t : Tok} (first : Bool) (hx : t.2.2.2.length ≤ 300000) (hl : t.2.2.1.length ≤ 300000) (hv : ∀ a ∈ t.2.2.1, a.2.length ≤ 900000) (hp : p.1.length ≤ 300000) (ho : p.2.1.length ≤ 300000) (hj : p.2.2 = true → p.1 ≠ []) (ht : ∀ n ∈ p.1, n.2.1.length ≤ 4000000) : xml_parser_take fuelH (p, t, first) = some (takeS p t first) := by
  unfold xml_parser_take takeS
  dsimp only
  by_cases h0 : t.1 = 0
  · rw [cnd_t (ieq_t h0), if_pos h0, text2_eq hx hj hp ht]
    rfl
  rw [cnd_f (ieq_f h0), if_neg h0]
  by_cases h2 : t.1 = 2
  · rw [cnd_t (ieq_t h2), if_pos h2, end_eq ho]
    rfl
  rw [cnd_f (ieq_f h2), if_neg h2]
  by_cases h4 : t.1 = 4
  · rw [cnd_t (ieq_t h4), if_pos h4]
    by_cases h5 : t.2.2.2 = [60, 63]
    · rw [cnd_t (by rw [seq_t]; exact h5)]
      cases first with
      | true => rw [if_neg (by simp)]; rfl
      | false => rw [if_pos ⟨h5, rfl⟩]; rfl
    · rw [cnd_f (by rw [seq_dec]; simpa using h5), if_neg (fun k => h5 k.1)]
  · rw [cnd_f (ieq_f h4), if_neg h4, start_eq hl hv hp ho]
    rfl
end
end Go.Mo
end

section
/-
  Plain facts: the tree of a source.
-/
set_option linter.all false
namespace Go.Mo
open Go Go.W Go.Lib
set_option maxRecDepth 100000
noncomputable section

theorem attrP_val {t r : Ls} {a : Aq} (h : attrP t = some (a, r)) : a.2.length ≤ t.length := by
  unfold attrP at h
  split at h
  · cases h
  split at h
  · cases h
  rename_i b r2 h2
  split at h
  · split at h
    · cases h
    rename_i q r4 h4
    split at h
    · split at h
      · rename_i v r5 h5
        injection h with h
        injection h with h _
        subst h
        have e1 := valP_len h5
        have e2 := skp_len r2
        have e3 := skp_len (t.drop (namP t).length)
        rw [h4, List.length_cons] at e2
        rw [h2, List.length_cons, List.length_drop] at e3
        show v.length ≤ _
        omega
      · cases h
    · cases h
  · cases h
theorem tagL_suf : ∀ (n : Nat) (t : Ls) (l : List Aq) {k : Int} {m : List Aq} {r : Ls}, tagL n t l = some (k, m, r) → ∃ u, u ++ r = t
  | 0, _, _, _, _, _, h => by cases h
  | n + 1, t, l, k, m, r, h => by
    obtain ⟨u0, h0⟩ := skp_suf t
    unfold tagL at h
    generalize skp t = u at *
    match u with
    | [] => cases h
    | b :: q =>
      dsimp only at h
      split at h
      · injection h with h
        injection h with h1 h
        injection h with h2 h3
        subst h3
        exact ⟨u0 ++ [b], by rw [← h0]; simp⟩
      split at h
      · injection h with h
        injection h with h1 h
        injection h with h2 h3
        subst h3
        exact ⟨u0 ++ (b :: q.take 1), by rw [← h0, List.append_assoc, List.cons_append, List.take_append_drop]⟩
      split at h
      · cases h
      cases ha : attrP (b :: q) with
      | none => rw [ha] at h; cases h
      | some p =>
        obtain ⟨a, r2⟩ := p
        rw [ha] at h
        obtain ⟨u1, h1⟩ := attrP_suf ha
        obtain ⟨u2, h2⟩ := tagL_suf n r2 (l ++ [a]) h
        exact ⟨u0 ++ (u1 ++ u2), by rw [← h0, ← h1, ← h2]; simp⟩
theorem suf_of {t r : Ls} (h : ∃ u, u ++ r = t) : ∃ k, r = t.drop k := by
  obtain ⟨u, rfl⟩ := h
  exact ⟨u.length, by rw [List.drop_left]⟩
theorem nextP_suf {s r : Ls} {t : Tok} (h : nextP s = some (t, r)) : ∃ k, r = s.drop k := by
  match s with
  | [] => cases h
  | b :: u =>
    rw [nextP_cons] at h
    have note : ∀ head tail : Ls, noteP (b :: u) head tail = some (t, r) → ∃ k, r = (b :: u).drop k := fun head tail h => by
      unfold noteP at h
      split at h
      · cases h
      · injection h with h
        injection h with _ h
        exact ⟨_, h.symm⟩
    split at h
    · split at h
      · exact note _ _ h
      split at h
      · exact note _ _ h
      split at h
      · unfold endT at h
        split at h
        · cases h
        obtain ⟨u1, h1⟩ := skp_suf (((b :: u).drop 2).drop (namP ((b :: u).drop 2)).length)
        split at h
        · cases h
        · rename_i c q hq
          split at h
          · injection h with h
            injection h with _ h
            subst h
            refine suf_of ⟨(b :: u).take 2 ++ (((b :: u).drop 2).take (namP ((b :: u).drop 2)).length ++ (u1 ++ [c])), ?_⟩
            rw [hq] at h1
            conv => rhs; rw [← List.take_append_drop 2 (b :: u), ← List.take_append_drop (namP ((b :: u).drop 2)).length ((b :: u).drop 2), ← h1]
            simp
          · cases h
      · unfold begT at h
        split at h
        · cases h
        split at h
        · cases h
        · rename_i k l q hq
          injection h with h
          injection h with _ h
          subst h
          obtain ⟨u1, h1⟩ := tagL_suf _ _ _ hq
          refine suf_of ⟨(b :: u).take 1 ++ (((b :: u).drop 1).take (namP ((b :: u).drop 1)).length ++ u1), ?_⟩
          rw [List.append_assoc, List.append_assoc, h1, List.take_append_drop, List.take_append_drop]
    · injection h with h
      injection h with _ h
      exact ⟨_, h.symm⟩
theorem tagL_vals : ∀ (n : Nat) (t : Ls) (l : List Aq) {k : Int} {m : List Aq} {r : Ls}, tagL n t l = some (k, m, r) → ∀ a ∈ m, a ∈ l ∨ a.2.length ≤ t.length
  | 0, _, _, _, _, _, h => by cases h
  | n + 1, t, l, k, m, r, h => by
    have hk := skp_len t
    unfold tagL at h
    generalize skp t = u at *
    match u with
    | [] => cases h
    | b :: q =>
      dsimp only at h
      split at h
      · injection h with h
        injection h with h1 h
        injection h with h2 h3
        subst h2
        exact fun a ha => .inl ha
      split at h
      · injection h with h
        injection h with h1 h
        injection h with h2 h3
        subst h2
        exact fun a ha => .inl ha
      split at h
      · cases h
      cases ha : attrP (b :: q) with
      | none => rw [ha] at h; cases h
      | some p =>
        obtain ⟨a, r2⟩ := p
        rw [ha] at h
        have h1 := attrP_len ha
        have hval : a.2.length ≤ (b :: q).length := attrP_val ha
        intro x hx
        rcases tagL_vals n r2 (l ++ [a]) h x hx with h2 | h2
        · rcases List.mem_append.1 h2 with h3 | h3
          · exact .inl h3
          · simp at h3
            subst h3
            exact .inr (by omega)
        · exact .inr (by omega)
structure TokOk (n : Nat) (t : Tok) : Prop where
  tx : t.2.2.2.length ≤ n
  al : t.2.2.1.length ≤ n
  av : ∀ a ∈ t.2.2.1, a.2.length ≤ n
theorem nextP_ok {s r : Ls} {t : Tok} (h : nextP s = some (t, r)) : TokOk s.length t ∧ (t.1 = 0 → t.2.2.2.length + r.length = s.length) := by
  match s with
  | [] => cases h
  | b :: u =>
    rw [nextP_cons] at h
    have note : ∀ head tail : Ls, head.length ≤ (b :: u).length → noteP (b :: u) head tail = some (t, r) → TokOk (b :: u).length t ∧ (t.1 = 0 → t.2.2.2.length + r.length = (b :: u).length) := fun head tail h1 h => by
      unfold noteP at h
      split at h
      · cases h
      · injection h with h
        injection h with h _
        subst h
        exact ⟨⟨h1, Nat.zero_le _, fun a ha => (by cases ha)⟩, fun k => (by cases k)⟩
    split at h
    · split at h
      · rename_i hh
        have := congrArg List.length hh
        rw [List.length_take] at this
        exact note _ _ (by simp at this ⊢; omega) h
      split at h
      · rename_i hh
        have := congrArg List.length hh
        rw [List.length_take] at this
        exact note _ _ (by simp at this ⊢; omega) h
      split at h
      · unfold endT at h
        split at h
        · cases h
        split at h
        · cases h
        · split at h
          · injection h with h
            injection h with h _
            subst h
            exact ⟨⟨Nat.zero_le _, Nat.zero_le _, fun a ha => (by cases ha)⟩, fun k => (by cases k)⟩
          · cases h
      · unfold begT at h
        split at h
        · cases h
        split at h
        · cases h
        · rename_i k l q hq
          injection h with h
          injection h with h _
          subst h
          have h1 := tagL_len _ _ _ hq
          have h2 := tagL_vals _ _ _ hq
          rw [List.length_drop, List.length_drop] at h1
          refine ⟨⟨Nat.zero_le _, ?_, fun a ha => ?_⟩, fun e => ?_⟩
          · have := h1.2.1
            simp only [List.length_nil] at this
            show l.length ≤ _
            omega
          · rcases h2 a ha with h3 | h3
            · cases h3
            · rw [List.length_drop, List.length_drop] at h3
              omega
          · rcases h1.2.2 with h3 | h3 <;> (have e : k = 0 := e; omega)
    · injection h with h
      injection h with h h2
      subst h
      subst h2
      have := tw_len (P := not60) (b :: u)
      refine ⟨⟨this, Nat.zero_le _, fun a ha => (by cases ha)⟩, fun _ => ?_⟩
      rw [List.length_drop]
      show ((b :: u).takeWhile not60).length + _ = _
      omega
/-- what stays true of the parser behind so many bytes -/
structure PsOk (i : Nat) (p : Ps) : Prop where
  jn : p.2.2 = true → p.1 ≠ []
  nl : p.1.length ≤ i
  sl : p.2.1.length ≤ i
  tx : ∀ n ∈ p.1, n.2.1.length ≤ 4 * i
theorem joinT_ne {l : List Nd} {t : Ls} (h : l ≠ []) : ∃ n, l = l.dropLast ++ [n] ∧ joinT l t = l.dropLast ++ [(n.1, n.2.1 ++ t, n.2.2)] := by
  obtain ⟨n, q1, q2, _⟩ := last_of h
  exact ⟨n, q2, by unfold joinT; rw [q1]⟩
theorem take_ok {s r : Ls} {t : Tok} {i : Nat} {p : Ps} (first : Bool) (hn : nextP s = some (t, r)) (hp : PsOk i p) (h0 : (takeS p t first).1 = 0) : PsOk (i + (s.length - r.length)) (takeS p t first).2 := by
  have hl := nextP_len hn
  have hk := nextP_ok hn
  have mono : PsOk (i + (s.length - r.length)) p := ⟨hp.jn, by have := hp.nl; omega, by have := hp.sl; omega, fun n h => by have := hp.tx n h; omega⟩
  unfold takeS at *
  by_cases c0 : t.1 = 0
  · rw [if_pos c0] at *
    have htl := hk.2 c0
    have hml := meanP_len t.2.2.2
    unfold textS at *
    split
    · exact mono
    split
    · exact mono
    split
    · exact mono
    split
    · rename_i _ _ _ hj
      obtain ⟨n, q1, q2⟩ := joinT_ne (t := (meanP t.2.2.2).1) (hp.jn hj)
      have hnl := hp.nl
      have hdl : p.1.length = p.1.dropLast.length + 1 := by
        have h := congrArg List.length q1
        rw [List.length_append, List.length_cons, List.length_nil] at h
        exact h
      refine ⟨fun _ => ?_, ?_, mono.sl, fun m hm => ?_⟩
      · show joinT _ _ ≠ []
        rw [q2]
        simp
      · show (joinT _ _).length ≤ _
        rw [q2, List.length_append, List.length_cons, List.length_nil]
        omega
      · have hm : m ∈ joinT p.1 (meanP t.2.2.2).1 := hm
        rw [q2] at hm
        rcases List.mem_append.1 hm with h | h
        · exact mono.tx m (by rw [q1]; exact List.mem_append_left _ h)
        · simp at h
          subst h
          have := hp.tx n (by rw [q1]; simp)
          rw [List.length_append]
          omega
    · refine ⟨fun _ => by simp, ?_, mono.sl, fun m hm => ?_⟩
      · show (p.1 ++ _).length ≤ _
        have := hp.nl
        rw [List.length_append, List.length_cons, List.length_nil]
        omega
      · rcases List.mem_append.1 hm with h | h
        · exact mono.tx m h
        · simp at h
          subst h
          show (meanP t.2.2.2).1.length ≤ _
          omega
  rw [if_neg c0] at *
  by_cases c2 : t.1 = 2
  · rw [if_pos c2] at *
    unfold endS at *
    split
    · exact mono
    split
    · refine ⟨fun k => (by cases k), mono.nl, ?_, mono.tx⟩
      show p.2.1.dropLast.length ≤ _
      have := hp.sl
      rw [List.length_dropLast]
      omega
    · exact mono
  rw [if_neg c2] at *
  by_cases c4 : t.1 = 4
  · rw [if_pos c4] at *
    split <;> exact mono
  rw [if_neg c4] at *
  unfold startS at *
  split
  · exact mono
  split
  · exact mono
  split
  · exact mono
  split
  · exact mono
  refine ⟨fun k => (by cases k), ?_, ?_, fun m hm => ?_⟩
  · show (p.1 ++ _).length ≤ _
    have := hp.nl
    rw [List.length_append, List.length_cons, List.length_nil]
    omega
  · dsimp only
    have := hp.sl
    split
    · rw [List.length_append, List.length_cons, List.length_nil]
      omega
    · omega
  · rcases List.mem_append.1 hm with h | h
    · exact mono.tx m h
    · simp at h
      subst h
      simp

def parE : Nat → Nat → Ps → Ls → List Nd × Option (Nat × Int)
  | 0, _, _, _ => ([], none)
  | _ + 1, n, p, [] => if p.1 = [] ∨ p.2.1 ≠ [] then ([], some (n, 4)) else (p.1, none)
  | f + 1, n, p, b :: u => match nextP (b :: u) with
    | none => ([], some (n - (b :: u).length, 4))
    | some (t, r) => if (takeS p t (decide ((b :: u).length = n))).1 ≠ 0 then ([], some (n - (b :: u).length, (takeS p t (decide ((b :: u).length = n))).1)) else parE f n (takeS p t (decide ((b :: u).length = n))).2 r
theorem parE_fuel : ∀ (f g n : Nat) (p : Ps) (s : Ls), s.length < f → s.length < g → parE f n p s = parE g n p s
  | 0, _, _, _, _, h, _ => by omega
  | _ + 1, 0, _, _, _, _, h => by omega
  | f + 1, g + 1, n, p, [], _, _ => rfl
  | f + 1, g + 1, n, p, b :: u, h1, h2 => by
    unfold parE
    cases hn : nextP (b :: u) with
    | none => rfl
    | some q =>
      obtain ⟨t, r⟩ := q
      have := nextP_len hn
      dsimp only
      rw [parE_fuel f g n _ r (by omega) (by omega)]
def parS (n : Nat) (p : Ps) (s : Ls) : List Nd × Option (Nat × Int) := parE (s.length + 1) n p s
theorem parS_nil (n : Nat) (p : Ps) : parS n p [] = if p.1 = [] ∨ p.2.1 ≠ [] then ([], some (n, 4)) else (p.1, none) := rfl
theorem parS_none {n : Nat} {p : Ps} {s : Ls} (h0 : s ≠ []) (h : nextP s = none) : parS n p s = ([], some (n - s.length, 4)) := by
  match s, h0 with
  | b :: u, _ =>
    show parE (u.length + 1 + 1) n p (b :: u) = _
    unfold parE
    rw [h]
theorem parS_some {n : Nat} {p : Ps} {s r : Ls} {t : Tok} (h : nextP s = some (t, r)) : parS n p s = if (takeS p t (decide (s.length = n))).1 ≠ 0 then ([], some (n - s.length, (takeS p t (decide (s.length = n))).1)) else parS n (takeS p t (decide (s.length = n))).2 r := by
  match s with
  | [] => cases h
  | b :: u =>
    have hl := nextP_len h
    show parE (u.length + 1 + 1) n p (b :: u) = _
    unfold parE
    rw [h]
    dsimp only
    rw [parE_fuel (u.length + 1) (r.length + 1) n _ r (by rw [List.length_cons] at hl; omega) (by omega)]
    rfl
def resP (s : Ls) : List Nd × Option (Nat × Int) → List Nd × List (Int × Int × Int)
  | (l, none) => (l, [])
  | (_, some (i, e)) => ([], atP s i e)
def p0 : Ps := ([], [], false)
def parP (s : Ls) : List Nd × List (Int × Int × Int) := if 262144 < s.length then ([], atP s 0 9) else resP s (parS s.length p0 s)
theorem suf_drop {s r : Ls} {i : Nat} (hi : i ≤ s.length) (h : ∃ k, r = (s.drop i).drop k) (hl : r.length ≤ s.length) : r = s.drop (s.length - r.length) := by
  obtain ⟨k, rfl⟩ := h
  rw [List.drop_drop, List.length_drop]
  by_cases e : i + k ≤ s.length
  · rw [show s.length - (s.length - (i + k)) = i + k by omega]
  · rw [List.drop_of_length_le (by omega), List.drop_of_length_le (by omega)]
theorem parse_eq {s : Ls} (hs : s.length ≤ 3999999) : xml_Parse fuelH s = some (parP s) := by
  unfold xml_Parse parP
  have h00 : xml_at fuelH (s, (0 : Int), (9 : Int)) = some (atP s 0 9) := at_eq hs (Nat.zero_le _) 9
  by_cases h1 : 262144 < s.length
  · rw [cnd_t (ilt_t (by simp only [len]; omega)), if_pos h1, h00]
    rfl
  rw [cnd_f (ilt_f (by simp only [len]; omega)), if_neg h1, jn_e]
  have hend : xml_at fuelH (s, len s, (4 : Int)) = some (atP s s.length 4) := at_eq hs (Nat.le_refl _) 4
  refine Eq.trans (drop_loop (s := s) (fun (p : Ps) (i : Nat) => ((i : Int), p)) (fun p r => some (resP s (parS s.length p r))) (fun i p => PsOk i p) ?_ fuelH 0 p0 (fuelH_len (by omega) _) (Nat.zero_le _) ⟨fun k => (by cases k), Nat.zero_le _, Nat.zero_le _, fun n hn => (by cases hn)⟩) rfl
  intro self p i hi hI hself
  dsimp only
  by_cases hil : i < s.length
  · have hd : ldrop (toN (i : Int)) s = s.drop i := by simp [ldrop, toN]
    have hdl : (s.drop i).length = s.length - i := List.length_drop
    have hne : s.drop i ≠ [] := by
      intro k
      rw [k, List.length_nil] at hdl
      omega
    have hnx := next_is (s := s.drop i) (by omega) hne
    rw [cnd_t (ilt_t (by simp only [len]; omega)), grd_t (in2_t (by simp only [len]; omega)), hd]
    cases hn : nextP (s.drop i) with
    | none =>
      rw [hn] at hnx
      obtain ⟨t, n, hnx⟩ := hnx
      rw [hnx, bnd_some', cnd_t (by rfl), at_eq hs (by omega), bnd_some', parS_none hne hn, hdl, show s.length - (s.length - i) = i by omega]
      rfl
    | some q =>
      obtain ⟨t, r⟩ := q
      rw [hn] at hnx
      have hnx : xml_next fuelH (s.drop i) = some (t, (((s.drop i).length - r.length : Nat) : Int), true) := hnx
      have hl := nextP_len hn
      have hk := nextP_ok hn
      have hfirst : ieq (i : Int) 0 = decide ((s.drop i).length = s.length) := by
        by_cases e : i = 0
        · subst e; simp [ieq]
        · rw [ieq_f (by omega), decide_eq_false (by omega)]
      rw [hnx, bnd_some', cnd_f (by rfl)]
      dsimp only
      rw [hfirst, take_eq _ (by have := hk.1.tx; omega) (by have := hk.1.al; omega) (fun a ha => by have := hk.1.av a ha; omega) (by have := hI.nl; omega) (by have := hI.sl; omega) hI.jn (fun n hm => by have := hI.tx n hm; omega), bnd_some', parS_some hn]
      by_cases e : (takeS p t (decide ((s.drop i).length = s.length))).1 = 0
      · rw [cnd_f (ine_f e), if_neg (fun k => k e)]
        have hw : w64 (iadd (i : Int) (((s.drop i).length - r.length : Nat) : Int)) = ((s.length - r.length : Nat) : Int) := by
          simp only [iadd]
          rw [w64_id (by omega)]
          omega
        rw [hw]
        have hok := take_ok (decide ((s.drop i).length = s.length)) hn hI e
        have hsuf : r = s.drop (s.length - r.length) := suf_drop hi (nextP_suf hn) (by omega)
        refine Eq.trans (hself _ (s.length - r.length) (by omega) (by omega) ?_) ?_
        · rw [show s.length - r.length = i + ((s.drop i).length - r.length) by omega]
          exact hok
        · rw [← hsuf]
      · rw [cnd_t (ine_t e), if_pos e, at_eq hs (by omega), bnd_some', hdl, show s.length - (s.length - i) = i by omega]
        rfl
  · obtain rfl : i = s.length := by omega
    rw [cnd_f (ilt_f (by simp only [len]; omega)), List.drop_length, parS_nil]
    by_cases e1 : p.1 = []
    · rw [cnd_t (by rw [e1]; rfl), if_pos (.inl e1), hend]
      rfl
    · have hp1 : 0 < p.1.length := List.length_pos_iff.2 e1
      rw [cnd_f (ieq_f (by simp only [len]; omega))]
      by_cases e2 : p.2.1 = []
      · rw [cnd_f (by rw [e2]; rfl), if_neg (fun k => by rcases k with k | k; exact e1 k; exact k e2)]
        rfl
      · have hp2 : 0 < p.2.1.length := List.length_pos_iff.2 e2
        rw [cnd_t (ilt_t (by simp only [len]; omega)), if_pos (.inr e2), hend]
        rfl
end
end Go.Mo
end

section
/-
  Plain facts: printed pieces are read back.
-/
set_option linter.all false
namespace Go.Mo
open Go Go.W Go.Lib
set_option maxRecDepth 100000
noncomputable section

structure AtOk (l : List At) : Prop where
  nm : ∀ a ∈ l, nmX a.1 = true
  vl : ∀ a ∈ l, vld a.2 = true
  nd : (l.map Prod.fst).Nodup
  few : l.length ≤ 16
end
end Go.Mo
end

section
/-
  Plain facts: the text of nodes.
-/
set_option linter.all false
namespace Go.Mo
open Go Go.W Go.Lib
set_option maxRecDepth 100000
noncomputable section

end
end Go.Mo
end

section
/-
  Plain facts: the text of a tree is read as the tree.
-/
set_option linter.all false
namespace Go.Mo
open Go Go.W Go.Lib
set_option maxRecDepth 100000
noncomputable section

structure BK (p : Ps) (prev : Option Nd) (r : List Nd) : Prop where
  ck : ckE prev r = 0
  nm : ∀ x ∈ p.2.1, nmX x = true
  lo : ∀ m r', r = m :: r' → dep m ≤ (p.2.1.length : Int)
  jn : p.2.2 = true → ∃ q, prev = some q ∧ q.1 = [] ∧ dep q = (p.2.1.length : Int) ∧ 1 ≤ dep q
  no : prev = none → p.1 = [] ∧ p.2.1 = []
  ro : p.1.length + r.length ≤ 8192
end
end Go.Mo
end

section
/-
  XmlReturns and XmlIgnores return true.
-/
set_option linter.all false
namespace Go.Mo
open Go Go.W Go.Lib
set_option maxRecDepth 100000
noncomputable section

theorem eqA_eq {l : List At} (hl : l.length ≤ 4000000) : slices_Equal_Lapi_Attr_api_Attr fuelH (l, l) = some true := by
  unfold slices_Equal_Lapi_Attr_api_Attr
  rw [cnd_f (ine_f rfl), jn_e]
  refine drop_loop (s := l) (fun (_ : Unit) (j : Nat) => (j : Int)) (fun _ _ => some true) (fun _ _ => True) ?_ fuelH 0 () (fuelH_len hl _) (Nat.zero_le _) trivial
  intro self a j hj _ hself
  by_cases hjl : j < l.length
  · have hw : w64 (iadd (j : Int) 1) = ((j + 1 : Nat) : Int) := w64_succ hjl (by omega)
    have hin : inb (j : Int) (len l) = true := inb_t (by simp only [len]; omega)
    dsimp only
    rw [cnd_t (ilt_t (by simp only [len]; omega)), grd_t hin, grd_t hin, lget_i hjl]
    have hb : bnot (band (seq (l[j]).1 (l[j]).1) (seq (l[j]).2 (l[j]).2)) = false := by
      have h1 : seq (l[j]).1 (l[j]).1 = true := by rw [seq_t]
      have h2 : seq (l[j]).2 (l[j]).2 = true := by rw [seq_t]
      rw [h1, h2]
      rfl
    rw [cnd_f hb, hw]
    exact hself () (j + 1) (by omega) (by omega) trivial
  · obtain rfl : j = l.length := by omega
    dsimp only
    rw [cnd_f (ilt_f (by simp only [len]; omega))]
theorem eqN_eq {n : Nd} (h : n.2.2.1.length ≤ 4000000) : l20_equal fuelH (n, n) = some true := by
  unfold l20_equal
  have hi : ieq n.2.2.2 n.2.2.2 = true := ieq_t rfl
  rw [cnd_t (by rw [seq_t]), cnd_t (by rw [seq_t]), cnd_t hi, eqA_eq h]
  rfl
theorem same_eq {l : List Nd} (hl : l.length ≤ 4000000) (hs : ∀ n ∈ l, n.2.2.1.length ≤ 4000000) : l20_same fuelH (l, l) = some true := by
  unfold l20_same slices_EqualFunc_Lapi_Node_Lapi_Node_api_Node_api_Node
  rw [cnd_f (ine_f rfl), jn_e]
  have h := drop_loop (R := Bool) (s := l) (F := fun v2 (v3 : Int) =>
      cnd (ilt v3 (len l))
        (grd (inb v3 (len l))
          (grd (inb v3 (len l))
            (bnd (l20_equal fuelH (lget l (toN v3) ([], ([], ([], (0 : Int)))), lget l (toN v3) ([], ([], ([], (0 : Int)))))) fun v4 =>
            cnd (bnot v4)
              (some false)
              (v2 (w64 (iadd v3 (1 : Int)))))))
        (some true)) (fun (_ : Unit) (j : Nat) => (j : Int)) (fun _ _ => some true) (fun _ _ => True) ?_ fuelH 0 () (fuelH_len hl _) (Nat.zero_le _) trivial
  · refine Eq.trans (bnd_s h) rfl
  · intro self a j hj _ hself
    by_cases hjl : j < l.length
    · have hw : w64 (iadd (j : Int) 1) = ((j + 1 : Nat) : Int) := w64_succ hjl (by omega)
      have hin : inb (j : Int) (len l) = true := inb_t (by simp only [len]; omega)
      rw [cnd_t (ilt_t (by simp only [len]; omega)), grd_t hin, grd_t hin, lgetn hjl, eqN_eq (hs _ (List.getElem_mem hjl)), bnd_some', cnd_f (by rfl), hw]
      exact hself () (j + 1) (by omega) (by omega) trivial
    · obtain rfl : j = l.length := by omega
      rw [cnd_f (ilt_f (by simp only [len]; omega))]
end
end Go.Mo
end

section
/-
  Plain facts: the check and the text of nodes, the other side; XmlChecks returns true.
-/
set_option linter.all false
namespace Go.Mo
open Go Go.W Go.Lib
set_option maxRecDepth 100000
noncomputable section

theorem dup_loop2 {R : Type} {l : List At} (hl : l.length ≤ 400000) (name : Ls) (bad : Option R) (K : Option R) :
    fixN (fun v12 (v13 : Int) =>
              cnd (ilt v13 (len l))
                (grd (inb v13 (len l))
                  (cnd (seq name (lget l (toN v13) ([], [])).1)
                    bad
                    (v12 (w64 (iadd v13 (1 : Int))))))
                K) fuelH (0 : Int) = if name ∈ l.map Prod.fst then bad else K := by
  have hs : ∀ a b : Ls, seq a b = seq b a := fun a b => by
    rw [seq_dec, seq_dec]
    exact decide_eq_decide.2 ⟨fun h => h.symm, fun h => h.symm⟩
  simp only [hs name]
  exact dup_loop hl name bad K
end
end Go.Mo
end

section
/-
  Plain facts: the reader, the other side: places, parts, meanings.
-/
set_option linter.all false
namespace Go.Mo
open Go Go.W Go.Lib
set_option maxRecDepth 100000
noncomputable section

theorem rspace_eq (N : Nat) (x : UInt8) : r20_space N x = some (wsB x) := by
  unfold r20_space wsB
  by_cases h1 : x = 9
  · subst h1; rfl
  rw [cnd_f (ieq_f (fun k => h1 (n8_inj k)))]
  by_cases h2 : x = 10
  · subst h2; rfl
  rw [cnd_f (ieq_f (fun k => h2 (n8_inj k)))]
  by_cases h3 : x = 13
  · subst h3; rfl
  rw [cnd_f (ieq_f (fun k => h3 (n8_inj k)))]
  by_cases h4 : x = 32
  · subst h4; rfl
  rw [ieq_f (fun k => h4 (n8_inj k))]
  simp [h1, h2, h3, h4]
theorem skp_cons (b : UInt8) (t : Ls) : skp (b :: t) = if wsB b = true then skp t else b :: t := by
  unfold skp
  rw [List.takeWhile_cons]
  split
  · rfl
  · rfl
theorem rskip_eq {s : Ls} (hs : s.length ≤ 4000000) : r20_skip fuelH s = some (skp s) := by
  unfold r20_skip
  rw [jn_e]
  refine Eq.trans (drop_loop (s := s) (F := fun v2 (v3 : List UInt8) =>
    cnd (sne v3 ([] : List UInt8))
      (grd (inb (0 : Int) (len v3))
        (bnd (r20_space fuelH (lget v3 (toN (0 : Int)) (0 : UInt8))) fun v4 =>
        cnd v4
          (grd (in2 (1 : Int) (len v3))
            (v2 (ldrop (toN (1 : Int)) v3)))
          (some v3)))
      (some v3)) (fun (_ : Unit) (j : Nat) => s.drop j) (fun _ r => some (skp r)) (fun _ _ => True) ?_ fuelH 0 () (fuelH_len hs _) (Nat.zero_le _) trivial) rfl
  intro self a j hj _ hself
  by_cases hjl : j < s.length
  · have hdl : ldrop (toN (1 : Int)) (s[j] :: s.drop (j + 1)) = s.drop (j + 1) := rfl
    have hg : lget (s[j] :: s.drop (j + 1)) (toN (0 : Int)) (0 : UInt8) = s[j] := rfl
    rw [List.drop_eq_getElem_cons hjl, cnd_t (by unfold sne; simpa using hjl), grd_t (inb_t (by simp only [len, List.length_cons]; omega)), hg, rspace_eq, bnd_some', skp_cons]
    cases wsB s[j] with
    | true =>
      rw [cnd_t (by rfl), if_pos rfl, grd_t (in2_t (by simp only [len, List.length_cons]; omega)), hdl]
      exact hself () (j + 1) (by omega) (by omega) trivial
    | false =>
      rw [cnd_f (by rfl), if_neg (by decide)]
  · obtain rfl : j = s.length := by omega
    rw [List.drop_length]
    rfl
theorem rbegins_eq (N : Nat) (s sub : Ls) : r20_begins N (s, sub) = some (decide (s.take sub.length = sub)) := by
  unfold r20_begins
  dsimp only
  by_cases h : sub.length ≤ s.length
  · have : ltake (toN (len sub)) s = s.take sub.length := by simp [ltake, toN, len]
    rw [cnd_t (ile_t (by simp only [len]; omega)), grd_t (in2_t (by simp only [len]; omega)), this, seq_dec]
  · rw [cnd_f (ile_f (by simp only [len]; omega)), decide_eq_false]
    intro k
    have := congrArg List.length k
    rw [List.length_take] at this
    omega
theorem pre_take (sub s : Ls) : sub.isPrefixOf s = decide (s.take sub.length = sub) := by
  rw [Bool.eq_iff_iff, decide_eq_true_eq, List.isPrefixOf_iff_prefix, List.prefix_iff_eq_take]
  exact ⟨fun h => h.symm, fun h => h.symm⟩
/-- the place of a part behind a place -/
def findP2 (s sub : Ls) (k : Nat) : Int := if Lib.index (s.drop k) sub < 0 then -1 else (k : Int) + Lib.index (s.drop k) sub
theorem rfind_eq {s sub : Ls} (hs : s.length ≤ 3999999) (h0 : sub ≠ []) (h3 : sub.length ≤ 10) {k : Nat} (hk : k ≤ s.length) : r20_find fuelH (s, sub, (k : Int)) = some (findP2 s sub k) := by
  have hp := List.length_pos_iff.2 h0
  unfold r20_find findP2
  dsimp only
  rw [jn_e]
  refine Eq.trans (drop_loop (s := s) (F := fun v2 (v3 : Int) =>
    cnd (ile (w64 (iadd v3 (len sub))) (len s))
      (grd (in3 v3 (w64 (iadd v3 (len sub))) (len s))
        (cnd (seq (ldrop (toN v3) (ltake (toN (w64 (iadd v3 (len sub)))) s)) sub)
          (some v3)
          (v2 (w64 (iadd v3 (1 : Int))))))
      (some (-1 : Int))) (fun (_ : Unit) (j : Nat) => (j : Int)) (fun _ r => some (if Lib.index r sub < 0 then -1 else ((s.length - r.length : Nat) : Int) + Lib.index r sub)) (fun _ _ => True) ?_ fuelH k () (fuelH_len (by omega) _) hk trivial) ?_
  · intro self a j hj _ hself
    have hw : w64 (iadd (j : Int) (len sub)) = ((j + sub.length : Nat) : Int) := by
      simp only [iadd, len]
      rw [w64_id (by omega)]
      omega
    have hrl : s.length - (s.drop j).length = j := by rw [List.length_drop]; omega
    rw [hw, hrl]
    by_cases h1 : j + sub.length ≤ s.length
    · have hjl : j < s.length := by omega
      have hw1 : w64 (iadd (j : Int) 1) = ((j + 1 : Nat) : Int) := w64_succ hjl (by omega)
      have hd : ldrop (toN (j : Int)) (ltake (toN ((j + sub.length : Nat) : Int)) s) = (s.drop j).take sub.length := by
        have : (s.take (j + sub.length)).drop j = (s.drop j).take sub.length := by rw [List.drop_take]; congr 1; omega
        have hT : ∀ n : Nat, toN (n : Int) = n := fun n => by simp [toN]
        unfold ldrop ltake
        rw [hT, hT]
        exact this
      have hpp := pre_take sub (s.drop j)
      rw [cnd_t (ile_t (by simp only [len]; omega)), grd_t (in3_u (by simp only [len]; omega)), hd, seq_dec, hw1]
      rw [List.drop_eq_getElem_cons hjl] at hpp ⊢
      have hix : Lib.index (s[j] :: s.drop (j + 1)) sub = if sub.isPrefixOf (s[j] :: s.drop (j + 1)) then 0 else if Lib.index (s.drop (j + 1)) sub == -1 then -1 else Lib.index (s.drop (j + 1)) sub + 1 := rfl
      rw [hix, hpp]
      by_cases e : (s[j] :: s.drop (j + 1)).take sub.length = sub
      · rw [cnd_t (decide_eq_true e), if_pos (decide_eq_true e)]
        simp
      · rw [cnd_f (decide_eq_false e), if_neg (show ¬ decide ((s[j] :: s.drop (j + 1)).take sub.length = sub) = true by simpa using e)]
        refine Eq.trans (hself () (j + 1) (by omega) (by omega) trivial) ?_
        have hrl2 : s.length - (s.drop (j + 1)).length = j + 1 := by rw [List.length_drop]; omega
        have hge := index_ge (s.drop (j + 1)) sub
        rw [hrl2]
        by_cases h2 : Lib.index (s.drop (j + 1)) sub = -1
        · rw [h2]; rfl
        · have h2' : (Lib.index (s.drop (j + 1)) sub == -1) = false := by simpa using h2
          rw [h2', if_neg (show ¬ (false = true) by decide), if_neg (show ¬ Lib.index (s.drop (j + 1)) sub < 0 by omega), if_neg (show ¬ Lib.index (s.drop (j + 1)) sub + 1 < 0 by omega)]
          congr 1
          omega
    · have : Lib.index (s.drop j) sub = -1 := index_past (i := 0) h0 (fun j hj => by omega) (by rw [List.length_drop]; omega)
      rw [cnd_f (ile_f (by simp only [len]; omega)), this]
      rfl
  · have hrl : s.length - (s.drop k).length = k := by rw [List.length_drop]; omega
    rw [hrl]
theorem find_one (s : Ls) (c : UInt8) (k : Nat) : findP2 s [c] k = if ((s.drop k).takeWhile fun b => b != c).length = (s.drop k).length then -1 else ((k + ((s.drop k).takeWhile fun b => b != c).length : Nat) : Int) := by
  unfold findP2
  rw [Lib.index_one, ixb]
  by_cases h : ((s.drop k).takeWhile fun b => b != c).length = (s.drop k).length
  · rw [if_pos h, if_pos h]; rfl
  · rw [if_neg h, if_neg h, if_neg (by omega)]
    omega
theorem flat_ws (b : UInt8) : flatB b = if wsB b = true then 32 else b := by
  unfold flatB wsB
  by_cases h1 : b = 9
  · subst h1; rfl
  by_cases h2 : b = 10
  · subst h2; rfl
  by_cases h3 : b = 13
  · subst h3; rfl
  by_cases h4 : b = 32
  · subst h4; rfl
  have e1 : (b == 9) = false := by simpa using h1
  have e2 : (b == 10) = false := by simpa using h2
  have e3 : (b == 13) = false := by simpa using h3
  have e4 : (b == 32) = false := by simpa using h4
  rw [e1, e2, e3, e4]
  rfl
theorem rblanks_eq {s : Ls} (hs : s.length ≤ 3999999) : r20_blanks fuelH s = some (s.map flatB) := by
  unfold r20_blanks
  rw [grd_t (catOk_t (by simp only [len]; omega)), jn_e]
  refine Eq.trans (drop_loop (s := s) (F := fun v2 (v3 : Int × List UInt8) =>
    cnd (ilt v3.1 (len s))
      (grd (inb v3.1 (len v3.2))
        (bnd (r20_space fuelH (lget v3.2 (toN v3.1) (0 : UInt8))) fun v4 =>
        cnd v4
          (grd (inb v3.1 (len v3.2))
            (v2 (w64 (iadd v3.1 (1 : Int)), lset v3.2 (toN v3.1) (32 : UInt8))))
          (v2 (w64 (iadd v3.1 (1 : Int)), v3.2))))
      (some v3.2)) (fun (_ : Unit) (j : Nat) => ((j : Int), (s.take j).map flatB ++ s.drop j)) (fun _ r => some (s.map flatB)) (fun _ _ => True) ?_ fuelH 0 () (fuelH_len (by omega) _) (Nat.zero_le _) trivial) rfl
  intro self a j hj _ hself
  dsimp only
  by_cases hjl : j < s.length
  · have hw1 : w64 (iadd (j : Int) 1) = ((j + 1 : Nat) : Int) := w64_succ hjl (by omega)
    have hml : ((s.take j).map flatB).length = j := by rw [List.length_map, List.length_take]; omega
    have hll : ((s.take j).map flatB ++ s.drop j).length = s.length := by rw [List.length_append, hml, List.length_drop]; omega
    have hin : inb (j : Int) (len ((s.take j).map flatB ++ s.drop j)) = true := inb_t (by simp only [len]; omega)
    have hg : lget ((s.take j).map flatB ++ s.drop j) (toN (j : Int)) (0 : UInt8) = s[j] := by
      rw [lget_i (show j < _ by omega), List.getElem_append_right (by omega)]
      simp only [hml, Nat.sub_self, List.getElem_drop, Nat.add_zero]
    have hnext : ∀ b : UInt8, b = flatB s[j] → ((s.take j).map flatB ++ b :: s.drop (j + 1)) = (s.take (j + 1)).map flatB ++ s.drop (j + 1) := fun b hb => by
      rw [List.take_succ_eq_append_getElem hjl, List.map_append, hb]
      simp
    rw [cnd_t (ilt_t (by simp only [len]; omega)), grd_t hin, hg, rspace_eq, bnd_some']
    have hfw := flat_ws s[j]
    cases hb : wsB s[j] with
    | true =>
      rw [hb, if_pos rfl] at hfw
      have hset : lset ((s.take j).map flatB ++ s.drop j) (toN (j : Int)) (32 : UInt8) = (s.take (j + 1)).map flatB ++ s.drop (j + 1) := by
        unfold lset
        rw [show toN (j : Int) = j by simp [toN], List.set_append_right _ _ (by omega), hml, Nat.sub_self, List.drop_eq_getElem_cons hjl]
        exact hnext 32 hfw.symm
      rw [cnd_t (by rfl), grd_t hin, hset, hw1]
      exact hself () (j + 1) (by omega) (by omega) trivial
    | false =>
      rw [hb, if_neg (by decide)] at hfw
      rw [cnd_f (by rfl), hw1, List.drop_eq_getElem_cons hjl, hnext _ hfw.symm]
      exact hself () (j + 1) (by omega) (by omega) trivial
  · obtain rfl : j = s.length := by omega
    rw [cnd_f (ilt_f (by simp only [len]; omega)), List.drop_length, List.take_length, List.append_nil]
theorem rmeans_eq {s : Ls} (hs : s.length ≤ 900000) : r20_means fuelH s = some (meanP s) := by
  have hu := un_len _ (s.map flatB) [] (Nat.le_refl _)
  have hml : (s.map flatB).length = s.length := List.length_map _
  rw [hml, List.length_nil] at hu
  unfold r20_means
  rw [rblanks_eq (by omega), bnd_some', run_un (by omega), bnd_some', jn_e]
  unfold meanP
  by_cases h : (un [] (s.map flatB)).2 = 0
  · rw [cnd_t (ieq_t h), if_neg (by simpa using h), r08_valid _ (by omega), bnd_some']
    cases hv : vld (un [] (s.map flatB)).1 with
    | true =>
      rw [cnd_f (by rfl)]
      dsimp only
      rw [cnd_f (ine_f h), if_neg (by decide)]
    | false => rfl
  · rw [cnd_f (ieq_f h)]
    dsimp only
    rw [cnd_t (ine_t h), if_pos (by simpa using h)]
theorem lastN_next {s : Ls} {j : Nat} (hj : j < s.length) : lastN (s.take (j + 1)) = if s[j] = 10 then (j : Int) else lastN (s.take j) := by
  have hr : (s.take (j + 1)).reverse = s[j] :: (s.take j).reverse := by
    rw [List.take_succ_eq_append_getElem hj, List.reverse_append]
    rfl
  have hl : (s.take (j + 1)).length = j + 1 := by rw [List.length_take]; omega
  have hl2 : (s.take j).length = j := by rw [List.length_take]; omega
  unfold lastN
  rw [hr, hl, List.takeWhile_cons, hl2]
  by_cases e : s[j] = 10
  · rw [if_neg (by simp [e]), if_pos e]
    simp
  · rw [if_pos (by simp [e]), if_neg e, List.length_cons]
    omega
theorem rdiag_eq {s : Ls} (hs : s.length ≤ 3999999) {i : Nat} (hi : i ≤ s.length) (e : Int) : r20_diag fuelH (s, (i : Int), e) = some (atP s i e) := by
  have hli : (s.take i).length = i := by rw [List.length_take]; omega
  unfold r20_diag atP
  dsimp only
  rw [jn_e]
  refine Eq.trans (drop_loop (s := s.take i) (F := fun v2 (v3 : Int × Int × Int × Int) =>
    cnd (ilt v3.1 (i : Int))
      (grd (inb v3.1 (len s))
        (cnd (ieq (n8 (lget s (toN v3.1) (0 : UInt8))) (n8 (10 : UInt8)))
          (v2 (w64 (iadd v3.1 (1 : Int)), w64 (iadd v3.2.1 (1 : Int)), (1 : Int), v3.2.2.2))
          (v2 (w64 (iadd v3.1 (1 : Int)), v3.2.1, w64 (iadd v3.2.2.1 (1 : Int)), v3.2.2.2))))
      (some ([v3.2] : List (Int × Int × Int)))) (fun (_ : Unit) (j : Nat) => ((j : Int), 1 + (((s.take j).count 10 : Nat) : Int), (j : Int) - lastN (s.take j), e)) (fun _ _ => some [(1 + (((s.take i).count 10 : Nat) : Int), (i : Int) - lastN (s.take i), e)]) (fun _ _ => True) ?_ fuelH 0 () (fuelH_len (by omega) _) (Nat.zero_le _) trivial) rfl
  intro self a j hj _ hself
  dsimp only
  by_cases hji : j < i
  · have hjl : j < s.length := by omega
    have hw1 : w64 (iadd (j : Int) 1) = ((j + 1 : Nat) : Int) := w64_succ hjl (by omega)
    have hcl := List.count_le_length (a := (10 : UInt8)) (l := s.take j)
    have htl : (s.take j).length = j := by rw [List.length_take]; omega
    have hln := lastN_le (s.take j)
    have hn := lastN_next hjl
    have hct : (s.take (j + 1)).count 10 = (s.take j).count 10 + if s[j] = 10 then 1 else 0 := by
      rw [List.take_succ_eq_append_getElem hjl, List.count_append, List.count_singleton]
      congr 1
      by_cases e : s[j] = 10
      · rw [if_pos e, if_pos (by simp [e])]
      · rw [if_neg e, if_neg (by simp [e])]
    have hs2 := hself () (j + 1) (by omega) (by omega) trivial
    rw [hct, hn] at hs2
    rw [cnd_t (ilt_t (by omega)), grd_t (inb_t (by simp only [len]; omega)), lget_i hjl, hw1]
    by_cases e10 : s[j] = 10
    · rw [if_pos e10, if_pos e10] at hs2
      rw [cnd_t (ieq_t (by rw [e10]))]
      have ew : w64 (iadd (1 + (((s.take j).count 10 : Nat) : Int)) 1) = 1 + (((s.take j).count 10 + 1 : Nat) : Int) := by
        simp only [iadd]
        rw [w64_id (by omega)]
        omega
      have ej : ((j + 1 : Nat) : Int) - (j : Int) = 1 := by omega
      rw [ej] at hs2
      rw [ew]
      exact hs2
    · rw [if_neg e10, if_neg e10, Nat.add_zero] at hs2
      rw [cnd_f (ieq_f (fun q => e10 (n8_inj q)))]
      have ew : w64 (iadd ((j : Int) - lastN (s.take j)) 1) = ((j + 1 : Nat) : Int) - lastN (s.take j) := by
        simp only [iadd]
        rw [w64_id (by omega)]
        omega
      rw [ew]
      exact hs2
  · have : j = i := by omega
    subst this
    rw [cnd_f (ilt_f (by omega))]
end
end Go.Mo
end

section
/-
  Plain facts: the reader, the other side: attributes, tags, tokens.
-/
set_option linter.all false
namespace Go.Mo
open Go Go.W Go.Lib
set_option maxRecDepth 100000
noncomputable section

theorem mem_tw {c : UInt8} : ∀ s : Ls, (s.takeWhile fun b => b != c).length = s.length ↔ c ∉ s
  | [] => by simp
  | b :: s => by
    have ih := mem_tw (c := c) s
    rw [List.takeWhile_cons]
    by_cases h : b = c
    · rw [if_neg (by simp [h]), h]
      simp
    · rw [if_pos (by simp [h]), List.length_cons, List.length_cons, List.mem_cons]
      constructor
      · intro k
        exact fun m => m.elim (fun e => h e.symm) (ih.1 (by omega))
      · intro k
        have := ih.2 (fun m => k (.inr m))
        omega
theorem find_mem (s : Ls) (c : UInt8) : 0 ≤ findP2 s [c] 0 ↔ c ∈ s := by
  rw [find_one, List.drop_zero]
  by_cases h : (s.takeWhile fun b => b != c).length = s.length
  · rw [if_pos h]
    exact ⟨fun k => by omega, fun k => absurd k ((mem_tw s).1 h)⟩
  · rw [if_neg h]
    exact ⟨fun _ => Classical.byContradiction fun k => h ((mem_tw s).2 k), fun _ => by omega⟩
/-- the value, found in two searches -/
theorem valP_alt {q : UInt8} (hq : q ≠ 60) : ∀ t : Ls, valP q t = if (t.takeWhile fun b => b != q).length = t.length then none else if (60 : UInt8) ∈ t.takeWhile (fun b => b != q) then none else some (t.takeWhile (fun b => b != q), t.drop ((t.takeWhile fun b => b != q).length + 1))
  | [] => rfl
  | b :: t => by
    have ih := valP_alt hq t
    unfold valP at ih ⊢
    rw [List.takeWhile_cons, List.takeWhile_cons]
    by_cases h1 : b = q
    · subst h1
      have e1 : (b != b && b != 60) = false := by simp
      have e2 : (b != b) = false := by simp
      rw [e1, e2]
      simp
    · have e2 : (b != q) = true := by simpa using h1
      by_cases h2 : b = 60
      · subst h2
        have e1 : ((60 : UInt8) != q && (60 : UInt8) != 60) = false := by simp
        rw [e1, e2, if_neg (by decide), if_pos rfl]
        simp [h1]
      · have e1 : (b != q && b != 60) = true := by simp [h1, h2]
        rw [e1, e2, if_pos rfl, if_pos rfl, List.length_cons, List.length_cons, List.drop_succ_cons, List.length_cons]
        by_cases h3 : (t.takeWhile fun b => b != q).length = t.length
        · rw [if_pos h3] at ih
          rw [if_pos (by omega)]
          split at ih
          · rfl
          · rename_i c r e
            by_cases hc : c = q
            · rw [if_pos hc] at ih; cases ih
            · rw [if_neg hc]
        · rw [if_neg h3] at ih
          rw [if_neg (by omega)]
          by_cases h4 : (60 : UInt8) ∈ t.takeWhile fun b => b != q
          · rw [if_pos h4] at ih
            rw [if_pos (List.mem_cons_of_mem _ h4)]
            split at ih
            · rfl
            · rename_i c r e
              by_cases hc : c = q
              · rw [if_pos hc] at ih; cases ih
              · rw [if_neg hc]
          · rw [if_neg h4] at ih
            rw [if_neg (fun m => (List.mem_cons.1 m).elim (fun e => h2 e.symm) h4)]
            split at ih
            · cases ih
            · rename_i c r e
              by_cases hc : c = q
              · rw [if_pos hc] at ih ⊢
                injection ih with ih
                injection ih with i1 i2
                rw [i1, i2, List.drop_succ_cons]
              · rw [if_neg hc] at ih; cases ih
/-- an attribute behind white space -/
def attrR (t : Ls) : Option (Aq × Ls) := if (skp t).length = t.length then none else attrP (skp t)
def attrQ2 (t : Ls) : Option (Aq × Ls) → (Aq × Ls × Bool)
  | some (a, r) => (a, r, true)
  | none => ((([] : List UInt8), ([] : List UInt8)), t, false)
theorem attrR_len {t r : Ls} {a : Aq} (h : attrR t = some (a, r)) : r.length < t.length := by
  unfold attrR at h
  split at h
  · cases h
  · have := attrP_len h
    have := skp_len t
    omega
theorem take1 {b : UInt8} {s : Ls} (h : s.take 1 = [b]) : s = b :: s.drop 1 := by
  match s with
  | [] => cases h
  | c :: s =>
    injection h with h
    rw [h]
    rfl
theorem rattrib_eq {s : Ls} (hs : s.length ≤ 3999998) : r20_attribute fuelH s = some (attrQ2 s (attrR s)) := by
  have hk := skp_len s
  unfold r20_attribute attrR
  rw [rskip_eq (by omega), bnd_some', namep_eq (by omega), bnd_some']
  generalize skp s = t at *
  by_cases h0 : t.length = s.length
  · rw [cnd_t (ieq_t (by simp only [len]; omega)), if_pos h0]
    rfl
  rw [cnd_f (ieq_f (by simp only [len]; omega)), if_neg h0]
  unfold attrP
  by_cases h1 : namP t = []
  · rw [cnd_t (by rw [seq_t]; exact h1), if_pos h1]
    rfl
  have hnl := namP_len t
  have hd : ldrop (toN (len (namP t))) t = t.drop (namP t).length := by simp [ldrop, toN, len]
  have hdl : (t.drop (namP t).length).length = t.length - (namP t).length := List.length_drop
  have hk2 := skp_len (t.drop (namP t).length)
  rw [cnd_f (by rw [seq_dec]; simpa using h1), if_neg h1, grd_t (in2_t (by simp only [len]; omega)), hd, rskip_eq (by omega), bnd_some', rbegins_eq, bnd_some']
  generalize hv2 : skp (t.drop (namP t).length) = v2 at *
  match v2 with
  | [] => rfl
  | b :: r2 =>
    dsimp only
    have ht1 : (b :: r2).take ([61] : Ls).length = [b] := rfl
    rw [ht1]
    by_cases h2 : b ≠ 61
    · rw [cnd_t (by rw [decide_eq_false (by simpa using h2)]; rfl), if_neg h2]
      rfl
    have h2 : b = 61 := Classical.byContradiction h2
    have hd1 : ldrop (toN (1 : Int)) (b :: r2) = r2 := rfl
    rw [List.length_cons] at hk2
    have hk3 := skp_len r2
    rw [cnd_f (by rw [decide_eq_true (by rw [h2])]; rfl), if_pos h2, grd_t (in2_t (by simp only [len, List.length_cons]; omega)), hd1, rskip_eq (by omega), bnd_some', jn_e]
    generalize skp r2 = v4 at *
    match v4 with
    | [] => rfl
    | q :: r4 =>
      rw [List.length_cons] at hk3
      have hg : lget (q :: r4) (toN (0 : Int)) (0 : UInt8) = q := rfl
      have hin : inb 0 (len (q :: r4)) = true := inb_t (by simp only [len, List.length_cons]; omega)
      rw [cnd_f (by rw [seq_dec]; simp), grd_t hin, hg, grd_t hin]
      dsimp only
      -- behind the quote
      have rest : q = 34 ∨ q = 39 → (grd (in2 (1 : Int) (len (q :: r4))) <|
              bnd (r20_find fuelH (q :: r4, ltake (toN (1 : Int)) (q :: r4), (1 : Int))) fun v6 =>
              cnd (ilt v6 (0 : Int))
                (some ((([] : List UInt8), ([] : List UInt8)), s, false))
                (grd (in2 v6 (len (q :: r4)))
                  (bnd (r20_find fuelH (ltake (toN v6) (q :: r4), ([60] : List UInt8), (0 : Int))) fun v7 =>
                  cnd (ile (0 : Int) v7)
                    (some ((([] : List UInt8), ([] : List UInt8)), s, false))
                    (grd (in3 (1 : Int) v6 (len (q :: r4)))
                      (grd (in2 (w64 (iadd v6 (1 : Int))) (len (q :: r4)))
                        (some ((namP t, ldrop (toN (1 : Int)) (ltake (toN v6) (q :: r4))), ldrop (toN (w64 (iadd v6 (1 : Int)))) (q :: r4), true))))))) =
          some (attrQ2 s (match valP q r4 with
            | some (v, r5) => some ((namP t, v), r5)
            | none => none)) := fun hq => by
        have hq60 : q ≠ 60 := by rcases hq with h | h <;> (rw [h]; decide)
        have htw := tw_len (P := fun b => b != q) r4
        have ht2 : ltake (toN (1 : Int)) (q :: r4) = [q] := rfl
        have hf1 : r20_find fuelH (q :: r4, [q], (1 : Int)) = some (findP2 (q :: r4) [q] 1) := rfind_eq (by rw [List.length_cons]; omega) (by simp) (by simp) (k := 1) (by rw [List.length_cons]; omega)
        have hdd : (q :: r4).drop 1 = r4 := rfl
        rw [grd_t (in2_t (by simp only [len, List.length_cons]; omega)), ht2, hf1, bnd_some', find_one, hdd, valP_alt hq60]
        by_cases h3 : (r4.takeWhile fun b => b != q).length = r4.length
        · rw [if_pos h3, if_pos h3]
          rfl
        rw [if_neg h3, if_neg h3, cnd_f (ilt_f (by omega)), grd_t (in2_t (by simp only [len, List.length_cons]; omega))]
        have htk : ltake (toN ((1 + (r4.takeWhile fun b => b != q).length : Nat) : Int)) (q :: r4) = q :: r4.takeWhile fun b => b != q := by
          unfold ltake
          rw [show toN ((1 + (r4.takeWhile fun b => b != q).length : Nat) : Int) = (r4.takeWhile fun b => b != q).length + 1 by simp only [toN, Int.toNat_natCast]; omega, List.take_succ_cons, tw_take]
        have hf2 : ∀ u : Ls, u.length ≤ 3999999 → r20_find fuelH (u, [60], (0 : Int)) = some (findP2 u [60] 0) := fun u hu => rfind_eq hu (by simp) (by simp) (k := 0) (Nat.zero_le _)
        rw [htk, hf2 _ (by rw [List.length_cons]; omega), bnd_some']
        have hm := find_mem (q :: r4.takeWhile fun b => b != q) 60
        by_cases h4 : (60 : UInt8) ∈ r4.takeWhile fun b => b != q
        · rw [cnd_t (ile_t (hm.2 (List.mem_cons_of_mem _ h4))), if_pos h4]
          rfl
        · have : ¬ 0 ≤ findP2 (q :: r4.takeWhile fun b => b != q) [60] 0 := fun k => (List.mem_cons.1 (hm.1 k)).elim (fun e => hq60 e.symm) h4
          have hw : w64 (iadd ((1 + (r4.takeWhile fun b => b != q).length : Nat) : Int) 1) = (((r4.takeWhile fun b => b != q).length + 2 : Nat) : Int) := by
            simp only [iadd]
            rw [w64_id (by omega)]
            omega
          have hd2 : ldrop (toN (((r4.takeWhile fun b => b != q).length + 2 : Nat) : Int)) (q :: r4) = r4.drop ((r4.takeWhile fun b => b != q).length + 1) := by
            unfold ldrop
            rw [show toN (((r4.takeWhile fun b => b != q).length + 2 : Nat) : Int) = ((r4.takeWhile fun b => b != q).length + 1) + 1 by simp only [toN, Int.toNat_natCast], List.drop_succ_cons]
          rw [cnd_f (ile_f this), if_neg h4, grd_t (in3_u (by simp only [len, List.length_cons]; omega)), hw, grd_t (in2_t (by simp only [len, List.length_cons]; omega)), hd2]
          rfl
      by_cases e1 : q = 34
      · rw [cnd_f (ine_f (by rw [e1])), if_pos (.inl e1)]
        exact rest (.inl e1)
      rw [cnd_t (ine_t (fun k => e1 (n8_inj k)))]
      by_cases e2 : q = 39
      · rw [cnd_f (ine_f (by rw [e2])), if_pos (.inr e2)]
        exact rest (.inr e2)
      · rw [cnd_t (ine_t (fun k => e2 (n8_inj k))), if_neg (fun k => k.elim e1 e2)]
        rfl
/-- attributes, as many as there are -/
def tgE : Nat → Ls → List Aq → Ls × List Aq
  | 0, t, l => (t, l)
  | n + 1, t, l => match attrR t with
    | none => (t, l)
    | some (a, r) => tgE n r (l ++ [a])
theorem tgE_len : ∀ (n : Nat) (t : Ls) (l : List Aq), (tgE n t l).1.length ≤ t.length
  | 0, t, l => Nat.le_refl _
  | n + 1, t, l => by
    unfold tgE
    cases h : attrR t with
    | none => exact Nat.le_refl _
    | some p =>
      obtain ⟨a, r⟩ := p
      have := attrR_len h
      have := tgE_len n r (l ++ [a])
      dsimp only
      omega
theorem tg_loop {R : Type} (name : Ls) (K : (List UInt8) × Int × Int × (List UInt8) × List ((List UInt8) × List UInt8) → Option R) : ∀ (fuel n : Nat) (t : Ls) (l : List Aq), t.length < fuel → t.length < n → t.length + l.length ≤ 3999998 →
    fixN (fun v9 (v10 : (List UInt8) × Int × Int × (List UInt8) × List ((List UInt8) × List UInt8)) =>
          cnd (ieq v10.2.1 (3 : Int))
            (bnd (r20_attribute fuelH v10.1) fun v11 =>
            cnd (bnot v11.2.2)
              (K v10)
              (grd (room (iadd (len v10.2.2.2.2) (len ([v11.1] : List ((List UInt8) × List UInt8)))) 32)
                (v9 (v11.2.1, v10.2.1, v10.2.2.1, v10.2.2.2.1, lapp v10.2.2.2.2 ([v11.1] : List ((List UInt8) × List UInt8))))))
            (K v10)) fuel (t, (3 : Int), (0 : Int), name, l) = K ((tgE n t l).1, 3, 0, name, (tgE n t l).2)
  | 0, _, _, _, h, _, _ => by omega
  | _ + 1, 0, _, _, _, h, _ => by omega
  | fuel + 1, n + 1, t, l, h1, h2, h3 => by
    rw [fixN_s]
    dsimp only
    rw [cnd_t (ieq_t rfl), rattrib_eq (by omega), bnd_some']
    unfold tgE
    cases h : attrR t with
    | none => rfl
    | some p =>
      obtain ⟨a, r⟩ := p
      have hr := attrR_len h
      have hq : attrQ2 t (some (a, r)) = (a, r, true) := rfl
      rw [hq]
      dsimp only
      rw [cnd_f (by rfl), grd_t (room_t (by simp only [len, iadd, List.length_cons, List.length_nil]; omega))]
      exact tg_loop name K fuel n r (l ++ [a]) (by omega) (by omega) (by rw [List.length_append, List.length_cons, List.length_nil]; omega)
/-- the end of a start tag -/
def tgF (p : Ls × List Aq) : Option (Int × List Aq × Ls) := match skp p.1 with
  | [] => none
  | b :: r => if b = 62 then some (1, p.2, r) else if b = 47 ∧ r.take 1 = [62] then some (3, p.2, r.drop 1) else none
theorem attrP_b {b : UInt8} {r : Ls} (h : b = 62 ∨ b = 47) : attrP (b :: r) = none := by
  have hn : namP (b :: r) = [] := by
    rw [namP_cons]
    rcases h with h | h <;> (subst h; rfl)
  unfold attrP
  rw [if_pos hn]
theorem tgE_tag : ∀ (n : Nat) (t : Ls) (l : List Aq), t.length < n → tagS t l = tgF (tgE n t l)
  | 0, _, _, h => by omega
  | n + 1, t, l, h => by
    rw [tagS_step]
    have hu : tgE (n + 1) t l = match attrR t with
      | none => (t, l)
      | some (a, r) => tgE n r (l ++ [a]) := rfl
    rw [hu]
    have hk := skp_len t
    cases ha : attrR t with
    | none =>
      unfold tgF
      dsimp only
      unfold attrR at ha
      generalize skp t = u at *
      match u with
      | [] => rfl
      | b :: r =>
        dsimp only
        by_cases h1 : b = 62
        · rw [if_pos h1, if_pos h1]
        rw [if_neg h1, if_neg h1]
        by_cases h2 : b = 47 ∧ r.take 1 = [62]
        · rw [if_pos h2, if_pos h2]
        rw [if_neg h2, if_neg h2]
        by_cases h3 : (b :: r).length = t.length
        · rw [if_pos h3]
        · rw [if_neg h3] at ha ⊢
          rw [ha]
    | some p =>
      obtain ⟨a, r2⟩ := p
      have hl := attrR_len ha
      unfold attrR at ha
      by_cases h3 : (skp t).length = t.length
      · rw [if_pos h3] at ha; cases ha
      rw [if_neg h3] at ha
      generalize skp t = u at *
      dsimp only
      match u with
      | [] => cases ha
      | b :: r =>
        dsimp only
        have h1 : ¬ (b = 62 ∨ b = 47) := fun k => by rw [attrP_b k] at ha; cases ha
        rw [if_neg (fun k => h1 (.inl k)), if_neg (fun k => h1 (.inr k.1)), if_neg h3, ha]
        exact tgE_tag n r2 (l ++ [a]) (by omega)
end
end Go.Mo
end

section
/-
  Plain facts: the reader, the other side: tokens.
-/
set_option linter.all false
namespace Go.Mo
open Go Go.W Go.Lib
set_option maxRecDepth 100000
noncomputable section

def kindR (t : Tok) : Int := if t.1 = 0 then 6 else if t.1 = 1 then 3 else if t.1 = 2 then 5 else if t.1 = 3 then 4 else if t.2.2.2 = [60, 63] then 1 else 2
/-- a token in the other side's words -/
def tokR (s : Ls) : Option (Tok × Ls) → Int × Int × Ls × List Aq
  | none => (0, 0, [], [])
  | some (t, r) => (kindR t, ((s.length - r.length : Nat) : Int), t.2.1, t.2.2.1)
/-- the size of a tag -/
theorem tag_size {n r : Nat} (h : r + 1 ≤ n) (hn : n ≤ 4000000) : w64 (iadd (w64 (isub (n : Int) ((r + 1 : Nat) : Int))) 1) = ((n - r : Nat) : Int) := by
  simp only [iadd, isub]
  rw [w64_id (show -9223372036854775808 ≤ (n : Int) - ((r + 1 : Nat) : Int) ∧ (n : Int) - ((r + 1 : Nat) : Int) ≤ 9223372036854775807 by omega), w64_id (by omega)]
  omega
theorem ltag_eq {s : Ls} {x : Ls} {k : Int} {name : Ls} {l : List Aq} (hs : s.length ≤ 3999990) (hx : x.length ≤ s.length) :
    (bnd (r20_begins fuelH (x, ([62] : List UInt8))) fun v5 =>
            cnd (bnot v5)
              (some ((0 : Int), (0 : Int), ([] : List UInt8), ([] : List ((List UInt8) × List UInt8))))
              (some (k, w64 (iadd (w64 (isub (len s) (len x))) (1 : Int)), name, l))) = some (if x.take 1 = [62] then (k, ((s.length - (x.drop 1).length : Nat) : Int), name, l) else (0, 0, [], [])) := by
  rw [rbegins_eq, bnd_some']
  have h1 : ([62] : Ls).length = 1 := rfl
  rw [h1]
  by_cases h : x.take 1 = [62]
  · have hx1 := take1 h
    have hl := congrArg List.length hx1
    rw [List.length_cons] at hl
    have := tag_size (n := s.length) (r := (x.drop 1).length) (by omega) (by omega)
    rw [decide_eq_true h, cnd_f (by rfl), if_pos h]
    simp only [len]
    rw [hl, this]
  · rw [decide_eq_false h, cnd_t (by rfl), if_neg h]
theorem rtag_eq {u : Ls} (hs : (60 :: u).length ≤ 3999990) : r20_tag fuelH (60 :: u) = some (tokR (60 :: u) (if (60 :: u).take 2 = [60, 47] then endT (60 :: u) else begT (60 :: u))) := by
  rw [List.length_cons] at hs
  have hsl : (60 :: u).length = u.length + 1 := rfl
  have hd : ldrop (toN (1 : Int)) (60 :: u) = u := rfl
  unfold r20_tag
  rw [grd_t (in2_t (by simp only [len, List.length_cons]; omega)), jn_e, hd, rbegins_eq, bnd_some']
  have h1 : ([47] : Ls).length = 1 := rfl
  rw [h1]
  have h2 : (60 :: u).take 2 = [60, 47] ↔ u.take 1 = [47] := by
    show 60 :: u.take 1 = [60, 47] ↔ _
    simp
  by_cases h : u.take 1 = [47]
  · have hu := take1 h
    have hul := congrArg List.length hu
    rw [List.length_cons] at hul
    have hdd : ldrop (toN (1 : Int)) u = u.drop 1 := rfl
    have hds : (60 :: u).drop 2 = u.drop 1 := rfl
    rw [decide_eq_true h, cnd_t (by rfl), grd_t (in2_t (by simp only [len]; omega)), if_pos (h2.2 h), hdd]
    unfold endT
    rw [hds]
    generalize u.drop 1 = t at *
    dsimp only
    rw [namep_eq (by omega), bnd_some']
    have hnl := namP_len t
    by_cases hn : namP t = []
    · rw [cnd_t (by rw [seq_t]; exact hn), if_pos hn]
      rfl
    have hd2 : ldrop (toN (len (namP t))) t = t.drop (namP t).length := by simp [ldrop, toN, len]
    rw [cnd_f (by rw [seq_dec]; simpa using hn), if_neg hn, grd_t (in2_t (by simp only [len]; omega)), jn_e, hd2]
    have hdl : (t.drop (namP t).length).length = t.length - (namP t).length := List.length_drop
    generalize t.drop (namP t).length = w at *
    have hk := skp_len w
    have hF : fuelH = fuelH - 1 + 1 := by have := fuelH_eq; omega
    conv => lhs; arg 2; rw [hF]
    rw [fixN_s]
    dsimp only
    rw [cnd_f (by rfl)]
    rw [rskip_eq (by omega), bnd_some', jn_e, cnd_f (by rfl)]
    dsimp only
    refine Eq.trans (ltag_eq (s := 60 :: u) (by omega) (by omega)) ?_
    generalize skp w = x at *
    match x with
    | [] => rfl
    | b :: r =>
      have hb : (b :: r).take 1 = [b] := rfl
      rw [hb]
      dsimp only
      by_cases e : b = 62
      · rw [if_pos (by rw [e]), if_pos e]
        rfl
      · rw [if_neg (by simpa using e), if_neg e]
        rfl
  · have hds : (60 :: u).drop 1 = u := rfl
    rw [decide_eq_false h, cnd_f (by rfl), if_neg (fun k => h (h2.1 k))]
    unfold begT
    rw [hds]
    dsimp only
    rw [namep_eq (by omega), bnd_some']
    have hnl := namP_len u
    by_cases hn : namP u = []
    · rw [cnd_t (by rw [seq_t]; exact hn), if_pos hn]
      rfl
    have hd2 : ldrop (toN (len (namP u))) u = u.drop (namP u).length := by simp [ldrop, toN, len]
    rw [cnd_f (by rw [seq_dec]; simpa using hn), if_neg hn, grd_t (in2_t (by simp only [len]; omega)), jn_e, hd2]
    have hdl : (u.drop (namP u).length).length = u.length - (namP u).length := List.length_drop
    generalize u.drop (namP u).length = w at *
    have htg := tgE_len (w.length + 1) w []
    refine Eq.trans (tg_loop (namP u) _ fuelH (w.length + 1) w [] (by have := fuelH_eq; omega) (by omega) (by simp; omega)) ?_
    rw [tgE_tag (w.length + 1) w [] (by omega)]
    generalize tgE (w.length + 1) w [] = p at *
    obtain ⟨t, l⟩ := p
    dsimp only at htg ⊢
    have hk := skp_len t
    rw [rskip_eq (by omega), bnd_some', jn_e, cnd_t (by rfl), rbegins_eq, bnd_some', h1]
    unfold tgF
    dsimp only
    generalize skp t = x at *
    match x with
    | [] =>
      rw [decide_eq_false (by decide), cnd_f (by rfl)]
      dsimp only
      exact ltag_eq (s := 60 :: u) (by omega) (by simp)
    | b :: r =>
      have hb : (b :: r).take 1 = [b] := rfl
      have hd3 : ldrop (toN (1 : Int)) (b :: r) = r := rfl
      rw [List.length_cons] at hk
      rw [hb]
      dsimp only
      by_cases e : b = 47
      · rw [decide_eq_true (by rw [e]), cnd_t (by rfl), grd_t (in2_t (by simp only [len, List.length_cons]; omega)), hd3, if_neg (by rw [e]; decide)]
        refine Eq.trans (ltag_eq (s := 60 :: u) (by omega) (by rw [List.length_cons]; omega)) ?_
        by_cases e2 : r.take 1 = [62]
        · rw [if_pos e2, if_pos ⟨e, e2⟩]
          rfl
        · rw [if_neg e2, if_neg (fun k => e2 k.2)]
          rfl
      · rw [decide_eq_false (by simpa using e), cnd_f (by rfl)]
        refine Eq.trans (ltag_eq (s := 60 :: u) (by omega) (by rw [List.length_cons, List.length_cons]; omega)) ?_
        rw [hb]
        by_cases e2 : b = 62
        · rw [if_pos (by rw [e2]), if_pos e2]
          rfl
        · rw [if_neg (by simpa using e2), if_neg e2, if_neg (fun k => e k.1)]
          rfl
theorem rnote_eq {s head tail : Ls} {k : Int} (hs : s.length ≤ 3999990) (hk : head.length ≤ s.length) (h0 : tail ≠ []) (h3 : tail.length ≤ 3) (hkind : kindR ((4, [], [], head) : Tok) = k) :
    (bnd (r20_find fuelH (s, tail, ((head.length : Nat) : Int))) fun v2 =>
      cnd (ile (0 : Int) v2)
        (some (k, w64 (iadd v2 ((tail.length : Nat) : Int)), ([] : List UInt8), ([] : List ((List UInt8) × List UInt8))))
        (some ((0 : Int), (0 : Int), ([] : List UInt8), ([] : List ((List UInt8) × List UInt8))))) = some (tokR s (noteP s head tail)) := by
  rw [rfind_eq (by omega) h0 (by omega) hk, bnd_some']
  unfold findP2 noteP
  have hge := index_ge (s.drop head.length) tail
  by_cases h : Lib.index (s.drop head.length) tail < 0
  · rw [if_pos h, if_pos h]
    rfl
  · have hle : Lib.index (s.drop head.length) tail + tail.length ≤ ((s.drop head.length).length : Int) := by
      have hp := List.length_pos_iff.2 h0
      apply Classical.byContradiction
      intro hc
      have hn : Lib.index (s.drop head.length) tail = -1 ∨ ∃ i : Nat, i ≤ (s.drop head.length).length ∧ Lib.index (s.drop head.length) tail = i ∧ Lib.occAt (s.drop head.length) tail i = true := by
        rcases Classical.em (∃ i : Nat, i ≤ (s.drop head.length).length ∧ Lib.occAt (s.drop head.length) tail i = true) with hx | hx
        · right
          have : ∀ n i : Nat, i ≤ n → i ≤ (s.drop head.length).length → Lib.occAt (s.drop head.length) tail i = true → ∃ j : Nat, j ≤ (s.drop head.length).length ∧ Lib.index (s.drop head.length) tail = j ∧ Lib.occAt (s.drop head.length) tail j = true := fun n => by
            induction n with
            | zero =>
              intro i hi h1 h2
              exact ⟨i, h1, index_hit (fun j hj => by omega) h1 h2, h2⟩
            | succ n ih =>
              intro i hi h1 h2
              rcases Classical.em (∃ j, j < i ∧ Lib.occAt (s.drop head.length) tail j = true) with ⟨j, hj, hj2⟩ | hno
              · exact ih j (by omega) (by omega) hj2
              · refine ⟨i, h1, index_hit (fun j hj => ?_) h1 h2, h2⟩
                cases ho : Lib.occAt (s.drop head.length) tail j with
                | false => rfl
                | true => exact absurd ⟨j, hj, ho⟩ hno
          obtain ⟨i, hi, hi2⟩ := hx
          exact this i i (Nat.le_refl _) hi hi2
        · left
          refine index_none fun j hj => ?_
          cases ho : Lib.occAt (s.drop head.length) tail j with
          | false => rfl
          | true => exact absurd ⟨j, hj, ho⟩ hx
      rcases hn with hn | ⟨i, h1, h2, h4⟩
      · omega
      · rcases occAt_room h4 with h5 | h5
        · omega
        · exact h0 h5
    rw [List.length_drop] at hle
    obtain ⟨m, hm⟩ : ∃ m : Nat, Lib.index (s.drop head.length) tail = (m : Int) := ⟨(Lib.index (s.drop head.length) tail).toNat, by omega⟩
    rw [hm] at hle ⊢
    have hneg : ¬ ((m : Int) < 0) := by omega
    rw [if_neg hneg, if_neg hneg, cnd_t (ile_t (by omega))]
    unfold tokR
    have hw : w64 (iadd ((head.length : Int) + (m : Int)) ((tail.length : Nat) : Int)) = ((s.length - (s.drop (head.length + m + tail.length)).length : Nat) : Int) := by
      simp only [iadd]
      rw [List.length_drop, w64_id (by omega)]
      omega
    rw [hw, ← hkind]
    rfl
theorem rnext_eq {s : Ls} (hs : s.length ≤ 3999990) (h0 : s ≠ []) : r20_next fuelH s = some (tokR s (nextP s)) := by
  match s with
  | [] => exact absurd rfl h0
  | b :: u =>
    have hsl := hs
    rw [List.length_cons] at hsl
    have hg : lget (b :: u) (toN (0 : Int)) (0 : UInt8) = b := rfl
    unfold r20_next
    rw [grd_t (inb_t (by simp only [len, List.length_cons]; omega)), hg, nextP_cons]
    by_cases e : b = 60
    · rw [cnd_f (ine_f (by rw [e])), if_pos e, rbegins_eq, bnd_some']
      have l2 : ([60, 63] : Ls).length = 2 := rfl
      have l4 : ([60, 33, 45, 45] : Ls).length = 4 := rfl
      rw [l2]
      by_cases h1 : (b :: u).take 2 = [60, 63]
      · have hl := congrArg List.length h1
        rw [List.length_take] at hl
        rw [decide_eq_true h1, cnd_t (by rfl), if_pos h1]
        exact rnote_eq (s := b :: u) (head := [60, 63]) (tail := [63, 62]) hs (by simp at hl ⊢; omega) (by simp) (by simp) rfl
      rw [decide_eq_false h1, cnd_f (by rfl), if_neg h1, rbegins_eq, bnd_some', l4]
      by_cases h2 : (b :: u).take 4 = [60, 33, 45, 45]
      · have hl := congrArg List.length h2
        rw [List.length_take] at hl
        rw [decide_eq_true h2, cnd_t (by rfl), if_pos h2]
        exact rnote_eq (s := b :: u) (head := [60, 33, 45, 45]) (tail := [45, 45, 62]) hs (by simp at hl ⊢; omega) (by simp) (by simp) rfl
      rw [decide_eq_false h2, cnd_f (by rfl), if_neg h2]
      subst e
      rw [rtag_eq hs, bnd_some']
    · have hf : r20_find fuelH (b :: u, [60], (0 : Int)) = some (findP2 (b :: u) [60] 0) := rfind_eq (by omega) (by simp) (by simp) (k := 0) (Nat.zero_le _)
      have htw := tw_len (P := not60) (b :: u)
      have hn : (fun c : UInt8 => c != 60) = not60 := rfl
      rw [cnd_t (ine_t (fun k => e (n8_inj k))), if_neg e, hf, bnd_some', find_one, List.drop_zero, hn]
      unfold tokR
      have hsz : (b :: u).length - ((b :: u).drop ((b :: u).takeWhile not60).length).length = ((b :: u).takeWhile not60).length := by rw [List.length_drop]; omega
      have hkd : kindR ((0, [], [], (b :: u).takeWhile not60) : Tok) = 6 := rfl
      dsimp only
      rw [hsz, hkd]
      by_cases h1 : ((b :: u).takeWhile not60).length = (b :: u).length
      · rw [if_pos h1, cnd_t (by rfl), h1]
        rfl
      · rw [if_neg h1, cnd_f (ilt_f (by omega)), Nat.zero_add]
end
end Go.Mo
end

section
/-
  Plain facts: the reader, the other side: the state.
-/
set_option linter.all false
namespace Go.Mo
open Go Go.W Go.Lib
set_option maxRecDepth 100000
noncomputable section

abbrev Rs := List Nd × List Ls × Bool × Bool
/-- the state in the other side's words -/
def rst (p : Ps) : Rs := (p.1, p.2.1, decide (p.2.1 = [] ∧ p.1 ≠ []), p.2.2)
theorem rplace_eq (N : Nat) {p : Ps} (hp : p.1.length ≤ 8192) (el : Bool) : r20_parser_place N (rst p, el) = some (roomP p (!el), rst p) := by
  obtain ⟨nodes, stack, joined⟩ := p
  dsimp only at hp
  unfold r20_parser_place roomP
  have e1 : (rst (nodes, stack, joined)).2.2.1 = decide (stack = [] ∧ nodes ≠ []) := rfl
  have e2 : (rst (nodes, stack, joined)).2.1 = stack := rfl
  have e3 : (rst (nodes, stack, joined)).1 = nodes := rfl
  have e4 : (rst (nodes, stack, joined)).2.2.2 = joined := rfl
  dsimp only
  rw [e1, e2, e3, e4, jn_e]
  generalize rst (nodes, stack, joined) = q
  have tail : (cnd false (some ((8 : Int), q))
      (cnd (ilt (15 : Int) (len stack))
        (some ((9 : Int), q))
        (cnd (ieq (len nodes) (8192 : Int))
          (cnd el
            (some ((9 : Int), q))
            (cnd (bnot joined)
              (some ((9 : Int), q))
              (some ((0 : Int), q))))
          (some ((0 : Int), q))))) = some (if 15 < stack.length then 9 else if 8192 ≤ nodes.length ∧ ¬ ((!el) = true ∧ joined = true) then 9 else 0, q) := by
    rw [cnd_f (by rfl)]
    by_cases h1 : 15 < stack.length
    · rw [cnd_t (ilt_t (by simp only [len]; omega)), if_pos h1]
    rw [cnd_f (ilt_f (by simp only [len]; omega)), if_neg h1]
    by_cases h2 : 8192 ≤ nodes.length
    · rw [cnd_t (ieq_t (by simp only [len]; omega))]
      cases el with
      | true => rw [if_pos ⟨h2, by simp⟩]; rfl
      | false =>
        cases joined with
        | true => rw [if_neg (by simp)]; rfl
        | false => rw [if_pos ⟨h2, by simp⟩]; rfl
    · rw [cnd_f (ieq_f (by simp only [len]; omega)), if_neg (fun k => h2 k.1)]
  by_cases h0 : stack = []
  · by_cases hn : nodes = []
    · rw [decide_eq_false (fun k => k.2 hn), cnd_f (by rfl)]
      cases el with
      | true =>
        rw [cnd_f (by rfl), if_neg (fun k => k.2.elim (fun z => by cases z) (fun z => z hn))]
        exact tail
      | false =>
        rw [cnd_t (by rfl), if_pos ⟨h0, .inl rfl⟩, ieq_t (show len stack = 0 by rw [h0]; rfl)]
        rfl
    · rw [decide_eq_true ⟨h0, hn⟩, cnd_t (by rfl), if_pos ⟨h0, .inr hn⟩]
      rfl
  · have hf : ieq (len stack) 0 = false := ieq_f (by have := List.length_pos_iff.2 h0; simp only [len]; omega)
    rw [decide_eq_false (fun k => h0 k.1), cnd_f (by rfl), if_neg (fun k => h0 k.1), hf]
    cases el with
    | true => rw [cnd_f (by rfl)]; exact tail
    | false => rw [cnd_t (by rfl)]; exact tail
theorem room_open {p : Ps} (h : roomP p true = 0) : p.2.1 ≠ [] := fun k => by
  unfold roomP at h
  rw [if_pos ⟨k, .inl rfl⟩] at h
  cases h
theorem skp_nil (s : Ls) : skp s = [] ↔ blank s = true := by
  induction s with
  | nil => exact ⟨fun _ => rfl, fun _ => rfl⟩
  | cons b s ih =>
    rw [skp_cons]
    unfold blank at ih ⊢
    rw [List.all_cons]
    cases h : wsB b with
    | true => rw [if_pos rfl, ih, Bool.true_and]
    | false => rw [if_neg (by decide)]; simp
theorem rtext2_eq {p : Ps} {s : Ls} (hs : s.length ≤ 300000) (hj : p.2.2 = true → p.1 ≠ []) (hn : p.1.length ≤ 8192) (ht : ∀ n ∈ p.1, n.2.1.length ≤ 4000000) : r20_parser_text fuelH (rst p, s) = some ((textS p s).1, rst (textS p s).2) := by
  have hml := meanP_len s
  have hf : r20_find fuelH (s, [10], (0 : Int)) = some (findP2 s [10] 0) := rfind_eq (by omega) (by simp) (by simp) (k := 0) (Nat.zero_le _)
  have e1 : (rst p).1 = p.1 := rfl
  have e2 : (rst p).2.1 = p.2.1 := rfl
  have e4 : (rst p).2.2.2 = p.2.2 := rfl
  have hpl := rplace_eq fuelH hn false
  unfold r20_parser_text textS
  dsimp only
  rw [jn_e, rskip_eq (by omega), bnd_some', hf, bnd_some', e2]
  have rest : (bnd (r20_means fuelH s) fun v1 =>
    cnd (ine v1.2 (0 : Int))
      (some (v1.2, rst p))
      (bnd (r20_parser_place fuelH (rst p, false)) fun v2 =>
      cnd (ine v2.1 (0 : Int))
        (some v2)
        (cnd v2.2.2.2.2
          (grd (inb (w64 (isub (len v2.2.1) (1 : Int))) (len v2.2.1))
            (grd (catOk (iadd (len (lget v2.2.1 (toN (w64 (isub (len v2.2.1) (1 : Int)))) ([], ([], ([], (0 : Int))))).2.1) (len v1.1)))
              (grd (inb (w64 (isub (len v2.2.1) (1 : Int))) (len v2.2.1))
                (some ((0 : Int), lset v2.2.1 (toN (w64 (isub (len v2.2.1) (1 : Int)))) ((lget v2.2.1 (toN (w64 (isub (len v2.2.1) (1 : Int)))) ([], ([], ([], (0 : Int))))).1, lapp (lget v2.2.1 (toN (w64 (isub (len v2.2.1) (1 : Int)))) ([], ([], ([], (0 : Int))))).2.1 v1.1, (lget v2.2.1 (toN (w64 (isub (len v2.2.1) (1 : Int)))) ([], ([], ([], (0 : Int))))).2.2), v2.2.2)))))
          (grd (room (iadd (len v2.2.1) (len ([(([] : List UInt8), v1.1, ([] : List ((List UInt8) × List UInt8)), len v2.2.2.1)] : List ((List UInt8) × (List UInt8) × (List ((List UInt8) × List UInt8)) × Int)))) 64)
            (some ((0 : Int), lapp v2.2.1 ([(([] : List UInt8), v1.1, ([] : List ((List UInt8) × List UInt8)), len v2.2.2.1)] : List ((List UInt8) × (List UInt8) × (List ((List UInt8) × List UInt8)) × Int)), v2.2.2.1, v2.2.2.2.1, true)))))) =
      some ((if (meanP s).2 ≠ 0 then ((meanP s).2, p) else if roomP p true ≠ 0 then (roomP p true, p)
  else if p.2.2 = true then (0, joinT p.1 (meanP s).1, p.2.1, p.2.2) else (0, p.1 ++ [([], (meanP s).1, [], (p.2.1.length : Int))], p.2.1, true)).1, rst (if (meanP s).2 ≠ 0 then ((meanP s).2, p) else if roomP p true ≠ 0 then (roomP p true, p)
  else if p.2.2 = true then (0, joinT p.1 (meanP s).1, p.2.1, p.2.2) else (0, p.1 ++ [([], (meanP s).1, [], (p.2.1.length : Int))], p.2.1, true)).2) := by
    have hpl2 : r20_parser_place fuelH (rst p, false) = some (roomP p true, rst p) := hpl
    rw [rmeans_eq (by omega), bnd_some', hpl2, bnd_some']
    dsimp only
    rw [e1, e2, e4]
    by_cases h1 : (meanP s).2 = 0
    · rw [cnd_f (ine_f h1), if_neg (fun k => k h1)]
      by_cases h2 : roomP p true = 0
      · have ho := room_open h2
        have hc : ∀ (l : List Nd) (j : Bool), rst (l, p.2.1, j) = (l, p.2.1, false, j) := fun l j => by
          unfold rst
          rw [decide_eq_false (fun k => ho k.1)]
        have hc0 : (rst p).2.2.1 = false := decide_eq_false (fun k => ho k.1)
        rw [cnd_f (ine_f h2), if_neg (fun k => k h2)]
        by_cases h3 : p.2.2 = true
        · have hne := hj h3
          obtain ⟨n, q1, q2, q3, q4⟩ := last_of hne
          have hp : 0 < p.1.length := List.length_pos_iff.2 hne
          have hw : w64 (isub (len p.1) 1) = ((p.1.length - 1 : Nat) : Int) := w64_pred hp (by omega)
          have hg : lget p.1 (toN ((p.1.length - 1 : Nat) : Int)) ([], ([], ([], (0 : Int)))) = n := by rw [lgetn q3, q4]
          have htn := ht n (by rw [q2]; simp)
          rw [cnd_t h3, if_pos h3, hw, hg, grd_t (inb_t (by simp only [len]; omega)), grd_t (catOk_t (by simp only [len, iadd]; omega)), grd_t (inb_t (by simp only [len]; omega))]
          unfold joinT
          rw [q1]
          dsimp only
          have : lset p.1 (toN ((p.1.length - 1 : Nat) : Int)) (n.1, lapp n.2.1 (meanP s).1, n.2.2) = p.1.dropLast ++ [(n.1, n.2.1 ++ (meanP s).1, n.2.2)] := by
            unfold lset
            rw [show toN ((p.1.length - 1 : Nat) : Int) = p.1.length - 1 by simp [toN]]
            exact set_last hne _
          rw [this, hc]
          unfold rst
          rw [decide_eq_false (fun k => ho k.1)]
        · rw [cnd_f (by simpa using h3), if_neg h3, grd_t (room_t (by simp only [len, iadd, List.length_cons, List.length_nil]; omega)), hc0, hc]
          rfl
      · rw [cnd_t (ine_t h2), if_pos h2]
    · rw [cnd_t (ine_t h1), if_pos h1]
  have hnl : nlB s = true ↔ 0 ≤ findP2 s [10] 0 := by
    rw [find_mem]
    unfold nlB
    rw [decide_eq_true_eq]
    exact ⟨fun k => Classical.byContradiction fun z => k ((mem_tw s).2 z), fun k z => (mem_tw s).1 z k⟩
  by_cases hb : blank s = true
  · rw [cnd_t (by rw [seq_t]; exact (skp_nil s).2 hb)]
    by_cases hn2 : nlB s = true
    · rw [cnd_t (ile_t (hnl.1 hn2)), if_pos ⟨hb, .inl hn2⟩]
    · rw [cnd_f (ile_f (fun k => hn2 (hnl.2 k)))]
      by_cases ho : p.2.1 = []
      · rw [cnd_t (ieq_t (by rw [ho]; rfl)), if_pos ⟨hb, .inr ho⟩]
      · rw [cnd_f (ieq_f (by have := List.length_pos_iff.2 ho; simp only [len]; omega)), if_neg (fun k => by rcases k.2 with k | k; exact hn2 k; exact ho k)]
        exact rest
  · rw [cnd_f (by rw [seq_dec]; simpa using fun k => hb ((skp_nil s).1 k)), if_neg (fun k => hb k.1)]
    exact rest
theorem rend_eq {p : Ps} {k z : Int} {name : Ls} {l : List At} (hi : p.2.1 ≠ [] → p.1 ≠ []) (ho : p.2.1.length ≤ 300000) (hnm : nmX name = true) : r20_parser_end fuelH (rst p, k, z, name, l) = some ((endS p name).1, rst (endS p name).2) := by
  have e1 : (rst p).1 = p.1 := rfl
  have e2 : (rst p).2.1 = p.2.1 := rfl
  unfold r20_parser_end endS
  dsimp only
  rw [e1, e2, if_neg (by rw [hnm]; decide)]
  by_cases h2 : p.2.1 = []
  · have hw : ilt (w64 (isub (len p.2.1) 1)) 0 = true := by rw [h2]; rfl
    rw [cnd_t hw, if_neg (by rw [h2]; simp)]
  · obtain ⟨n, q1, q2, q3, q4⟩ := last_of h2
    have hp : 0 < p.2.1.length := List.length_pos_iff.2 h2
    have hw : w64 (isub (len p.2.1) 1) = ((p.2.1.length - 1 : Nat) : Int) := w64_pred hp (by omega)
    have hg : lget p.2.1 (toN ((p.2.1.length - 1 : Nat) : Int)) [] = n := by rw [lget_i q3, q4]
    rw [hw, cnd_f (ilt_f (by omega)), grd_t (inb_t (by simp only [len]; omega)), hg, q1]
    by_cases h3 : n = name
    · rw [cnd_f (by unfold sne; simpa using h3), if_pos (by rw [h3]), grd_t (in2_t (by simp only [ofN, nlen]; omega))]
      have hc : cutl p.2.1 0 (toN ((p.2.1.length - 1 : Nat) : Int)) = p.2.1.dropLast := by
        simp only [cutl, toN, Int.toNat_natCast, List.drop_zero]
        rw [List.dropLast_eq_take]
      have hdl : p.2.1.dropLast.length = p.2.1.length - 1 := List.length_dropLast
      have hcl : ieq ((p.2.1.length - 1 : Nat) : Int) 0 = decide (p.2.1.dropLast = [] ∧ p.1 ≠ []) := by
        by_cases e : p.2.1.dropLast = []
        · rw [decide_eq_true ⟨e, hi h2⟩]
          rw [e, List.length_nil] at hdl
          exact ieq_t (by omega)
        · rw [decide_eq_false (fun z => e z.1)]
          have := List.length_pos_iff.2 e
          exact ieq_f (by omega)
      rw [hc, hcl]
      rfl
    · rw [cnd_t (by unfold sne; simpa using h3), if_neg (fun z => h3 (by injection z))]
end
end Go.Mo
end

section
/-
  Plain facts: the reader, the other side: start tags, tokens taken, the tree; XmlParses returns true.
-/
set_option linter.all false
namespace Go.Mo
open Go Go.W Go.Lib
set_option maxRecDepth 100000
noncomputable section

theorem rnames_loop {R : Type} {l : List At} (hl : l.length ≤ 300000) (hv : ∀ a ∈ l, a.1.length ≤ 4000000) (bad : Option R) (K : Option R) :
    fixN (fun v14 (v15 : Int) =>
    cnd (ilt v15 (len l))
      (grd (inb v15 (len l))
        (bnd (r20_Name fuelH (lget l (toN v15) ([], [])).1) fun v16 =>
        cnd (bnot v16)
          bad
          (v14 (w64 (iadd v15 (1 : Int))))))
      K) fuelH (0 : Int) = if (l.map Prod.fst).all nmX = false then bad else K := by
  refine drop_loop (s := l) (fun (_ : Unit) (j : Nat) => (j : Int)) (fun _ r => if (r.map Prod.fst).all nmX = false then bad else K) (fun _ _ => True) ?_ fuelH 0 () (fuelH_len (by omega) _) (Nat.zero_le _) trivial
  intro self a j hj _ hself
  by_cases hjl : j < l.length
  · have hw : w64 (iadd (j : Int) 1) = ((j + 1 : Nat) : Int) := w64_succ hjl (by omega)
    rw [cnd_t (ilt_t (by simp only [len]; omega)), grd_t (inb_t (by simp only [len]; omega)), lget_i hjl, rname_eq (hv _ (List.getElem_mem hjl)), bnd_some', List.drop_eq_getElem_cons hjl, List.map_cons, List.all_cons, hw]
    cases h : nmX (l[j]).1 with
    | true =>
      rw [cnd_f (by rfl), Bool.true_and]
      exact hself () (j + 1) (by omega) (by omega) trivial
    | false =>
      rw [cnd_t (by rfl), Bool.false_and, if_pos rfl]
  · obtain rfl : j = l.length := by omega
    rw [cnd_f (ilt_f (by simp only [len]; omega)), List.drop_length]
    rfl
theorem rstart_eq {p : Ps} {t : Tok} {z : Int} (hnm : nmX t.2.1 = true) (ht1 : t.1 = 1 ∨ t.1 = 3) (hl : t.2.2.1.length ≤ 300000) (hv : ∀ a ∈ t.2.2.1, a.2.length ≤ 900000) (hv1 : ∀ a ∈ t.2.2.1, a.1.length ≤ 4000000) (hp : p.1.length ≤ 8192) (ho : p.2.1.length ≤ 300000) : r20_parser_start fuelH (rst p, kindR t, z, t.2.1, t.2.2.1) = some ((startS p t).1, rst (startS p t).2) := by
  have e1 : (rst p).1 = p.1 := rfl
  have e2 : (rst p).2.1 = p.2.1 := rfl
  have hkt : kindR t = if t.1 = 1 then 3 else 4 := by
    unfold kindR
    rcases ht1 with h | h <;> (rw [h]; rfl)
  unfold r20_parser_start startS
  dsimp only
  rw [jn_e, e2, hkt]
  refine Eq.trans (rnames_loop hl hv1 _ _) ?_
  have hall : (t.2.1 :: t.2.2.1.map Prod.fst).all nmX = (t.2.2.1.map Prod.fst).all nmX := by rw [List.all_cons, hnm, Bool.true_and]
  rw [hall]
  by_cases h1 : (t.2.2.1.map Prod.fst).all nmX = false
  · rw [if_pos h1, if_pos h1]
  rw [if_neg h1, if_neg h1]
  dsimp only
  by_cases h2 : 16 < t.2.2.1.length
  · rw [cnd_t (ilt_t (by simp only [len]; omega)), if_pos h2]
  rw [cnd_f (ilt_f (by simp only [len]; omega)), if_neg h2, jn_e]
  have hpl : r20_parser_place fuelH (rst p, true) = some (roomP p false, rst p) := rplace_eq fuelH hp true
  generalize hal : t.2.2.1 = l at *
  let fin : Int × List At → Int × Ps := fun m => if m.1 ≠ 0 then (m.1, p) else if roomP p false ≠ 0 then (roomP p false, p)
      else (0, p.1 ++ [(t.2.1, [], m.2, (p.2.1.length : Int))], if t.1 = 1 then p.2.1 ++ [t.2.1] else p.2.1, false)
  have h := drop_loop (s := l) (fun (out : List At) (j : Nat) => ((j : Int), (t.2.1, (([] : List UInt8), (out, len p.2.1)))))
    (fun out r => some ((fin (atM ((l.take (l.length - r.length)).map Prod.fst) out r)).1, rst (fin (atM ((l.take (l.length - r.length)).map Prod.fst) out r)).2)) (fun j out => out.length ≤ j)
    (F := fun v4 (v5 : Int × (List UInt8) × (List UInt8) × (List ((List UInt8) × List UInt8)) × Int) =>
        cnd (ilt v5.1 (len l))
          (jn (fun (v6 : (List UInt8) × (List UInt8) × (List ((List UInt8) × List UInt8)) × Int) =>
            v4 (w64 (iadd v5.1 (1 : Int)), v6))
          fun v7 =>
          grd (inb v5.1 (len l)) <|
          jn (fun (v8 : Unit) =>
            bnd (r20_means fuelH (lget l (toN v5.1) ([], [])).2) fun v9 =>
            cnd (ine v9.2 (0 : Int))
              (some (v9.2, rst p))
              (grd (room (iadd (len v5.2.2.2.1) (len ([((lget l (toN v5.1) ([], [])).1, v9.1)] : List ((List UInt8) × List UInt8)))) 32)
                (v7 (v5.2.1, v5.2.2.1, lapp v5.2.2.2.1 ([((lget l (toN v5.1) ([], [])).1, v9.1)] : List ((List UInt8) × List UInt8)), v5.2.2.2.2))))
          fun v10 =>
          grd (in2 v5.1 (len l)) <|
          fixN (fun v11 (v12 : Int) =>
            cnd (ilt v12 (len (ltake (toN v5.1) l)))
              (grd (inb v12 (len (ltake (toN v5.1) l)))
                (cnd (seq (lget l (toN v5.1) ([], [])).1 (lget (ltake (toN v5.1) l) (toN v12) ([], [])).1)
                  (some ((7 : Int), rst p))
                  (v11 (w64 (iadd v12 (1 : Int))))))
              (v10 ())) fuelH (0 : Int))
          ((fun (v1 : (List UInt8) × (List UInt8) × (List ((List UInt8) × List UInt8)) × Int) =>
        bnd (r20_parser_place fuelH (rst p, true)) fun v2 =>
        cnd (ine v2.1 (0 : Int))
          (some v2)
          (grd (room (iadd (len v2.2.1) (len ([v1] : List ((List UInt8) × (List UInt8) × (List ((List UInt8) × List UInt8)) × Int)))) 64)
            (cnd (ieq (if t.1 = 1 then 3 else 4) (3 : Int))
              (grd (room (iadd (len v2.2.2.1) (len ([t.2.1] : List (List UInt8)))) 16)
                (some ((0 : Int), lapp v2.2.1 ([v1] : List ((List UInt8) × (List UInt8) × (List ((List UInt8) × List UInt8)) × Int)), lapp v2.2.2.1 ([t.2.1] : List (List UInt8)), ieq (len (lapp v2.2.2.1 ([t.2.1] : List (List UInt8)))) (0 : Int), false)))
              (some ((0 : Int), lapp v2.2.1 ([v1] : List ((List UInt8) × (List UInt8) × (List ((List UInt8) × List UInt8)) × Int)), v2.2.2.1, ieq (len v2.2.2.1) (0 : Int), false))))) v5.2)) ?_ fuelH 0 [] (fuelH_len (by omega) _) (Nat.zero_le _) (Nat.zero_le _)
  · refine Eq.trans h ?_
    rw [List.drop_zero, Nat.sub_self]
    rfl
  · intro self out j hj hI hself
    dsimp only
    by_cases hjl : j < l.length
    · have hw : w64 (iadd (j : Int) 1) = ((j + 1 : Nat) : Int) := w64_succ hjl (by omega)
      have hva := hv _ (List.getElem_mem hjl)
      have hin : inb (j : Int) (len l) = true := inb_t (by simp only [len]; omega)
      have htk : ltake (toN (j : Int)) l = l.take j := by simp [ltake, toN]
      rw [cnd_t (ilt_t (by simp only [len]; omega)), jn_e, grd_t hin, jn_e, grd_t (in2_t (by simp only [len]; omega)), htk, lget_i hjl]
      refine Eq.trans (dup_loop2 (by rw [List.length_take]; omega) _ _ _) ?_
      have hrl : l.length - (l.drop j).length = j := by rw [List.length_drop]; omega
      have hrl2 : l.length - (l.drop (j + 1)).length = j + 1 := by rw [List.length_drop]; omega
      rw [hrl, List.drop_eq_getElem_cons hjl]
      have hat : atM ((l.take j).map Prod.fst) out (l[j] :: l.drop (j + 1)) = if (l[j]).1 ∈ (l.take j).map Prod.fst then (7, []) else if (meanP (l[j]).2).2 ≠ 0 then ((meanP (l[j]).2).2, []) else atM ((l.take j).map Prod.fst ++ [(l[j]).1]) (out ++ [((l[j]).1, (meanP (l[j]).2).1)]) (l.drop (j + 1)) := rfl
      rw [hat]
      by_cases h3 : (l[j]).1 ∈ (l.take j).map Prod.fst
      · rw [if_pos h3, if_pos h3]
        rfl
      rw [if_neg h3, if_neg h3, rmeans_eq (by omega), bnd_some']
      by_cases h4 : (meanP (l[j]).2).2 = 0
      · rw [cnd_f (ine_f h4), if_neg (show ¬ (meanP (l[j]).2).2 ≠ 0 from fun k => k h4), grd_t (room_t (by simp only [len, iadd, List.length_cons, List.length_nil]; omega)), hw]
        have hseen : (l.take j).map Prod.fst ++ [(l[j]).1] = (l.take (j + 1)).map Prod.fst := by
          rw [List.take_succ_eq_append_getElem hjl, List.map_append]
          rfl
        rw [hseen]
        refine Eq.trans (hself (out ++ [((l[j]).1, (meanP (l[j]).2).1)]) (j + 1) (by omega) (by omega) (by simp; omega)) ?_
        rw [hrl2]
      · rw [cnd_t (ine_t h4), if_pos h4]
        have hfin : fin ((meanP (l[j]).2).2, []) = ((meanP (l[j]).2).2, p) := if_pos h4
        rw [hfin]
    · obtain rfl : j = l.length := by omega
      rw [cnd_f (ilt_f (by simp only [len]; omega)), List.drop_length, List.length_nil, Nat.sub_zero, hpl, bnd_some']
      have hat : ∀ seen out, atM seen out [] = (0, out) := fun _ _ => rfl
      rw [hat]
      have hfin : fin (0, out) = if roomP p false ≠ 0 then (roomP p false, p)
      else (0, p.1 ++ [(t.2.1, [], out, (p.2.1.length : Int))], if t.1 = 1 then p.2.1 ++ [t.2.1] else p.2.1, false) := if_neg (fun k => k rfl)
      rw [hfin]
      dsimp only
      rw [e1, e2]
      by_cases h5 : roomP p false = 0
      · rw [cnd_f (ine_f h5), if_neg (show ¬ roomP p false ≠ 0 from fun k => k h5), grd_t (room_t (by simp only [len, iadd, List.length_cons, List.length_nil]; omega))]
        by_cases h6 : t.1 = 1
        · rw [if_pos h6, cnd_t (by rfl), if_pos h6, grd_t (room_t (by simp only [len, iadd, List.length_cons, List.length_nil]; omega))]
          unfold rst
          have hc : ieq (len (lapp p.2.1 [t.2.1])) 0 = decide (p.2.1 ++ [t.2.1] = [] ∧ p.1 ++ [(t.2.1, ([], (out, (p.2.1.length : Int))))] ≠ []) := by
            rw [decide_eq_false (by simp)]
            exact ieq_f (by simp only [len, lapp, List.length_append, List.length_cons, List.length_nil]; omega)
          dsimp only
          rw [hc]
          rfl
        · rw [if_neg h6, cnd_f (by rfl), if_neg h6]
          unfold rst
          have hc : ieq (len p.2.1) 0 = decide (p.2.1 = [] ∧ p.1 ++ [(t.2.1, ([], (out, (p.2.1.length : Int))))] ≠ []) := by
            by_cases e : p.2.1 = []
            · rw [decide_eq_true ⟨e, by simp⟩]
              exact ieq_t (by rw [e]; rfl)
            · rw [decide_eq_false (fun k => e k.1)]
              exact ieq_f (by have := List.length_pos_iff.2 e; simp only [len]; omega)
          dsimp only
          rw [hc]
          rfl
      · rw [cnd_t (ine_t h5), if_pos h5]
end
end Go.Mo
end

section
/-
  Plain facts: the reader, the other side: tokens taken, the tree; XmlParses returns true.
-/
set_option linter.all false
namespace Go.Mo
open Go Go.W Go.Lib
set_option maxRecDepth 100000
noncomputable section

theorem attrP_nam {t r : Ls} {a : Aq} (h : attrP t = some (a, r)) : a.1.length ≤ t.length := by
  have hn := namP_len t
  unfold attrP at h
  split at h
  · cases h
  split at h
  · cases h
  split at h
  · split at h
    · cases h
    split at h
    · split at h
      · injection h with h
        injection h with h _
        subst h
        exact hn
      · cases h
    · cases h
  · cases h
theorem tagL_nams : ∀ (n : Nat) (t : Ls) (l : List Aq) {k : Int} {m : List Aq} {r : Ls}, tagL n t l = some (k, m, r) → ∀ a ∈ m, a ∈ l ∨ a.1.length ≤ t.length
  | 0, _, _, _, _, _, h => by cases h
  | n + 1, t, l, k, m, r, h => by
    have hk := skp_len t
    unfold tagL at h
    generalize skp t = u at *
    match u with
    | [] => cases h
    | b :: q =>
      dsimp only at h
      split at h
      · injection h with h
        injection h with h1 h
        injection h with h2 h3
        subst h2
        exact fun a ha => .inl ha
      split at h
      · injection h with h
        injection h with h1 h
        injection h with h2 h3
        subst h2
        exact fun a ha => .inl ha
      split at h
      · cases h
      cases ha : attrP (b :: q) with
      | none => rw [ha] at h; cases h
      | some p =>
        obtain ⟨a, r2⟩ := p
        rw [ha] at h
        have h1 := attrP_len ha
        have hval : a.1.length ≤ (b :: q).length := attrP_nam ha
        intro x hx
        rcases tagL_nams n r2 (l ++ [a]) h x hx with h2 | h2
        · rcases List.mem_append.1 h2 with h3 | h3
          · exact .inl h3
          · simp at h3
            subst h3
            exact .inr (by omega)
        · exact .inr (by omega)
structure TokNm (s : Ls) (t : Tok) (r : Ls) : Prop where
  nm : t.2.1.length ≤ s.length
  an : ∀ a ∈ t.2.2.1, a.1.length ≤ s.length
  tx : t.1 = 0 → t.2.2.2 = s.take (s.length - r.length)
  kd : t.1 = 0 ∨ t.1 = 1 ∨ t.1 = 2 ∨ t.1 = 3 ∨ t.1 = 4
theorem nextP_nm {s r : Ls} {t : Tok} (h : nextP s = some (t, r)) : TokNm s t r := by
  match s with
  | [] => cases h
  | b :: u =>
    rw [nextP_cons] at h
    have note : ∀ head tail : Ls, noteP (b :: u) head tail = some (t, r) → TokNm (b :: u) t r := fun head tail h => by
      unfold noteP at h
      split at h
      · cases h
      · injection h with h
        injection h with h _
        subst h
        exact ⟨Nat.zero_le _, fun a ha => (by cases ha), fun k => (by cases k), .inr (.inr (.inr (.inr rfl)))⟩
    split at h
    · split at h
      · exact note _ _ h
      split at h
      · exact note _ _ h
      split at h
      · unfold endT at h
        split at h
        · cases h
        split at h
        · cases h
        · split at h
          · injection h with h
            injection h with h _
            subst h
            have := namP_len ((b :: u).drop 2)
            rw [List.length_drop] at this
            exact ⟨by show (namP _).length ≤ _; omega, fun a ha => (by cases ha), fun k => (by cases k), .inr (.inr (.inl rfl))⟩
          · cases h
      · unfold begT at h
        split at h
        · cases h
        split at h
        · cases h
        · rename_i k l q hq
          injection h with h
          injection h with h _
          subst h
          have h1 := tagL_len _ _ _ hq
          have h2 := tagL_nams _ _ _ hq
          have hn := namP_len ((b :: u).drop 1)
          rw [List.length_drop] at hn
          refine ⟨by show (namP _).length ≤ _; omega, fun a ha => ?_, fun e => ?_, ?_⟩
          · rcases h2 a ha with h3 | h3
            · cases h3
            · rw [List.length_drop, List.length_drop] at h3
              omega
          · rcases h1.2.2 with h3 | h3 <;> (have e : k = 0 := e; omega)
          · rcases h1.2.2 with h3 | h3
            · exact .inr (.inl h3)
            · exact .inr (.inr (.inr (.inl h3)))
    · injection h with h
      injection h with h h2
      subst h
      subst h2
      have := tw_len (P := not60) (b :: u)
      refine ⟨Nat.zero_le _, fun a ha => (by cases ha), fun _ => ?_, .inl rfl⟩
      have hsz : (b :: u).length - ((b :: u).drop ((b :: u).takeWhile not60).length).length = ((b :: u).takeWhile not60).length := by rw [List.length_drop]; omega
      rw [hsz]
      exact (tw_take not60 (b :: u)).symm
theorem atM_len : ∀ (r : List At) (seen : List Ls) (out : List At), (atM seen out r).2.length ≤ out.length + r.length
  | [], _, _ => Nat.le_refl _
  | a :: r, seen, out => by
    have ih := atM_len r (seen ++ [a.1]) (out ++ [(a.1, (meanP a.2).1)])
    rw [List.length_append, List.length_cons, List.length_nil] at ih
    unfold atM
    rw [List.length_cons]
    split
    · exact Nat.zero_le _
    split
    · exact Nat.zero_le _
    omega
structure NdOk (p : Ps) : Prop where
  nl : p.1.length ≤ 8192
  al : ∀ n ∈ p.1, n.2.2.1.length ≤ 16
  st : p.2.1 ≠ [] → p.1 ≠ []
  jn : p.2.2 = true → p.1 ≠ []
theorem take_nd {p : Ps} {t : Tok} (first : Bool) (hp : NdOk p) : NdOk (takeS p t first).2 := by
  unfold takeS
  split
  · unfold textS
    split
    · exact hp
    split
    · exact hp
    split
    · exact hp
    split
    · rename_i _ _ _ hj
      obtain ⟨n, q1, q2⟩ := joinT_ne (t := (meanP t.2.2.2).1) (hp.jn hj)
      have hdl : p.1.length = p.1.dropLast.length + 1 := by
        have h := congrArg List.length q1
        rw [List.length_append, List.length_cons, List.length_nil] at h
        exact h
      have hnl := hp.nl
      refine ⟨?_, fun m hm => ?_, fun _ => ?_, fun _ => ?_⟩
      · show (joinT _ _).length ≤ _
        rw [q2, List.length_append, List.length_cons, List.length_nil]
        omega
      · have hm : m ∈ joinT p.1 (meanP t.2.2.2).1 := hm
        rw [q2] at hm
        rcases List.mem_append.1 hm with h | h
        · exact hp.al m (by rw [q1]; exact List.mem_append_left _ h)
        · simp at h
          subst h
          exact hp.al n (by rw [q1]; simp)
      · show joinT _ _ ≠ []
        rw [q2]
        simp
      · show joinT _ _ ≠ []
        rw [q2]
        simp
    · rename_i _ _ hroom hj
      have hroom : roomP p true = 0 := Classical.byContradiction hroom
      have hlt : p.1.length < 8192 := by
        apply Classical.byContradiction
        intro k
        unfold roomP at hroom
        split at hroom
        · cases hroom
        split at hroom
        · cases hroom
        rw [if_pos ⟨by omega, fun z => hj z.2⟩] at hroom
        cases hroom
      refine ⟨?_, fun m hm => ?_, fun _ => by simp, fun _ => by simp⟩
      · show (p.1 ++ _).length ≤ _
        rw [List.length_append, List.length_cons, List.length_nil]
        omega
      · rcases List.mem_append.1 hm with h | h
        · exact hp.al m h
        · simp at h
          subst h
          exact Nat.zero_le _
  split
  · unfold endS
    split
    · exact hp
    split
    · refine ⟨hp.nl, hp.al, fun k => hp.st fun z => k ?_, fun k => (by cases k)⟩
      show p.2.1.dropLast = []
      rw [z]
      rfl
    · exact hp
  split
  · split <;> exact hp
  unfold startS
  split
  · exact hp
  split
  · exact hp
  split
  · exact hp
  split
  · exact hp
  rename_i _ h16 _ hroom
  have hroom : roomP p false = 0 := Classical.byContradiction hroom
  have hlt : p.1.length < 8192 := by
    apply Classical.byContradiction
    intro k
    unfold roomP at hroom
    split at hroom
    · cases hroom
    split at hroom
    · cases hroom
    rw [if_pos ⟨by omega, fun z => by cases z.1⟩] at hroom
    cases hroom
  refine ⟨?_, fun m hm => ?_, fun _ => by simp, fun k => (by cases k)⟩
  · show (p.1 ++ _).length ≤ _
    rw [List.length_append, List.length_cons, List.length_nil]
    omega
  · rcases List.mem_append.1 hm with h | h
    · exact hp.al m h
    · simp at h
      subst h
      have := atM_len t.2.2.1 [] []
      rw [List.length_nil] at this
      show (atM [] [] t.2.2.1).2.length ≤ 16
      omega
theorem parE_nd : ∀ (f n : Nat) (p : Ps) (s : Ls), NdOk p → (parE f n p s).1.length ≤ 8192 ∧ ∀ m ∈ (parE f n p s).1, m.2.2.1.length ≤ 16
  | 0, _, _, _, _ => ⟨Nat.zero_le _, fun m hm => (by cases hm)⟩
  | f + 1, n, p, [], h => by
    unfold parE
    split
    · exact ⟨Nat.zero_le _, fun m hm => (by cases hm)⟩
    · exact ⟨h.nl, h.al⟩
  | f + 1, n, p, b :: u, h => by
    unfold parE
    cases hn : nextP (b :: u) with
    | none => exact ⟨Nat.zero_le _, fun m hm => (by cases hm)⟩
    | some q =>
      obtain ⟨t, r⟩ := q
      dsimp only
      split
      · exact ⟨Nat.zero_le _, fun m hm => (by cases hm)⟩
      · exact parE_nd f n _ r (take_nd _ h)
theorem p0_nd : NdOk p0 := ⟨Nat.zero_le _, fun n hn => (by cases hn), fun k => absurd rfl k, fun k => (by cases k)⟩
theorem parP_nd (s : Ls) : (parP s).1.length ≤ 8192 ∧ ∀ m ∈ (parP s).1, m.2.2.1.length ≤ 16 := by
  unfold parP
  split
  · exact ⟨Nat.zero_le _, fun m hm => (by cases hm)⟩
  · have h := parE_nd (s.length + 1) s.length p0 s p0_nd
    have h : (parS s.length p0 s).1.length ≤ 8192 ∧ ∀ m ∈ (parS s.length p0 s).1, m.2.2.1.length ≤ 16 := h
    generalize parS s.length p0 s = q at *
    obtain ⟨l, e⟩ := q
    cases e with
    | none => exact h
    | some z => exact ⟨Nat.zero_le _, fun m hm => (by cases hm)⟩
theorem rtake_none {p : Ps} {s u : Ls} {i : Int} : r20_parser_take fuelH (rst p, s, i, tokR u none) = some (4, rst p) := by
  unfold r20_parser_take tokR
  rfl
theorem rtake_eq {p : Ps} {s r : Ls} {t : Tok} {i : Nat} (hs : s.length ≤ 300000) (hi : i < s.length) (hn : nextP (s.drop i) = some (t, r)) (hnd : NdOk p) (hok : PsOk i p) : r20_parser_take fuelH (rst p, s, (i : Int), tokR (s.drop i) (some (t, r))) = some ((takeS p t (decide (i = 0))).1, rst (takeS p t (decide (i = 0))).2) := by
  have hdl : (s.drop i).length = s.length - i := List.length_drop
  have hk := nextP_ok hn
  have hm := nextP_nm hn
  have hl := nextP_len hn
  have htx := hm.tx
  have hnm := hm.nm
  have han := hm.an
  have htl := hk.1.tx
  have hal := hk.1.al
  have hav := hk.1.av
  have hsl := hok.sl
  have htokR : tokR (s.drop i) (some (t, r)) = (kindR t, (((s.drop i).length - r.length : Nat) : Int), t.2.1, t.2.2.1) := rfl
  rw [htokR]
  unfold r20_parser_take takeS
  dsimp only
  rcases hm.kd with k | k | k | k | k
  · -- text
    have hkd : kindR t = 6 := by unfold kindR; rw [if_pos k]
    have hw : w64 (iadd (i : Int) (((s.drop i).length - r.length : Nat) : Int)) = ((i + ((s.drop i).length - r.length) : Nat) : Int) := by
      simp only [iadd]
      rw [w64_id (by omega)]
      omega
    have hd : ldrop (toN (i : Int)) (ltake (toN ((i + ((s.drop i).length - r.length) : Nat) : Int)) s) = t.2.2.2 := by
      have hT : ∀ n : Nat, toN (n : Int) = n := fun n => by simp [toN]
      unfold ldrop ltake
      rw [hT, hT, htx k, List.drop_take]
      congr 1
      omega
    rw [hkd, hw, cnd_f (by rfl), cnd_f (by rfl), cnd_t (by rfl), grd_t (in3_u (by simp only [len]; omega)), hd, if_pos k, rtext2_eq (by omega) hnd.jn hnd.nl (fun n hn2 => by have := hok.tx n hn2; omega), bnd_some']
  · -- a start tag
    have hkd : kindR t = 3 := by unfold kindR; rw [k]; rfl
    have hts : takeS p t (decide (i = 0)) = startS p t := by
      unfold takeS
      rw [if_neg (by rw [k]; decide), if_neg (by rw [k]; decide), if_neg (by rw [k]; decide)]
    rw [if_neg (show ¬ t.1 = 0 by rw [k]; decide), if_neg (show ¬ t.1 = 2 by rw [k]; decide), if_neg (show ¬ t.1 = 4 by rw [k]; decide)]
    by_cases hN : nmX t.2.1 = true
    · have hst := rstart_eq (p := p) (t := t) (z := (((s.drop i).length - r.length : Nat) : Int)) hN (.inl k) (by omega) (fun a ha => by have := hav a ha; omega) (fun a ha => by have := han a ha; omega) hnd.nl (by omega)
      rw [hkd] at hst ⊢
      rw [cnd_f (by rfl), cnd_f (by rfl), cnd_f (by rfl), jn_e, cnd_t (by rfl)]
      dsimp only
      rw [cnd_t (by rfl), rname_eq (by omega), bnd_some', hN, cnd_f (by rfl), cnd_f (by rfl), hst, bnd_some']
    · have hN : nmX t.2.1 = false := by simpa using hN
      have hst : startS p t = (5, p) := by
        unfold startS
        rw [if_pos (by rw [List.all_cons, hN]; rfl)]
      rw [hkd, cnd_f (by rfl), cnd_f (by rfl), cnd_f (by rfl), jn_e, cnd_t (by rfl)]
      dsimp only
      rw [cnd_t (by rfl), rname_eq (by omega), bnd_some', hN, cnd_t (by rfl), hst]
  · -- an end tag
    have hkd : kindR t = 5 := by unfold kindR; rw [k]; rfl
    rw [if_neg (show ¬ t.1 = 0 by rw [k]; decide), if_pos k]
    by_cases hN : nmX t.2.1 = true
    · have hst := rend_eq (p := p) (k := 5) (z := (((s.drop i).length - r.length : Nat) : Int)) (l := t.2.2.1) hnd.st (by omega) hN
      rw [hkd, cnd_f (by rfl), cnd_f (by rfl), cnd_f (by rfl), jn_e, cnd_f (by rfl), cnd_f (by rfl)]
      dsimp only
      rw [cnd_t (by rfl), rname_eq (by omega), bnd_some', hN, cnd_f (by rfl), cnd_t (by rfl), hst, bnd_some']
    · have hN : nmX t.2.1 = false := by simpa using hN
      have hst : endS p t.2.1 = (5, p) := by
        unfold endS
        rw [if_pos hN]
      rw [hkd, cnd_f (by rfl), cnd_f (by rfl), cnd_f (by rfl), jn_e, cnd_f (by rfl), cnd_f (by rfl)]
      dsimp only
      rw [cnd_t (by rfl), rname_eq (by omega), bnd_some', hN, cnd_t (by rfl), hst]
  · -- an empty tag
    have hkd : kindR t = 4 := by unfold kindR; rw [k]; rfl
    rw [if_neg (show ¬ t.1 = 0 by rw [k]; decide), if_neg (show ¬ t.1 = 2 by rw [k]; decide), if_neg (show ¬ t.1 = 4 by rw [k]; decide)]
    by_cases hN : nmX t.2.1 = true
    · have hst := rstart_eq (p := p) (t := t) (z := (((s.drop i).length - r.length : Nat) : Int)) hN (.inr k) (by omega) (fun a ha => by have := hav a ha; omega) (fun a ha => by have := han a ha; omega) hnd.nl (by omega)
      rw [hkd] at hst ⊢
      rw [cnd_f (by rfl), cnd_f (by rfl), cnd_f (by rfl), jn_e, cnd_f (by rfl), cnd_t (by rfl)]
      dsimp only
      rw [cnd_t (by rfl), rname_eq (by omega), bnd_some', hN, cnd_f (by rfl), cnd_f (by rfl), hst, bnd_some']
    · have hN : nmX t.2.1 = false := by simpa using hN
      have hst : startS p t = (5, p) := by
        unfold startS
        rw [if_pos (by rw [List.all_cons, hN]; rfl)]
      rw [hkd, cnd_f (by rfl), cnd_f (by rfl), cnd_f (by rfl), jn_e, cnd_f (by rfl), cnd_t (by rfl)]
      dsimp only
      rw [cnd_t (by rfl), rname_eq (by omega), bnd_some', hN, cnd_t (by rfl), hst]
  · -- a note
    rw [if_neg (show ¬ t.1 = 0 by rw [k]; decide), if_neg (show ¬ t.1 = 2 by rw [k]; decide), if_pos k]
    by_cases hh : t.2.2.2 = [60, 63]
    · have hkd : kindR t = 1 := by unfold kindR; rw [k, hh]; rfl
      rw [hkd, cnd_f (by rfl), cnd_t (by rfl)]
      by_cases h0 : i = 0
      · rw [cnd_f (ilt_f (by omega)), if_neg (fun z => by rw [decide_eq_true h0] at z; cases z.2)]
      · rw [cnd_t (ilt_t (by omega)), if_pos ⟨hh, decide_eq_false h0⟩]
    · have hkd : kindR t = 2 := by
        unfold kindR
        rw [if_neg (show ¬ t.1 = 0 by rw [k]; decide), if_neg (show ¬ t.1 = 1 by rw [k]; decide), if_neg (show ¬ t.1 = 2 by rw [k]; decide), if_neg (show ¬ t.1 = 3 by rw [k]; decide), if_neg hh]
      rw [hkd, if_neg (fun z => hh z.1)]
      rfl
theorem rparse_eq {s : Ls} (hs : s.length ≤ 300000) : r20_Parse fuelH s = some (parP s) := by
  unfold r20_Parse parP
  have h00 : r20_diag fuelH (s, (0 : Int), (9 : Int)) = some (atP s 0 9) := rdiag_eq (by omega) (Nat.zero_le _) 9
  by_cases h1 : 262144 < s.length
  · rw [cnd_t (ilt_t (by simp only [len]; omega)), if_pos h1, h00]
    rfl
  rw [cnd_f (ilt_f (by simp only [len]; omega)), if_neg h1, jn_e]
  have hend : r20_diag fuelH (s, len s, (4 : Int)) = some (atP s s.length 4) := rdiag_eq (by omega) (Nat.le_refl _) 4
  refine Eq.trans (drop_loop (s := s) (fun (p : Ps) (i : Nat) => ((i : Int), rst p)) (fun p r => some (resP s (parS s.length p r))) (fun i p => PsOk i p ∧ NdOk p) ?_ fuelH 0 p0 (fuelH_len (by omega) _) (Nat.zero_le _) ⟨⟨fun k => (by cases k), Nat.zero_le _, Nat.zero_le _, fun n hn => (by cases hn)⟩, p0_nd⟩) rfl
  intro self p i hi hI hself
  dsimp only
  by_cases hil : i < s.length
  · have hd : ldrop (toN (i : Int)) s = s.drop i := by simp [ldrop, toN]
    have hdl : (s.drop i).length = s.length - i := List.length_drop
    have hne : s.drop i ≠ [] := by
      intro k
      rw [k, List.length_nil] at hdl
      omega
    rw [cnd_t (ilt_t (by simp only [len]; omega)), grd_t (in2_t (by simp only [len]; omega)), hd, rnext_eq (by omega) hne, bnd_some']
    cases hn : nextP (s.drop i) with
    | none =>
      rw [rtake_none, bnd_some', cnd_t (by rfl), rdiag_eq (by omega) (by omega), bnd_some', parS_none hne hn, hdl, show s.length - (s.length - i) = i by omega]
      rfl
    | some q =>
      obtain ⟨t, r⟩ := q
      have hl := nextP_len hn
      have hfirst : decide ((s.drop i).length = s.length) = decide (i = 0) := by
        by_cases e : i = 0
        · rw [decide_eq_true e, decide_eq_true (by omega)]
        · rw [decide_eq_false e, decide_eq_false (by omega)]
      have hsz : (tokR (s.drop i) (some (t, r))).2.1 = (((s.drop i).length - r.length : Nat) : Int) := rfl
      rw [rtake_eq (by omega) hil hn hI.2 hI.1, bnd_some', parS_some hn, hfirst, hsz]
      dsimp only
      by_cases e : (takeS p t (decide (i = 0))).1 = 0
      · rw [cnd_f (ine_f e), if_neg (fun k => k e)]
        have hw : w64 (iadd (i : Int) (((s.drop i).length - r.length : Nat) : Int)) = ((s.length - r.length : Nat) : Int) := by
          simp only [iadd]
          rw [w64_id (by omega)]
          omega
        rw [hw]
        have hok := take_ok (decide (i = 0)) hn hI.1 e
        have hsuf : r = s.drop (s.length - r.length) := suf_drop hi (nextP_suf hn) (by omega)
        refine Eq.trans (hself _ (s.length - r.length) (by omega) (by omega) ⟨?_, take_nd _ hI.2⟩) ?_
        · rw [show s.length - r.length = i + ((s.drop i).length - r.length) by omega]
          exact hok
        · rw [← hsuf]
      · rw [cnd_t (ine_t e), if_pos e, rdiag_eq (by omega) (by omega), bnd_some', hdl, show s.length - (s.length - i) = i by omega]
        rfl
  · obtain rfl : i = s.length := by omega
    rw [cnd_f (ilt_f (by simp only [len]; omega)), List.drop_length, parS_nil]
    have hc : (rst p).2.2.1 = decide (p.2.1 = [] ∧ p.1 ≠ []) := rfl
    rw [hc]
    by_cases e1 : p.2.1 = [] ∧ p.1 ≠ []
    · rw [decide_eq_true e1, cnd_f (by rfl), if_neg (fun k => by rcases k with k | k; exact e1.2 k; exact k e1.1)]
      rfl
    · have e2 : p.1 = [] ∨ p.2.1 ≠ [] := by
        by_cases e : p.1 = []
        · exact .inl e
        · exact .inr fun z => e1 ⟨z, e⟩
      rw [decide_eq_false e1, cnd_t (by rfl), if_pos e2, hend]
      rfl
theorem diags_eq {l : List (Int × Int × Int)} (hl : l.length ≤ 4000000) : slices_Equal_Lapi_Diag_api_Diag fuelH (l, l) = some true := by
  unfold slices_Equal_Lapi_Diag_api_Diag
  rw [cnd_f (ine_f rfl), jn_e]
  refine drop_loop (s := l) (fun (_ : Unit) (j : Nat) => (j : Int)) (fun _ _ => some true) (fun _ _ => True) ?_ fuelH 0 () (fuelH_len hl _) (Nat.zero_le _) trivial
  intro self a j hj _ hself
  dsimp only
  by_cases hjl : j < l.length
  · have hw : w64 (iadd (j : Int) 1) = ((j + 1 : Nat) : Int) := w64_succ hjl (by omega)
    have hin : inb (j : Int) (len l) = true := inb_t (by simp only [len]; omega)
    have hb : ∀ x : Int × Int × Int, bnot (band (ieq x.1 x.1) (band (ieq x.2.1 x.2.1) (ieq x.2.2 x.2.2))) = false := fun x => by
      rw [ieq_t rfl, ieq_t rfl, ieq_t rfl]
      rfl
    rw [cnd_t (ilt_t (by simp only [len]; omega)), grd_t hin, grd_t hin, cnd_f (hb _), hw]
    exact hself () (j + 1) (by omega) (by omega) trivial
  · obtain rfl : j = l.length := by omega
    rw [cnd_f (ilt_f (by simp only [len]; omega))]
theorem parP_one (s : Ls) : (parP s).2.length ≤ 1 := by
  unfold parP
  split
  · exact Nat.le_refl _
  · generalize parS s.length p0 s = q
    obtain ⟨l, e⟩ := q
    cases e with
    | none => exact Nat.zero_le _
    | some z => exact Nat.le_refl _
theorem parses_true (x : Ls) : l20_XmlParses fuelH x = some true := by
  have hnl : (x.take 400).length ≤ 400 := by rw [List.length_take]; omega
  have hnd := parP_nd (x.take 400)
  have hd := parP_one (x.take 400)
  unfold l20_XmlParses
  rw [awake20, bnd_some', cnd_f (by rfl), short20, bnd_some', parse_eq (by omega), bnd_some', rparse_eq (by omega), bnd_some', same_eq (by omega) (fun n hn => by have := hnd.2 n hn; omega), bnd_some', cnd_t (by rfl), diags_eq (by omega)]
  rfl
end
end Go.Mo
end
