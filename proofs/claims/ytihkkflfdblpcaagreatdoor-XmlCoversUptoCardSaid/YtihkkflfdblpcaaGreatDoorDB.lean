/-
  Texts put together, in build order: XB XC XD XE XF XG XH.
-/
import Derived.Test.YtihkkflfdblpcaaGreatDoorDA
import Derived.Test.YtihkkflfdblpcaaGreatDoorZC
import Derived.KernelRfl
import Derived.Lib.ValidLaws
import Derived.Lib.TrimUEq
import Derived.Lib.MapLaws
import Derived.Lib.IndexMore
set_option linter.all false

section
/-
  Plain facts of earlier chapters, put together by a program.
-/
set_option linter.all false
section
/-
  Plain facts on the words of models; what is made of bytes.
-/
namespace Go.Mo
open Go Go.W

theorem grd_t {α : Type} {b : Bool} {k : Option α} (h : b = true) : grd b k = k := by subst h; rfl
theorem cnd_t {α : Type} {b : Bool} {x y : Option α} (h : b = true) : cnd b x y = x := by subst h; rfl
theorem cnd_f {α : Type} {b : Bool} {x y : Option α} (h : b = false) : cnd b x y = y := by subst h; rfl
theorem bnd_s {α β : Type} {x : Option α} {a : α} {k : α → Option β} (h : x = some a) : bnd x k = k a := by subst h; rfl
theorem jn_e {F α : Type} {k : F} {t : F → Option α} : jn k t = t k := rfl
theorem fixN_s {V R : Type} {F : (V → Option R) → V → Option R} {n : Nat} {v : V} : fixN F (n + 1) v = F (fixN F n) v := rfl
theorem w64_id {x : Int} (h : -9223372036854775808 ≤ x ∧ x ≤ 9223372036854775807) : w64 x = x := by
  show IntKind.wrap .i64 x = x
  unfold IntKind.wrap
  simp only [IntKind.bits, IntKind.signed, Bool.true_and, decide_eq_true_eq, show (2 : Int) ^ 64 = 18446744073709551616 from rfl, show (2 : Int) ^ (64 - 1) = 9223372036854775808 from rfl]
  split <;> omega
theorem ilt_t {a b : Int} (h : a < b) : ilt a b = true := decide_eq_true h
theorem ilt_f {a b : Int} (h : ¬ a < b) : ilt a b = false := decide_eq_false h
theorem ile_t {a b : Int} (h : a ≤ b) : ile a b = true := decide_eq_true h
theorem ile_f {a b : Int} (h : ¬ a ≤ b) : ile a b = false := decide_eq_false h
theorem ieq_t {a b : Int} (h : a = b) : ieq a b = true := by subst h; simp [ieq]
theorem ieq_f {a b : Int} (h : a ≠ b) : ieq a b = false := by simp [ieq, h]
theorem ine_t {a b : Int} (h : a ≠ b) : ine a b = true := by simp [ine, h]
theorem ine_f {a b : Int} (h : a = b) : ine a b = false := by simp [ine, h]
theorem inb_t {i n : Int} (h : 0 ≤ i ∧ i < n) : inb i n = true := decide_eq_true h
theorem in2_t {i n : Int} (h : 0 ≤ i ∧ i ≤ n) : in2 i n = true := decide_eq_true h
theorem room_t {n : Int} {b : Nat} (h : n * b ≤ 140737488355328) : room n b = true := decide_eq_true h
end Go.Mo
end

section
/-
  Plain facts: rates, labels, the repertoire of characters.
-/
namespace Go.Mo
open Go Go.W
set_option maxRecDepth 100000

theorem all_u8 {P : UInt8 → Bool} (h : ((List.range 256).all fun n => P (UInt8.ofNat n)) = true) (x : UInt8) : P x = true := by
  have h1 : x.toNat < 256 := x.toNat_lt
  have := List.all_eq_true.1 h x.toNat (List.mem_range.2 h1)
  simpa using this
end Go.Mo
end

section
/-
  Plain facts: the repertoire of characters.
-/
namespace Go.Mo
open Go Go.W
set_option maxRecDepth 100000
/-- some number: the kernel does not know which -/
noncomputable def fuelM : Nat := Classical.choose (⟨7995000, rfl⟩ : ∃ n : Nat, n = 7995000)
noncomputable def fuelH : Nat := fuelM + 5000
theorem fuelH_eq : fuelH = 8000000 := by
  have h : fuelM = 7995000 := Classical.choose_spec (⟨7995000, rfl⟩ : ∃ n : Nat, n = 7995000)
  unfold fuelH
  rw [h]
/-- the characters behind ASCII -/
def hiRunes : List Int := [161, 162, 163, 164, 165, 166, 167, 169, 171, 174, 176, 183, 187, 189, 191, 192, 193, 194, 195, 196, 197, 198, 199, 200, 201, 202, 203, 204, 205, 206, 207, 209, 210, 211, 212, 213, 214, 216, 217, 218, 219, 220, 223, 224, 225, 226, 227, 228, 229, 230, 231, 232, 233, 234, 235, 236, 237, 238, 239, 241, 242, 243, 244, 245, 246, 248, 249, 250, 251, 252, 338, 339, 8212, 8216, 8217, 8220, 8221, 8226, 8230, 8482, 9834]
def loRunes : List Int := (List.range 95).map fun n => ((n + 32 : Nat) : Int)
def chain : List Int → Int → Int → Option Int
  | [], _, _ => some (-1)
  | c :: l, i, r => cnd (ieq c r) (some i) (chain l (iadd i 1) r)
def rep : List UInt8 := [32, 33, 34, 35, 36, 37, 38, 39, 40, 41, 42, 43, 44, 45, 46, 47, 48, 49, 50, 51, 52, 53, 54, 55, 56, 57, 58, 59, 60, 61, 62, 63, 64, 65, 66, 67, 68, 69, 70, 71, 72, 73, 74, 75, 76, 77, 78, 79, 80, 81, 82, 83, 84, 85, 86, 87, 88, 89, 90, 91, 92, 93, 94, 95, 96, 97, 98, 99, 100, 101, 102, 103, 104, 105, 106, 107, 108, 109, 110, 111, 112, 113, 114, 115, 116, 117, 118, 119, 120, 121, 122, 123, 124, 125, 126, 194, 161, 194, 162, 194, 163, 194, 164, 194, 165, 194, 166, 194, 167, 194, 169, 194, 171, 194, 174, 194, 176, 194, 183, 194, 187, 194, 189, 194, 191, 195, 128, 195, 129, 195, 130, 195, 131, 195, 132, 195, 133, 195, 134, 195, 135, 195, 136, 195, 137, 195, 138, 195, 139, 195, 140, 195, 141, 195, 142, 195, 143, 195, 145, 195, 146, 195, 147, 195, 148, 195, 149, 195, 150, 195, 152, 195, 153, 195, 154, 195, 155, 195, 156, 195, 159, 195, 160, 195, 161, 195, 162, 195, 163, 195, 164, 195, 165, 195, 166, 195, 167, 195, 168, 195, 169, 195, 170, 195, 171, 195, 172, 195, 173, 195, 174, 195, 175, 195, 177, 195, 178, 195, 179, 195, 180, 195, 181, 195, 182, 195, 184, 195, 185, 195, 186, 195, 187, 195, 188, 197, 146, 197, 147, 226, 128, 148, 226, 128, 152, 226, 128, 153, 226, 128, 156, 226, 128, 157, 226, 128, 162, 226, 128, 166, 226, 132, 162, 226, 153, 170]
theorem place_eqN (N : Nat) (r : Int) : charset_place (N + 300) (rep, r) = chain (loRunes ++ hiRunes) 0 r := by kernel_rfl
theorem place_eq (r : Int) : charset_place fuelH (rep, r) = chain (loRunes ++ hiRunes) 0 r := place_eqN (fuelM + 4700) r
theorem ch_indexN (N : Nat) (r : Int) : charset_Index N r = cnd (ile 32 r) (cnd (ile r 126) (some (w64 (wr .i32 (isub r 32)))) (bnd (charset_place N (rep, r)) fun v => some v)) (bnd (charset_place N (rep, r)) fun v => some v) := by kernel_rfl
theorem ch_index (r : Int) : charset_Index fuelH r = cnd (ile 32 r) (cnd (ile r 126) (some (w64 (wr .i32 (isub r 32)))) (bnd (charset_place fuelH (rep, r)) fun v => some v)) (bnd (charset_place fuelH (rep, r)) fun v => some v) := ch_indexN fuelH r
theorem chain_ok : ∀ (l : List Int) (i r : Int), 0 ≤ i → ∃ k, chain l i r = some k ∧ (k < 0 ↔ l.contains r = false)
  | [], i, r, _ => ⟨-1, rfl, by simp⟩
  | c :: l, i, r, h => by
    by_cases hc : c = r
    · exact ⟨i, by simp only [chain]; rw [cnd_t (ieq_t hc)], by subst hc; simp; omega⟩
    · obtain ⟨k, h1, h2⟩ := chain_ok l (iadd i 1) r (by show 0 ≤ i + 1; omega)
      refine ⟨k, by simp only [chain]; rw [cnd_f (ieq_f hc)]; exact h1, ?_⟩
      rw [h2]
      simp only [List.contains_cons, Bool.or_eq_false_iff]
      exact ⟨fun h => ⟨by simpa using fun e => hc e.symm, h⟩, fun h => h.2⟩
def inRep (r : Int) : Bool := (decide (32 ≤ r) && decide (r ≤ 126)) || hiRunes.contains r
theorem wi32_id {x : Int} (h : 0 ≤ x ∧ x < 1000) : wr .i32 x = x := by
  show IntKind.wrap .i32 x = x
  unfold IntKind.wrap
  simp only [IntKind.bits, IntKind.signed, Bool.true_and, decide_eq_true_eq, show (2 : Int) ^ 32 = 4294967296 from rfl, show (2 : Int) ^ (32 - 1) = 2147483648 from rfl]
  split <;> omega
theorem lo_mem (r : Int) : loRunes.contains r = (decide (32 ≤ r) && decide (r ≤ 126)) := by
  rw [Bool.eq_iff_iff]
  simp only [loRunes, List.contains_iff_mem, List.mem_map, List.mem_range, Bool.and_eq_true, decide_eq_true_eq]
  constructor
  · rintro ⟨n, hn, rfl⟩; omega
  · intro h; exact ⟨(r - 32).toNat, by omega, by omega⟩
theorem index_stl (r : Int) : ∃ i, charset_Index fuelH r = some i ∧ (i < 0 ↔ inRep r = false) := by
  rw [ch_index, place_eq]
  obtain ⟨k, h1, h2⟩ := chain_ok (loRunes ++ hiRunes) 0 r (Int.le_refl _)
  have hin : (loRunes ++ hiRunes).contains r = inRep r := by
    unfold inRep
    rw [← lo_mem]
    simp [List.contains_eq_mem, List.mem_append]
  rw [hin] at h2
  by_cases ha : 32 ≤ r
  · rw [cnd_t (ile_t ha)]
    by_cases hb : r ≤ 126
    · rw [cnd_t (ile_t hb)]
      refine ⟨_, rfl, ?_⟩
      have : w64 (wr .i32 (isub r 32)) = r - 32 := by
        simp only [isub]
        rw [wi32_id (by omega), w64_id (by omega)]
      rw [this]
      simp [inRep, ha, hb]
    · rw [cnd_f (ile_f hb)]
      exact ⟨k, by rw [bnd_s h1], h2⟩
  · rw [cnd_f (ile_f ha)]
    exact ⟨k, by rw [bnd_s h1], h2⟩
end Go.Mo
end

section
/-
  Plain facts: texts of the repertoire.
-/
namespace Go.Mo
open Go Go.W Go.Lib
set_option maxRecDepth 100000

theorem dec_pos (l : List UInt8) : 1 ≤ (decodeL l).2 := by
  unfold decodeL Utf8.decode
  simp only
  repeat' split
  all_goals first | exact Nat.le_refl _ | (show 1 ≤ _; omega)
theorem decR_eq (s : List UInt8) (p : Nat) : decR s p = ((decodeL (s.drop p)).1 : Int) := by
  have := decodeL_drop (bst s) p
  have e : (bst s).data.toList = s := rfl
  rw [e] at this
  unfold decR
  rw [this]
theorem decW_eq (s : List UInt8) (p : Nat) : decW s p = (decodeL (s.drop p)).2 := by
  have := decodeL_drop (bst s) p
  have e : (bst s).data.toList = s := rfl
  rw [e] at this
  unfold decW
  rw [this]

def rok : Nat → List UInt8 → Bool
  | 0, _ => true
  | n + 1, l => if l = [] then true else if inRep ((decodeL l).1 : Int) = true then rok n (l.drop (decodeL l).2) else false
/-- characters of the repertoire alone -/
def vld (l : List UInt8) : Bool := rok l.length l
theorem rok_nil : ∀ n, rok n [] = true
  | 0 => rfl
  | n + 1 => by simp [rok]
theorem rok_fuel : ∀ (n m : Nat) (l : List UInt8), l.length ≤ n → l.length ≤ m → rok n l = rok m l
  | 0, m, l, h, _ => by
    have : l = [] := List.eq_nil_of_length_eq_zero (by omega)
    subst this
    rw [rok_nil, rok_nil]
  | n + 1, 0, l, _, h => by
    have : l = [] := List.eq_nil_of_length_eq_zero (by omega)
    subst this
    rw [rok_nil, rok_nil]
  | n + 1, m + 1, l, h1, h2 => by
    by_cases hl : l = []
    · subst hl; rw [rok_nil, rok_nil]
    · have hp := dec_pos l
      have hlen : 0 < l.length := List.length_pos_iff.2 hl
      simp only [rok, hl, if_false]
      split
      · exact rok_fuel n m _ (by simp; omega) (by simp; omega)
      · rfl
theorem vld_step (l : List UInt8) (hl : l ≠ []) : vld l = if inRep ((decodeL l).1 : Int) = true then vld (l.drop (decodeL l).2) else false := by
  have hp := dec_pos l
  have hlen : 0 < l.length := List.length_pos_iff.2 hl
  unfold vld
  obtain ⟨n, hn⟩ : ∃ n, l.length = n + 1 := ⟨l.length - 1, by omega⟩
  rw [hn]
  simp only [rok, hl, if_false]
  split
  · exact rok_fuel _ _ _ (by simp; omega) (Nat.le_refl _)
  · rfl
theorem vld_valid : ∀ (n : Nat) (l : List UInt8), l.length ≤ n → vld l = true → validD l = true
  | n, l, h, hv => by
    by_cases hl : l = []
    · subst hl; rfl
    · have hlen : 0 < l.length := List.length_pos_iff.2 hl
      have hp := dec_pos l
      rw [vld_step l hl] at hv
      split at hv
      · rename_i hr
        rw [validD_step l hl, if_neg ?_]
        · cases n with
          | zero => omega
          | succ n => exact vld_valid n _ (by simp; omega) hv
        · rintro ⟨e, _⟩
          rw [e] at hr
          exact absurd hr (by decide)
      · cases hv

theorem valid_loop {s : List UInt8} (hs : s.length ≤ 100000000) (Ix : Int → Option Int) (hI : ∀ r : Int, ∃ i, Ix r = some i ∧ (i < 0 ↔ inRep r = false)) : ∀ (fuel p : Nat), s.length - p < fuel → p ≤ s.length →
    fixN (fun v2 (v3 : (List UInt8) × Int) =>
    cnd (nlt (toN v3.2) (nlen v3.1))
      (bnd (Ix (decR v3.1 (toN v3.2))) fun v4 =>
      cnd (ilt v4 (0 : Int))
        (some false)
        (v2 (v3.1, ofN (nadd (toN v3.2) (decW v3.1 (toN v3.2))))))
      (some true)) fuel (s, ofN p) = some (vld (s.drop p))
  | 0, p, h, _ => by omega
  | fuel + 1, p, h, hp => by
    rw [fixN_s]
    have et : toN (ofN p) = p := by simp [toN, ofN]
    simp only [et]
    by_cases hl : p < s.length
    · have hne : s.drop p ≠ [] := by intro e; have := congrArg List.length e; simp at this; omega
      have hw := dec_pos (s.drop p)
      have hle := decodeL_le (s.drop p) hne
      rw [List.length_drop] at hle
      rw [cnd_t (show nlt p (nlen s) = true from decide_eq_true hl)]
      obtain ⟨i, h1, h2⟩ := hI (decR s p)
      rw [bnd_s h1]
      rw [vld_step _ hne, ← decR_eq]
      by_cases hi : i < 0
      · rw [cnd_t (ilt_t hi), if_neg (by rw [h2.1 hi]; decide)]
      · rw [cnd_f (ilt_f hi)]
        have hin : inRep (decR s p) = true := by
          cases hq : inRep (decR s p) with
          | true => rfl
          | false => exact absurd (h2.2 hq) hi
        rw [if_pos hin, decW_eq, List.drop_drop]
        show fixN _ fuel (s, ofN (p + (decodeL (s.drop p)).2)) = _
        exact valid_loop hs Ix hI fuel _ (by omega) (by omega)
    · rw [cnd_f (show nlt p (nlen s) = false from decide_eq_false hl)]
      have : s.drop p = [] := by simp; omega
      rw [this]
      rfl
theorem ch_valid (s : List UInt8) (hs : s.length ≤ 4000000) : charset_Valid fuelH s = some (vld s) := by
  unfold charset_Valid
  have hv : utf8_ValidString fuelH s = some (validD s) := by
    show grd (catOk (len s)) (some (validD s)) = _
    exact grd_t (decide_eq_true (by simp only [len]; omega))
  rw [bnd_s hv]
  simp only [jn_e]
  cases hd : validD s with
  | false =>
    rw [cnd_t (show bnot false = true from rfl)]
    cases hq : vld s with
    | false => rfl
    | true => rw [vld_valid _ s (Nat.le_refl _) hq] at hd; cases hd
  | true =>
    rw [cnd_f (show bnot true = false from rfl)]
    have := valid_loop (s := s) (by omega) (charset_Index fuelH) (fun r => by obtain ⟨i, h2, h3⟩ := index_stl r; exact ⟨i, h2, h3⟩) fuelH 0 (by have := fuelH_eq; omega) (Nat.zero_le _)
    simpa using this
end Go.Mo
end

section
/-
  Plain facts: names; the check of a header.
-/
namespace Go.Mo
open Go Go.W Go.Lib
set_option maxRecDepth 100000

theorem cnd_dec {α : Type} {p : Prop} [Decidable p] {x y : Option α} : cnd (decide p) x y = if p then x else y := by
  by_cases h : p
  · rw [cnd_t (decide_eq_true h), if_pos h]
  · rw [cnd_f (decide_eq_false h), if_neg h]
theorem cnd_ilt {α : Type} {a b : Int} {x y : Option α} : cnd (ilt a b) x y = if a < b then x else y := cnd_dec
/-- may stand in a name -/
def okc (c : Int) : Bool := decide ((65 ≤ c ∧ c ≤ 90) ∨ (48 ≤ c ∧ c ≤ 57) ∨ c = 95 ∨ c = 45)
def upc (c : Int) : Bool := decide (65 ≤ c ∧ c ≤ 90)
/-- a name -/
def nm (s : List UInt8) : Bool := decide (1 ≤ s.length ∧ s.length ≤ 16) && upc (n8 (s.getD 0 0)) && s.all fun c => okc (n8 c)
end Go.Mo
end

section
/-
  Plain facts: the check of a header.
-/
namespace Go.Mo
open Go Go.W Go.Lib
set_option maxRecDepth 100000
abbrev Lbl := Int × Int × Int × Int × Bool
abbrev Hdr := UInt8 × (List UInt8) × (List UInt8) × Int × Int × Lbl × Lbl × Int × Int
theorem bnd_some' {α β : Type} {a : α} {k : α → Option β} : bnd (some a) k = k a := rfl
end Go.Mo
end

section
/-
  Plain facts: the characters of a text, and the text of characters.
-/
namespace Go.Mo
open Go Go.W Go.Lib
set_option maxRecDepth 100000

theorem w64_succ {i n : Nat} (h : i < n) (hn : n ≤ 9223372036854775807) : w64 (iadd (i : Int) 1) = ((i + 1 : Nat) : Int) := by
  simp only [iadd]; rw [w64_id (by omega)]; omega
theorem lget_i {α : Type} {l : List α} {i : Nat} {d : α} (h : i < l.length) : lget l (toN (i : Int)) d = l[i] := by simp [lget, toN, h]
end Go.Mo
end

section
/-
  Plain facts: the characters of the tape form.
-/
namespace Go.Mo
open Go Go.W Go.Lib
set_option maxRecDepth 100000

end Go.Mo
end

section
/-
  Plain facts: texts in the characters of the tape form.
-/
namespace Go.Mo
open Go Go.W Go.Lib
set_option maxRecDepth 100000

end Go.Mo
end

section
/-
  Small plain facts: bytes, lengths, equality of texts.
-/
namespace Go.Mo
open Go Go.W Go.Lib
set_option maxRecDepth 100000
noncomputable section
theorem seq_dec (x y : List UInt8) : seq x y = decide (x = y) := by
  unfold seq
  by_cases h : x = y
  · subst h; simp
  · rw [decide_eq_false h]
    simpa using h
end
end Go.Mo
end

section
/-
  Plain facts: characters of the tape form read back.
-/
namespace Go.Mo
open Go Go.W Go.Lib
set_option maxRecDepth 100000
noncomputable section

/-- the small letter -/
def low (r : Int) : Int := if (65 ≤ r ∧ r ≤ 90) ∨ (192 ≤ r ∧ r < 223) then r + 32 else if r = 338 then 339 else r
end
end Go.Mo
end

section
/-
  Plain facts: rates, names, on both sides.
-/
namespace Go.Mo
open Go Go.W Go.Lib
set_option maxRecDepth 100000
noncomputable section
end
end Go.Mo
end

section
/-
  Plain facts: rows of text, their check, their normal form.
-/
namespace Go.Mo
open Go Go.W Go.Lib
set_option maxRecDepth 100000
theorem seq_t {a b : List UInt8} : (seq a b = true) = (a = b) := by rw [seq_dec]; simp
theorem ieq_tt {a b : Int} : (ieq a b = true) = (a = b) := by simp [ieq]
theorem w64_pred {i : Nat} (h : 0 < i) (hn : i ≤ 9223372036854775807) : w64 (isub (i : Int) 1) = ((i - 1 : Nat) : Int) := by
  simp only [isub]; rw [w64_id (by omega)]; omega
theorem w64_back {i : Nat} (hn : i < 9223372036854775807) : w64 (isub ((i + 1 : Nat) : Int) 1) = (i : Int) := by
  rw [w64_pred (Nat.succ_pos i) (by omega)]; rfl
end Go.Mo
end

section
/-
  Plain facts: loops with an invariant; the normal form of a row.
-/
namespace Go.Mo
open Go Go.W Go.Lib
set_option maxRecDepth 100000

end Go.Mo
end

section
/-
  Plain facts: the bytes of rows.
-/
namespace Go.Mo
open Go Go.W Go.Lib
set_option maxRecDepth 100000
noncomputable section

end
end Go.Mo
end

section
/-
  Plain facts: rows that are read from bytes, on both sides.
-/
namespace Go.Mo
open Go Go.W Go.Lib
set_option maxRecDepth 100000
noncomputable section

end
end Go.Mo
end

section
/-
  Plain facts: rows that are read by the reference; equality of rows; StlTexts returns true.
-/
namespace Go.Mo
open Go Go.W Go.Lib
set_option maxRecDepth 100000
noncomputable section

end
end Go.Mo
end

section
/-
  Plain facts: StlTexts returns true.
-/
namespace Go.Mo
open Go Go.W Go.Lib
set_option maxRecDepth 100000
noncomputable section
theorem bk_mem {α : Type} {f : α → Nat} {l : List α} {x : α} (h : x ∈ l) : f x ≤ bkL f l := by
  induction l with
  | nil => cases h
  | cons y l ih =>
    simp only [bkL]
    rcases List.mem_cons.1 h with rfl | h
    · omega
    · have := ih h; omega
theorem bk_len {α : Type} {f : α → Nat} (hf : ∀ x, 1 ≤ f x) (l : List α) : l.length ≤ bkL f l := by
  induction l with
  | nil => exact Nat.le_refl _
  | cons y l ih => have := hf y; simp only [bkL, List.length_cons]; omega
end
end Go.Mo
end

section
/-
  Plain facts: StlReturns returns true.
-/
namespace Go.Mo
open Go Go.W Go.Lib
set_option maxRecDepth 100000
noncomputable section

end
end Go.Mo
end

section
/-
  Plain facts: regions, their check, a region by its name, the places of rows.
-/
namespace Go.Mo
open Go Go.W Go.Lib
set_option maxRecDepth 100000
noncomputable section
end
end Go.Mo
end

section
/-
  Plain facts: the places of rows.
-/
namespace Go.Mo
open Go Go.W Go.Lib
set_option maxRecDepth 100000
noncomputable section

end
end Go.Mo
end

section
/-
  Plain facts: the text and the length of a row; events and their check.
-/
namespace Go.Mo
open Go Go.W Go.Lib
set_option maxRecDepth 100000
noncomputable section
end
end Go.Mo
end

section
/-
  Plain facts: the check of an event, on both sides; spots; the length of an event.
-/
namespace Go.Mo
open Go Go.W Go.Lib
set_option maxRecDepth 100000
noncomputable section

end
end Go.Mo
end

section
/-
  Plain facts: the header of a document; events by their number; the length of an event.
-/
namespace Go.Mo
open Go Go.W Go.Lib
set_option maxRecDepth 100000
noncomputable section
end
end Go.Mo
end

section
/-
  Plain facts: the events of a document, checked one after the other; the length of an event.
-/
namespace Go.Mo
open Go Go.W Go.Lib
set_option maxRecDepth 100000
noncomputable section

end
end Go.Mo
end

section
/-
  Plain facts: the comments of a document, on both sides.
-/
namespace Go.Mo
open Go Go.W Go.Lib
set_option maxRecDepth 100000
noncomputable section

end
end Go.Mo
end

section
/-
  Plain facts: the check of a document is the specified one.
-/
namespace Go.Mo
open Go Go.W Go.Lib
set_option maxRecDepth 100000
noncomputable section

end
end Go.Mo
end

section
/-
  Plain facts: the place of a good event, and its region.
-/
namespace Go.Mo
open Go Go.W Go.Lib
set_option maxRecDepth 100000
noncomputable section

end
end Go.Mo
end

section
/-
  Plain facts: the document as the form carries it, on both sides.
-/
namespace Go.Mo
open Go Go.W Go.Lib
set_option maxRecDepth 100000
noncomputable section

end
end Go.Mo
end

section
/-
  Plain facts: a document is the same as itself; StlAccepts returns true.
-/
namespace Go.Mo
open Go Go.W Go.Lib
set_option maxRecDepth 100000
noncomputable section

end
end Go.Mo
end

section
/-
  Plain facts: StlAccepts returns true.
-/
namespace Go.Mo
open Go Go.W Go.Lib
set_option maxRecDepth 100000
noncomputable section

end
end Go.Mo
end

section
/-
  Plain facts: texts that are joined; the normal form of a row that is good.
-/
namespace Go.Mo
open Go Go.W Go.Lib
set_option maxRecDepth 100000
noncomputable section

end
end Go.Mo
end

section
/-
  Plain facts: the regions of a reduced document; its events stand where they stood.
-/
namespace Go.Mo
open Go Go.W Go.Lib
set_option maxRecDepth 100000
noncomputable section

end
end Go.Mo
end

section
/-
  Plain facts: a reduced document is good; StlReduced returns true.
-/
namespace Go.Mo
open Go Go.W Go.Lib
set_option maxRecDepth 100000
noncomputable section

end
end Go.Mo
end

section
/-
  Plain facts: digits and the bytes of a header.
-/
namespace Go.Mo
open Go Go.W Go.Lib
set_option maxRecDepth 100000

end Go.Mo
end

section
/-
  Plain facts: what the check of a header lets through; the bytes of a header.
-/
namespace Go.Mo
open Go Go.W Go.Lib
set_option maxRecDepth 100000
noncomputable section

def lblOk (l : Lbl) : Prop := (0 ≤ l.1 ∧ l.1 ≤ 23) ∧ (0 ≤ l.2.1 ∧ l.2.1 ≤ 59) ∧ (0 ≤ l.2.2.1 ∧ l.2.2.1 ≤ 59) ∧ (0 ≤ l.2.2.2.1 ∧ l.2.2.2.1 ≤ 59)
structure HdrOk (h : Hdr) : Prop where
  rate : h.1 = 3 ∨ h.1 = 5
  lang : h.2.1 = [] ∨ nm h.2.1 = true
  ttl : vld h.2.2.1 = true
  ttlL : h.2.2.1.length ≤ 400
  blocks : 0 ≤ h.2.2.2.1 ∧ h.2.2.2.1 ≤ 99999
  groups : 0 ≤ h.2.2.2.2.1 ∧ h.2.2.2.2.1 ≤ 99999
  start : lblOk h.2.2.2.2.2.1
  first : lblOk h.2.2.2.2.2.2.1
  rows : 0 ≤ h.2.2.2.2.2.2.2.1 ∧ h.2.2.2.2.2.2.2.1 ≤ 99
  cols : 0 ≤ h.2.2.2.2.2.2.2.2 ∧ h.2.2.2.2.2.2.2.2 ≤ 99
  d1 : h.2.2.2.2.2.1.2.2.2.2 = false
  d2 : h.2.2.2.2.2.2.1.2.2.2.2 = false
end
end Go.Mo
end

section
/-
  Plain facts: numbers and names read back.
-/
namespace Go.Mo
open Go Go.W Go.Lib
set_option maxRecDepth 100000
noncomputable section

end
end Go.Mo
end

section
/-
  Plain facts: a header read back; TapeHeaders.
-/
namespace Go.Mo
open Go Go.W Go.Lib
set_option maxRecDepth 100000
noncomputable section

def hz : Hdr := ((0 : UInt8), ([] : List UInt8), ([] : List UInt8), (0 : Int), (0 : Int), ((0 : Int), (0 : Int), (0 : Int), (0 : Int), false), ((0 : Int), (0 : Int), (0 : Int), (0 : Int), false), (0 : Int), (0 : Int))
end
end Go.Mo
end

section
/-
  Plain facts: rows that are read are small; a subtitle that is read, both sides.
-/
namespace Go.Mo
open Go Go.W Go.Lib
set_option maxRecDepth 100000
noncomputable section

end
end Go.Mo
end

section
/-
  Plain facts: events in document order, both sides.
-/
namespace Go.Mo
open Go Go.W Go.Lib
set_option maxRecDepth 100000
noncomputable section

end
end Go.Mo
end

section
/-
  Plain facts: the program's sorting of few events.
-/
namespace Go.Mo
open Go Go.W Go.Lib
set_option maxRecDepth 100000
noncomputable section

end
end Go.Mo
end

section
/-
  Plain facts: what is read is a valid document that the form carries; StlValid returns true.
-/
namespace Go.Mo
open Go Go.W Go.Lib
set_option maxRecDepth 100000
noncomputable section

end
end Go.Mo
end

section
/-
  Plain facts: the blocks of a subtitle lead back to it.
-/
namespace Go.Mo
open Go Go.W Go.Lib
set_option maxRecDepth 100000
noncomputable section

end
end Go.Mo
end

section
/-
  Plain facts: the file of an accepted document is read as the reduced document; StlCarries returns true.
-/
namespace Go.Mo
open Go Go.W Go.Lib
set_option maxRecDepth 100000
noncomputable section

end
end Go.Mo
end
end

section
/-
  Plain facts: loops over a text; letters; the escaped text, both sides.
-/
set_option linter.all false
namespace Go.Mo
open Go Go.W Go.Lib
set_option maxRecDepth 100000
noncomputable section

/-- a loop that goes through a list, by steps of any length -/
theorem drop_loop {V R σ α : Type} {F : (V → Option R) → V → Option R} {s : List α} (st : σ → Nat → V) (spec : σ → List α → Option R) (I : Nat → σ → Prop)
    (hstep : ∀ self a i, i ≤ s.length → I i a → (∀ a' j, i < j → j ≤ s.length → I j a' → self (st a' j) = spec a' (s.drop j)) → F self (st a i) = spec a (s.drop i)) :
    ∀ (fuel i : Nat) (a : σ), s.length - i < fuel → i ≤ s.length → I i a → fixN F fuel (st a i) = spec a (s.drop i)
  | 0, i, a, h, _, _ => by omega
  | fuel + 1, i, a, h, hi, hI => by
    rw [fixN_s]
    exact hstep _ a i hi hI fun a' j hj hj2 hI2 => drop_loop st spec I hstep fuel j a' (by omega) hj2 hI2
theorem fuelH_len {α : Type} {s : List α} (h : s.length ≤ 4000000) (i : Nat) : s.length - i < fuelH := by have := fuelH_eq; omega

def letB (x : UInt8) : Bool := (decide (97 ≤ x.toNat) && decide (x.toNat ≤ 122)) || (decide (65 ≤ x.toNat) && decide (x.toNat ≤ 90))
def digB (x : UInt8) : Bool := decide (48 ≤ x.toNat) && decide (x.toNat ≤ 57)
def namB (x : UInt8) : Bool := letB x || digB x || x == 45
def wsB (x : UInt8) : Bool := x == 9 || x == 10 || x == 13 || x == 32
theorem letters_tab : ((List.range 256).all fun n => decide (xml_letter 0 (UInt8.ofNat n) = some (letB (UInt8.ofNat n)) ∧ r20_letter 0 (UInt8.ofNat n) = some (letB (UInt8.ofNat n)) ∧ xml_nameByte 0 (UInt8.ofNat n) = some (namB (UInt8.ofNat n)) ∧ r20_digit 0 (UInt8.ofNat n) = some (digB (UInt8.ofNat n)) ∧ xml_white 0 (UInt8.ofNat n) = some (wsB (UInt8.ofNat n)))) = true := by kernel_rfl
theorem letters (x : UInt8) : xml_letter 0 x = some (letB x) ∧ r20_letter 0 x = some (letB x) ∧ xml_nameByte 0 x = some (namB x) ∧ r20_digit 0 x = some (digB x) ∧ xml_white 0 x = some (wsB x) :=
  of_decide_eq_true (all_u8 (P := fun x => decide (xml_letter 0 x = some (letB x) ∧ r20_letter 0 x = some (letB x) ∧ xml_nameByte 0 x = some (namB x) ∧ r20_digit 0 x = some (digB x) ∧ xml_white 0 x = some (wsB x))) letters_tab x)
theorem letter_eq (N : Nat) (x : UInt8) : xml_letter N x = some (letB x) := (letters x).1
theorem namb_eq (N : Nat) (x : UInt8) : xml_nameByte N x = some (namB x) := (letters x).2.2.1
end
end Go.Mo
end

section
/-
  Plain facts: what references mean and the text that is meant, both sides.
-/
set_option linter.all false
namespace Go.Mo
open Go Go.W Go.Lib
set_option maxRecDepth 100000
noncomputable section

end
end Go.Mo
end

section
/-
  Plain facts: the text that is meant, names, both sides; XmlEscapes and XmlUnescapes return true.
-/
set_option linter.all false
namespace Go.Mo
open Go Go.W Go.Lib
set_option maxRecDepth 100000
noncomputable section

/-- a name's form -/
def nmX (s : List UInt8) : Bool := decide (1 ≤ s.length) && decide (s.length ≤ 32) && letB (s.getD 0 0) && s.all namB
theorem name_loop {s : List UInt8} (hs : s.length ≤ 4000000) : ∀ (fuel i : Nat), s.length - i < fuel → i ≤ s.length →
    fixN (fun v3 (v4 : Int) => cnd (ilt v4 (len s)) (grd (inb v4 (len s)) (bnd (xml_nameByte fuelH (lget s (toN v4) (0 : UInt8))) fun v5 => cnd (bnot v5) (some false) (v3 (w64 (iadd v4 (1 : Int)))))) (some true)) fuel (i : Int) = some ((s.drop i).all namB)
  | 0, i, h, _ => by omega
  | fuel + 1, i, h, hi => by
    rw [fixN_s]
    by_cases hl : i < s.length
    · rw [cnd_t (ilt_t (by simp only [len]; omega)), grd_t (inb_t (by simp only [len]; omega)), lget_i hl, namb_eq, bnd_some', w64_succ hl (by omega), name_loop hs fuel (i + 1) (by omega) (by omega), List.drop_eq_getElem_cons hl, List.all_cons]
      cases namB s[i] <;> rfl
    · obtain rfl : i = s.length := by omega
      rw [cnd_f (ilt_f (by simp only [len]; omega)), List.drop_length]
      rfl
theorem name_eq (s : List UInt8) : xml_Name fuelH s = some (nmX s) := by
  unfold xml_Name nmX
  by_cases h0 : 1 ≤ s.length
  · rw [cnd_f (ilt_f (by simp only [len]; omega)), decide_eq_true h0]
    by_cases h1 : s.length ≤ 32
    · have hg : lget s (toN (0 : Int)) (0 : UInt8) = s.getD 0 0 := rfl
      rw [cnd_f (ilt_f (by simp only [len]; omega)), decide_eq_true h1, grd_t (inb_t (by simp only [len]; omega)), letter_eq, bnd_some', hg]
      by_cases h2 : letB (s.getD 0 0) = true
      · rw [h2, cnd_f (by rfl), jn_e]
        exact name_loop (by omega) fuelH 0 (fuelH_len (by omega) 0) (Nat.zero_le _)
      · have h2 : letB (s.getD 0 0) = false := by simpa using h2
        rw [h2, cnd_t (by rfl)]
        rfl
    · rw [cnd_t (ilt_t (by simp only [len]; omega)), decide_eq_false h1]
      rfl
  · rw [cnd_t (ilt_t (by simp only [len]; omega)), decide_eq_false h0]
    rfl
theorem awake20 : l20_awake fuelH () = some true := by kernel_rfl
end
end Go.Mo
end

section
/-
  Plain facts: attributes and children; XmlLooks returns true.
-/
set_option linter.all false
namespace Go.Mo
open Go Go.W Go.Lib
set_option maxRecDepth 100000
noncomputable section

abbrev Ln := List UInt8
abbrev At := List UInt8 × List UInt8
abbrev Nd := List UInt8 × List UInt8 × List At × Int
def ndz : Nd := ([], ([], ([], (0 : Int))))
def dep (n : Nd) : Int := n.2.2.2
def i64 (x : Int) : Prop := -9223372036854775808 ≤ x ∧ x ≤ 9223372036854775807
theorem lgetn {l : List Nd} {i : Nat} (h : i < l.length) : lget l (toN (i : Int)) ([], ([], ([], (0 : Int)))) = l[i] := lget_i h
/-- the children behind a place -/
def chS (d : Int) : Nat → List Nd → List Int
  | _, [] => []
  | k, n :: r => if d < dep n then (if dep n = d + 1 then (k : Int) :: chS d (k + 1) r else chS d (k + 1) r) else []
def kids (l : List Nd) (i : Int) : List Int := if i < 0 ∨ (l.length : Int) ≤ i then [] else chS (dep (l.getD i.toNat ndz)) (i.toNat + 1) (l.drop (i.toNat + 1))
theorem kids_loop {l : List Nd} (hl : l.length ≤ 1000000) (hd : ∀ n ∈ l, i64 (dep n)) {i : Nat} (hi : i < l.length) (T : Int → Int → Bool) (hT : ∀ a d, i64 a → i64 d → d < a → T a d = ieq a (d + 1)) :
    fixN (fun v2 (v3 : (List Int) × Int) =>
        cnd (ilt v3.2 (len l))
          (grd (inb v3.2 (len l))
            (grd (inb (i : Int) (len l))
              (cnd (ilt (lget l (toN (i : Int)) ([], ([], ([], (0 : Int))))).2.2.2 (lget l (toN v3.2) ([], ([], ([], (0 : Int))))).2.2.2)
                (grd (inb v3.2 (len l))
                  (grd (inb (i : Int) (len l))
                    (cnd (T (lget l (toN v3.2) ([], ([], ([], (0 : Int))))).2.2.2 (lget l (toN (i : Int)) ([], ([], ([], (0 : Int))))).2.2.2)
                      (grd (room (iadd (len v3.1) (len ([v3.2] : List Int))) 8)
                        (v2 (lapp v3.1 ([v3.2] : List Int), w64 (iadd v3.2 (1 : Int)))))
                      (v2 (v3.1, w64 (iadd v3.2 (1 : Int)))))))
                (some v3.1))))
          (some v3.1)) fuelH (([] : List Int), ((i + 1 : Nat) : Int)) = some (chS (dep l[i]) (i + 1) (l.drop (i + 1))) := by
  have h := drop_loop (s := l) (fun (a : List Int) (k : Nat) => (a, (k : Int))) (fun a r => some (a ++ chS (dep l[i]) (l.length - r.length) r)) (fun k a => a.length ≤ k)
    (F := fun v2 (v3 : (List Int) × Int) =>
        cnd (ilt v3.2 (len l))
          (grd (inb v3.2 (len l))
            (grd (inb (i : Int) (len l))
              (cnd (ilt (lget l (toN (i : Int)) ([], ([], ([], (0 : Int))))).2.2.2 (lget l (toN v3.2) ([], ([], ([], (0 : Int))))).2.2.2)
                (grd (inb v3.2 (len l))
                  (grd (inb (i : Int) (len l))
                    (cnd (T (lget l (toN v3.2) ([], ([], ([], (0 : Int))))).2.2.2 (lget l (toN (i : Int)) ([], ([], ([], (0 : Int))))).2.2.2)
                      (grd (room (iadd (len v3.1) (len ([v3.2] : List Int))) 8)
                        (v2 (lapp v3.1 ([v3.2] : List Int), w64 (iadd v3.2 (1 : Int)))))
                      (v2 (v3.1, w64 (iadd v3.2 (1 : Int)))))))
                (some v3.1))))
          (some v3.1)) ?_ fuelH (i + 1) [] (fuelH_len (by omega) _) (by omega) (by simp)
  · refine Eq.trans h ?_
    rw [List.length_drop, show l.length - (l.length - (i + 1)) = i + 1 by omega]
    rfl
  · intro self a k hk hI hself
    by_cases hkl : k < l.length
    · have hw : w64 (iadd (k : Int) 1) = ((k + 1 : Nat) : Int) := w64_succ hkl (by omega)
      have hdi := hd _ (List.getElem_mem hi)
      have hdk := hd _ (List.getElem_mem hkl)
      have hrl : l.length - (l.drop k).length = k := by rw [List.length_drop]; omega
      have hrl2 : l.length - (l.drop (k + 1)).length = k + 1 := by rw [List.length_drop]; omega
      rw [hrl, List.drop_eq_getElem_cons hkl]
      have e : chS (dep l[i]) k (l[k] :: l.drop (k + 1)) = if dep l[i] < dep l[k] then (if dep l[k] = dep l[i] + 1 then (k : Int) :: chS (dep l[i]) (k + 1) (l.drop (k + 1)) else chS (dep l[i]) (k + 1) (l.drop (k + 1))) else [] := rfl
      rw [e]
      show cnd (ilt (k : Int) (len l)) _ _ = _
      rw [cnd_t (ilt_t (by simp only [len]; omega)), grd_t (inb_t (by simp only [len]; omega)), grd_t (inb_t (by simp only [len]; omega)), grd_t (inb_t (by simp only [len]; omega)), grd_t (inb_t (by simp only [len]; omega)), lgetn hi]
      show cnd (ilt (l[i].2.2.2) (lget l (toN (k : Int)) _).2.2.2) _ _ = _
      rw [lgetn hkl]
      show cnd (ilt (dep l[i]) (dep l[k])) (cnd (T (dep l[k]) (dep l[i])) _ _) _ = _
      by_cases h1 : dep l[i] < dep l[k]
      · rw [cnd_t (ilt_t h1), if_pos h1, hT _ _ hdk hdi h1]
        by_cases h2 : dep l[k] = dep l[i] + 1
        · rw [cnd_t (ieq_t h2), if_pos h2, grd_t (room_t (by simp only [len, iadd, List.length_cons, List.length_nil]; omega))]
          show self (lapp a [(k : Int)], w64 (iadd (k : Int) 1)) = _
          rw [hw]
          refine Eq.trans (hself (a ++ [(k : Int)]) (k + 1) (by omega) (by omega) (by simp; omega)) ?_
          rw [hrl2]
          simp
        · rw [cnd_f (ieq_f h2), if_neg h2]
          show self (a, w64 (iadd (k : Int) 1)) = _
          rw [hw]
          refine Eq.trans (hself a (k + 1) (by omega) (by omega) (by omega)) ?_
          rw [hrl2]
      · rw [cnd_f (ilt_f h1), if_neg h1, List.append_nil]
    · obtain rfl : k = l.length := by omega
      show cnd (ilt (l.length : Int) (len l)) _ _ = _
      rw [cnd_f (ilt_f (by simp only [len]; omega)), List.drop_length]
      simp [chS]
theorem kids_eq {l : List Nd} (hl : l.length ≤ 1000000) (hd : ∀ n ∈ l, i64 (dep n)) (i : Int) : xml_Children fuelH (l, i) = some (kids l i) ∧ r20_Children fuelH (l, i) = some (kids l i) := by
  unfold xml_Children r20_Children kids
  have hlen : len l = (l.length : Int) := rfl
  show cnd (ilt i 0) _ (cnd (ile (len l) i) _ _) = _ ∧ cnd (ilt i 0) _ (cnd (ile (len l) i) _ _) = _
  rw [hlen]
  by_cases h0 : i < 0
  · rw [cnd_t (ilt_t h0), cnd_t (ilt_t h0), if_pos (Or.inl h0)]
    exact ⟨rfl, rfl⟩
  rw [cnd_f (ilt_f h0), cnd_f (ilt_f h0)]
  by_cases h1 : (l.length : Int) ≤ i
  · rw [cnd_t (ile_t h1), cnd_t (ile_t h1), if_pos (Or.inr h1)]
    exact ⟨rfl, rfl⟩
  rw [cnd_f (ile_f h1), cnd_f (ile_f h1), if_neg (by omega), jn_e, jn_e]
  obtain ⟨k, rfl⟩ : ∃ k : Nat, i = (k : Int) := ⟨i.toNat, by omega⟩
  have hk : k < l.length := by omega
  have hw : w64 (iadd (k : Int) 1) = ((k + 1 : Nat) : Int) := w64_succ hk (by omega)
  have hg : l.getD k ndz = l[k] := by simp [List.getD, hk]
  rw [Int.toNat_natCast, hg, hw]
  refine ⟨kids_loop hl hd hk (fun a d => ieq a (w64 (iadd d 1))) fun a d ha hd' h => ?_, kids_loop hl hd hk (fun a d => ieq (w64 (isub a 1)) d) fun a d ha hd' h => ?_⟩
  · have h1 := ha.2
    have h2 := hd'.1
    simp only [iadd]
    rw [w64_id (by omega)]
  · have h1 := ha.2
    have h2 := hd'.1
    simp only [isub]
    rw [w64_id (by omega)]
    by_cases e : a = d + 1
    · rw [ieq_t e, ieq_t (by omega)]
    · rw [ieq_f e, ieq_f (by omega)]

def wtA (a : At) : Nat := a.1.length + 1 + (a.2.length + 1)
def wtN (n : Nd) : Nat := n.1.length + 1 + (n.2.1.length + 1 + (bkL wtA n.2.2.1 + 1 + 1))
structure smN (n : Nd) : Prop where
  nm : n.1.length ≤ 1048576
  tx : n.2.1.length ≤ 1048576
  asz : n.2.2.1.length ≤ 1048576
  an : ∀ a ∈ n.2.2.1, a.1.length ≤ 1048576 ∧ a.2.length ≤ 1048576
theorem sm_of {l : List Nd} (h : bkL wtN l ≤ 1048576) : ∀ n ∈ l, smN n := fun n hn => by
  have h1 : n.1.length + 1 + (n.2.1.length + 1 + (bkL wtA n.2.2.1 + 1 + 1)) ≤ bkL wtN l := bk_mem (f := wtN) hn
  have h2 := bk_len (f := wtA) (fun a => by unfold wtA; omega) n.2.2.1
  refine ⟨by omega, by omega, by omega, fun a ha => ?_⟩
  have h3 : a.1.length + 1 + (a.2.length + 1) ≤ bkL wtA n.2.2.1 := bk_mem (f := wtA) ha
  omega
theorem few20 (x : List Nd) : l20_few fuelH x = some (x.take 24) := by
  unfold l20_few
  rw [grd_t (in2_t (by simp only [len, imin]; omega))]
  simp only [ltake, toN, len, imin]
  congr 1
  by_cases h : x.length ≤ 24
  · rw [show (min (x.length : Int) 24).toNat = x.length by omega, List.take_length, List.take_of_length_le h]
  · rw [show (min (x.length : Int) 24).toNat = 24 by omega]
theorem chS_len (d : Int) : ∀ (k : Nat) (r : List Nd), (chS d k r).length ≤ r.length
  | _, [] => Nat.le_refl _
  | k, n :: r => by
    have := chS_len d (k + 1) r
    unfold chS
    split
    · split
      · simp; omega
      · simp; omega
    · simp
theorem kids_len (l : List Nd) (i : Int) : (kids l i).length ≤ l.length := by
  unfold kids
  split
  · simp
  · have := chS_len (dep (l.getD i.toNat ndz)) (i.toNat + 1) (l.drop (i.toNat + 1))
    rw [List.length_drop] at this
    omega
theorem wf_i64 {x : Int} (h : (Lit.int .i64 x).wf = true) : i64 x := by
  have : IntKind.i64.min ≤ x ∧ x ≤ IntKind.i64.max := by simpa [Lit.wf] using h
  exact ⟨by have := this.1; simp [IntKind.min, IntKind.signed, IntKind.bits] at this; omega, by have := this.2; simp [IntKind.max, IntKind.signed, IntKind.bits] at this; omega⟩
end
end Go.Mo
end

section
/-
  Plain facts: the check of nodes.
-/
set_option linter.all false
namespace Go.Mo
open Go Go.W Go.Lib
set_option maxRecDepth 100000
noncomputable section

/-- the first error of attributes behind others -/
def atE : List Ln → List At → Int
  | _, [] => 0
  | seen, a :: r => if nmX a.1 = false then 5 else if a.1 ∈ seen then 7 else if vld a.2 = false then 10 else atE (seen ++ [a.1]) r
def elE (n : Nd) : Int := if nmX n.1 = false then 5 else if n.2.1 ≠ [] then 4 else if 16 < n.2.2.1.length then 9 else atE [] n.2.2.1
def depE (p : Option Nd) (n : Nd) : Int := match p with
  | none => if dep n ≠ 0 then 8 else 0
  | some q => if dep n < 1 then 8 else if (if q.1 ≠ [] then dep q + 1 else dep q) < dep n then 8 else if 15 < dep n then 9 else 0
def txP (p : Option Nd) (n : Nd) : Bool := match p with
  | none => true
  | some q => decide (q.1 = [] ∧ dep q = dep n)
def txE (p : Option Nd) (n : Nd) : Int :=
  if txP p n = true then 8 else if n.2.1 = [] then 4 else if 0 < n.2.2.1.length then 4 else if vld n.2.1 = false then 10 else 0
def ndE (p : Option Nd) (n : Nd) : Int := if depE p n ≠ 0 then depE p n else if n.1 ≠ [] then elE n else txE p n
def ckE : Option Nd → List Nd → Int
  | _, [] => 0
  | p, n :: r => if ndE p n ≠ 0 then ndE p n else ckE (some n) r
/-- the first error of a list of nodes -/
def chkE (l : List Nd) : Int := if l.length = 0 then 6 else if 8192 < l.length then 9 else ckE none l

theorem mget_names {m : List (Ln × Bool)} (h : ∀ x ∈ m, x.2 = true) (k : Ln) : mget seq false m k = decide (k ∈ m.map Prod.fst) := by
  induction m with
  | nil => rfl
  | cons x m ih =>
    have ih := ih fun y hy => h y (List.mem_cons_of_mem _ hy)
    have hx := h x List.mem_cons_self
    unfold mget
    rw [ih, hx, seq_dec]
    by_cases e : k = x.1
    · subst e; simp
    · simp [e]
theorem mput_names {m : List (Ln × Bool)} {k : Ln} (h : k ∉ m.map Prod.fst) : mput seq m k true = m ++ [(k, true)] := by
  induction m with
  | nil => rfl
  | cons x m ih =>
    simp only [List.map_cons, List.mem_cons, not_or] at h
    unfold mput
    have : seq k x.1 = false := by rw [seq_dec]; simpa using h.1
    rw [this, ih h.2]
    rfl
theorem elem_eq {n : Nd} (hs : smN n) : xml_checkElement fuelH n = some (elE n) := by
  unfold xml_checkElement elE
  rw [name_eq, bnd_some']
  by_cases h1 : nmX n.1 = true
  · rw [h1, cnd_f (by rfl), if_neg (by decide)]
    by_cases h2 : n.2.1 = []
    · rw [cnd_f (by unfold sne; simpa using h2), if_neg (by simpa using h2)]
      by_cases h3 : 16 < n.2.2.1.length
      · rw [cnd_t (ilt_t (by simp only [len]; omega)), if_pos h3]
      rw [cnd_f (ilt_f (by simp only [len]; omega)), if_neg h3, jn_e]
      generalize ha : n.2.2.1 = l at *
      have h := drop_loop (s := l) (fun (m : List (Ln × Bool)) (j : Nat) => ((j : Int), m)) (fun m r => some (atE (m.map Prod.fst) r)) (fun _ m => ∀ x ∈ m, x.2 = true)
        (F := fun v3 (v4 : Int × List ((List UInt8) × Bool)) =>
          cnd (ilt v4.1 (len l))
            (grd (inb v4.1 (len l))
              (bnd (xml_Name fuelH (lget l (toN v4.1) ([], [])).1) fun v5 =>
              cnd (bnot v5)
                (some (5 : Int))
                (cnd (mget seq false v4.2 (lget l (toN v4.1) ([], [])).1)
                  (some (7 : Int))
                  (bnd (charset_Valid fuelH (lget l (toN v4.1) ([], [])).2) fun v6 =>
                  cnd (bnot v6)
                    (some (10 : Int))
                    (v3 (w64 (iadd v4.1 (1 : Int)), mput seq v4.2 (lget l (toN v4.1) ([], [])).1 true))))))
            (some (0 : Int))) ?_ fuelH 0 [] (fuelH_len (by omega) _) (Nat.zero_le _) (by simp)
      · exact h
      · intro self m j hj hI hself
        by_cases hjl : j < l.length
        · have hw : w64 (iadd (j : Int) 1) = ((j + 1 : Nat) : Int) := w64_succ hjl (by omega)
          have hsa := hs.an l[j] (by rw [ha]; exact List.getElem_mem hjl)
          rw [List.drop_eq_getElem_cons hjl]
          show cnd (ilt (j : Int) (len l)) _ _ = some (if nmX (l[j]).1 = false then _ else _)
          rw [cnd_t (ilt_t (by simp only [len]; omega)), grd_t (inb_t (by simp only [len]; omega)), lget_i hjl, name_eq, bnd_some', hw]
          by_cases e1 : nmX (l[j]).1 = true
          · rw [e1, cnd_f (by rfl), if_neg (by decide), mget_names hI]
            by_cases e2 : (l[j]).1 ∈ m.map Prod.fst
            · rw [cnd_t (by simpa using e2), if_pos e2]
            · rw [cnd_f (by simpa using e2), if_neg e2, ch_valid _ (by omega), bnd_some']
              by_cases e3 : vld (l[j]).2 = true
              · rw [e3, cnd_f (by rfl), if_neg (by decide), mput_names e2]
                refine Eq.trans (hself (m ++ [((l[j]).1, true)]) (j + 1) (by omega) (by omega) ?_) ?_
                · intro x hx
                  rcases List.mem_append.1 hx with hx | hx
                  · exact hI x hx
                  · simp at hx; rw [hx]
                · simp
              · have e3 : vld (l[j]).2 = false := by simpa using e3
                rw [e3, cnd_t (by rfl), if_pos rfl]
          · have e1 : nmX (l[j]).1 = false := by simpa using e1
            rw [e1, cnd_t (by rfl), if_pos rfl]
        · obtain rfl : j = l.length := by omega
          show cnd (ilt (l.length : Int) (len l)) _ _ = _
          rw [cnd_f (ilt_f (by simp only [len]; omega)), List.drop_length]
          rfl
    · rw [cnd_t (by unfold sne; simpa using h2), if_pos h2]
  · have h1 : nmX n.1 = false := by simpa using h1
    rw [h1, cnd_t (by rfl), if_pos rfl]
/-- the node before a place -/
def prv (l : List Nd) (i : Nat) : Option Nd := if i = 0 then none else l[i - 1]?
theorem prv_succ {l : List Nd} {i : Nat} (hi : i < l.length) : prv l (i + 1) = some l[i] := by
  unfold prv
  rw [if_neg (by omega)]
  simp [hi]
theorem depth_eq {l : List Nd} (hl : l.length ≤ 4000000) {i : Nat} (hi : i < l.length) (hp : ∀ q, prv l i = some q → 0 ≤ dep q ∧ dep q ≤ 15) : xml_checkDepth fuelH (l, (i : Int)) = some (depE (prv l i) l[i]) := by
  unfold xml_checkDepth
  show grd (inb (i : Int) (len l)) (cnd (ieq (i : Int) 0) (cnd (ine (lget l (toN (i : Int)) ([], ([], ([], (0 : Int))))).2.2.2 0) _ _) _) = _
  rw [grd_t (inb_t (by simp only [len]; omega)), lgetn hi]
  by_cases h0 : i = 0
  · subst h0
    rw [cnd_t (by rfl)]
    show cnd (ine (dep l[0]) 0) _ _ = some (if dep l[0] ≠ 0 then (8 : Int) else 0)
    by_cases e : dep l[0] = 0
    · rw [cnd_f (ine_f e), if_neg (by simpa using e)]
    · rw [cnd_t (ine_t e), if_pos e]
  · obtain ⟨k, rfl⟩ : ∃ k, i = k + 1 := ⟨i - 1, by omega⟩
    have hq := hp _ (prv_succ (by omega))
    rw [cnd_f (ieq_f (by omega)), prv_succ (by omega)]
    have hb : w64 (isub ((k + 1 : Nat) : Int) 1) = (k : Int) := w64_back (by omega)
    dsimp only
    have hg : inb (k : Int) (len l) = true := inb_t (by simp only [len]; omega)
    rw [hb, lgetn (show k < l.length by omega), grd_t hg, jn_e, grd_t hg]
    show cnd (sne l[k].1 []) (cnd (ilt (dep l[k + 1]) 1) (some 8) (cnd (ilt (w64 (iadd (dep l[k]) 1)) (dep l[k + 1])) (some 8) (cnd (ilt 15 (dep l[k + 1])) (some 9) (some 0)))) (cnd (ilt (dep l[k + 1]) 1) (some 8) (cnd (ilt (dep l[k]) (dep l[k + 1])) (some 8) (cnd (ilt 15 (dep l[k + 1])) (some 9) (some 0)))) =
      some (if dep l[k + 1] < 1 then (8 : Int) else if (if l[k].1 ≠ [] then dep l[k] + 1 else dep l[k]) < dep l[k + 1] then 8 else if 15 < dep l[k + 1] then 9 else 0)
    have hw : w64 (iadd (dep l[k]) 1) = dep l[k] + 1 := by
      simp only [iadd]
      rw [w64_id (by omega)]
    rw [hw]
    simp only [cnd_ilt]
    by_cases e : l[k].1 = []
    · rw [cnd_f (by unfold sne; simpa using e)]
      simp only [e, ne_eq, not_true, if_false]
      repeat' split
      all_goals rfl
    · rw [cnd_t (by unfold sne; simpa using e)]
      simp only [e, ne_eq, not_false_eq_true, if_true]
      repeat' split
      all_goals rfl
theorem text_eq {l : List Nd} (hl : l.length ≤ 4000000) {i : Nat} (hi : i < l.length) (hs : smN l[i]) : xml_checkText fuelH (l, (i : Int)) = some (txE (prv l i) l[i]) := by
  have fin : ∀ b : Bool, (cnd b (some (8 : Int)) (cnd (seq l[i].2.1 []) (some (4 : Int)) (cnd (ilt 0 (len l[i].2.2.1)) (some (4 : Int)) (bnd (charset_Valid fuelH l[i].2.1) fun v1 => cnd (bnot v1) (some (10 : Int)) (some (0 : Int)))))) =
      some (if b = true then 8 else if l[i].2.1 = [] then 4 else if 0 < l[i].2.2.1.length then 4 else if vld l[i].2.1 = false then 10 else 0) := fun b => by
    cases b with
    | true => rfl
    | false =>
      rw [cnd_f (by rfl), if_neg (by decide)]
      by_cases h1 : l[i].2.1 = []
      · rw [cnd_t (by rw [seq_t]; exact h1), if_pos h1]
      rw [cnd_f (by rw [seq_dec]; simpa using h1), if_neg h1]
      by_cases h2 : 0 < l[i].2.2.1.length
      · rw [cnd_t (ilt_t (by simp only [len]; omega)), if_pos h2]
      rw [cnd_f (ilt_f (by simp only [len]; omega)), if_neg h2, ch_valid _ (by have := hs.tx; omega), bnd_some']
      cases vld l[i].2.1 <;> rfl
  unfold xml_checkText
  dsimp only
  rw [grd_t (inb_t (by simp only [len]; omega)), jn_e]
  simp only [lgetn hi]
  by_cases h0 : i = 0
  · subst h0
    rw [cnd_t (by rfl)]
    refine Eq.trans (fin true) ?_
    rfl
  · obtain ⟨k, rfl⟩ : ∃ k, i = k + 1 := ⟨i - 1, by omega⟩
    have hb : w64 (isub ((k + 1 : Nat) : Int) 1) = (k : Int) := w64_back (by omega)
    have hg : inb (k : Int) (len l) = true := inb_t (by simp only [len]; omega)
    rw [cnd_f (ieq_f (by omega)), prv_succ (by omega), hb, grd_t hg, grd_t hg, lgetn (show k < l.length by omega)]
    unfold txE
    by_cases e : l[k].1 = []
    · rw [cnd_t (by rw [seq_t]; exact e)]
      refine Eq.trans (fin _) ?_
      have hc : ieq l[k].2.2.2 l[k + 1].2.2.2 = txP (some l[k]) l[k + 1] := by
        unfold txP
        rw [Bool.eq_iff_iff, ieq_tt, decide_eq_true_eq]
        exact ⟨fun h => ⟨e, h⟩, fun h => h.2⟩
      rw [hc]
    · rw [cnd_f (by rw [seq_dec]; simpa using e)]
      refine Eq.trans (fin _) ?_
      have hc : txP (some l[k]) l[k + 1] = false := by
        unfold txP
        exact decide_eq_false fun h => e h.1
      rw [hc]
theorem depE_ok {p : Option Nd} {n : Nd} (h : depE p n = 0) : 0 ≤ dep n ∧ dep n ≤ 15 := by
  unfold depE at h
  cases p with
  | none =>
    simp only at h
    split at h
    · cases h
    · rename_i k; simp at k; omega
  | some q =>
    simp only at h
    repeat' split at h
    all_goals (first | (cases h; done) | omega)
theorem ndE_dep {p : Option Nd} {n : Nd} (h : ndE p n = 0) : depE p n = 0 := by
  unfold ndE at h
  by_cases e : depE p n = 0
  · exact e
  · rw [if_pos e] at h
    exact h
theorem check_eq {l : List Nd} (hl : l.length ≤ 4000000) (hs : ∀ n ∈ l, smN n) : xml_Check fuelH l = some (chkE l) := by
  unfold xml_Check chkE
  by_cases h0 : l.length = 0
  · rw [cnd_t (ieq_t (by simp only [len]; omega)), if_pos h0]
  rw [cnd_f (ieq_f (by simp only [len]; omega)), if_neg h0]
  by_cases h1 : 8192 < l.length
  · rw [cnd_t (ilt_t (by simp only [len]; omega)), if_pos h1]
  rw [cnd_f (ilt_f (by simp only [len]; omega)), if_neg h1, jn_e]
  have h := drop_loop (s := l) (fun (_ : Unit) (j : Nat) => (j : Int)) (fun _ r => some (ckE (prv l (l.length - r.length)) r)) (fun j _ => ∀ q, prv l j = some q → 0 ≤ dep q ∧ dep q ≤ 15)
    (F := fun v2 (v3 : Int) =>
        cnd (ilt v3 (len l))
          (grd (inb v3 (len l))
            (bnd (xml_checkDepth fuelH (l, v3)) fun v4 =>
            cnd (ine v4 (0 : Int))
              (some v4)
              (cnd (sne (lget l (toN v3) ([], ([], ([], (0 : Int))))).1 ([] : List UInt8))
                (bnd (xml_checkElement fuelH (lget l (toN v3) ([], ([], ([], (0 : Int)))))) fun v5 =>
                cnd (ine v5 (0 : Int))
                  (some v5)
                  (v2 (w64 (iadd v3 (1 : Int)))))
                (bnd (xml_checkText fuelH (l, v3)) fun v6 =>
                cnd (ine v6 (0 : Int))
                  (some v6)
                  (v2 (w64 (iadd v3 (1 : Int))))))))
          (some (0 : Int))) ?_ fuelH 0 () (fuelH_len hl _) (Nat.zero_le _) (fun q hq => by simp [prv] at hq)
  · refine Eq.trans h ?_
    rw [List.drop_zero, Nat.sub_self]
    rfl
  · intro self a j hj hI hself
    by_cases hjl : j < l.length
    · have hw : w64 (iadd (j : Int) 1) = ((j + 1 : Nat) : Int) := w64_succ hjl (by omega)
      have hrl : l.length - (l.drop j).length = j := by rw [List.length_drop]; omega
      have hrl2 : l.length - (l.drop (j + 1)).length = j + 1 := by rw [List.length_drop]; omega
      have hsm := hs _ (List.getElem_mem hjl)
      have hgo : depE (prv l j) l[j] = 0 → self ((j + 1 : Nat) : Int) = some (ckE (some l[j]) (l.drop (j + 1))) := fun hd => by
        refine Eq.trans (hself () (j + 1) (by omega) (by omega) (fun q hq => ?_)) ?_
        · rw [prv_succ hjl] at hq
          injection hq with hq
          rw [← hq]
          exact depE_ok hd
        · rw [hrl2, prv_succ hjl]
      rw [hrl, List.drop_eq_getElem_cons hjl]
      show cnd (ilt (j : Int) (len l)) _ _ = some (if ndE (prv l j) l[j] ≠ 0 then ndE (prv l j) l[j] else ckE (some l[j]) (l.drop (j + 1)))
      rw [cnd_t (ilt_t (by simp only [len]; omega)), grd_t (inb_t (by simp only [len]; omega)), depth_eq hl hjl hI, bnd_some', lgetn hjl, elem_eq hsm, text_eq hl hjl hsm, bnd_some', bnd_some', hw]
      unfold ndE
      by_cases e1 : depE (prv l j) l[j] = 0
      · rw [cnd_f (ine_f e1), if_neg (show ¬ depE (prv l j) l[j] ≠ 0 from fun k => k e1)]
        by_cases e2 : l[j].1 = []
        · rw [cnd_f (by unfold sne; simpa using e2), if_neg (show ¬ l[j].1 ≠ [] from fun k => k e2)]
          by_cases e3 : txE (prv l j) l[j] = 0
          · rw [cnd_f (ine_f e3), if_neg (fun k => k e3)]
            exact hgo e1
          · rw [cnd_t (ine_t e3), if_pos e3]
        · rw [cnd_t (by unfold sne; simpa using e2), if_pos e2]
          by_cases e3 : elE l[j] = 0
          · rw [cnd_f (ine_f e3), if_neg (fun k => k e3)]
            exact hgo e1
          · rw [cnd_t (ine_t e3), if_pos e3]
      · rw [cnd_t (ine_t e1), if_pos e1, if_pos e1]
    · obtain rfl : j = l.length := by omega
      show cnd (ilt (l.length : Int) (len l)) _ _ = _
      rw [cnd_f (ilt_f (by simp only [len]; omega)), List.drop_length]
      rfl
end
end Go.Mo
end

section
/-
  Plain facts: each node but the root is the child of one element; XmlCovers returns true.
-/
set_option linter.all false
namespace Go.Mo
open Go Go.W Go.Lib
set_option maxRecDepth 100000
noncomputable section
open Classical

theorem ck_at : ∀ (r : List Nd) (p : Option Nd), ckE p r = 0 → ∀ j (h : j < r.length), ndE (if j = 0 then p else r[j - 1]?) r[j] = 0
  | [], _, _, j, h => by simp at h
  | n :: r, p, hc, j, h => by
    have hc' : (if ndE p n ≠ 0 then ndE p n else ckE (some n) r) = 0 := hc
    by_cases e : ndE p n = 0
    · rw [if_neg (fun k => k e)] at hc'
      cases j with
      | zero => exact e
      | succ j =>
        have := ck_at r (some n) hc' j (by simpa using h)
        rw [if_neg (by omega)]
        cases j with
        | zero => simpa using this
        | succ j => simpa using this
    · rw [if_pos e] at hc'
      exact absurd hc' e
theorem chk_at {l : List Nd} (h : chkE l = 0) : 0 < l.length ∧ l.length ≤ 8192 ∧ ∀ j (h : j < l.length), ndE (prv l j) l[j] = 0 := by
  unfold chkE at h
  by_cases h0 : l.length = 0
  · rw [if_pos h0] at h; cases h
  rw [if_neg h0] at h
  by_cases h1 : 8192 < l.length
  · rw [if_pos h1] at h; cases h
  rw [if_neg h1] at h
  exact ⟨by omega, by omega, fun j hj => ck_at l none h j hj⟩
/-- how deep nodes lie -/
structure Deep (l : List Nd) : Prop where
  root : ∀ h : 0 < l.length, dep l[0] = 0
  low : ∀ i (h : i + 1 < l.length), 1 ≤ dep l[i + 1] ∧ dep l[i + 1] ≤ dep l[i] + 1 ∧ (dep l[i] < dep l[i + 1] → l[i].1 ≠ [])
  high : ∀ i (h : i < l.length), 0 ≤ dep l[i] ∧ dep l[i] ≤ 15
theorem deep_of {l : List Nd} (h : ∀ j (h : j < l.length), ndE (prv l j) l[j] = 0) : Deep l := by
  refine ⟨fun h0 => ?_, fun i hi => ?_, fun i hi => depE_ok (ndE_dep (h i hi))⟩
  · have := ndE_dep (h 0 h0)
    have : (if dep l[0] ≠ 0 then (8 : Int) else 0) = 0 := this
    by_cases e : dep l[0] = 0
    · exact e
    · rw [if_pos e] at this; cases this
  · have := ndE_dep (h (i + 1) hi)
    rw [prv_succ (by omega)] at this
    have : (if dep l[i + 1] < 1 then (8 : Int) else if (if l[i].1 ≠ [] then dep l[i] + 1 else dep l[i]) < dep l[i + 1] then 8 else if 15 < dep l[i + 1] then 9 else 0) = 0 := this
    by_cases e1 : dep l[i + 1] < 1
    · rw [if_pos e1] at this; cases this
    rw [if_neg e1] at this
    by_cases e2 : (if l[i].1 ≠ [] then dep l[i] + 1 else dep l[i]) < dep l[i + 1]
    · rw [if_pos e2] at this; cases this
    by_cases e3 : l[i].1 = []
    · rw [if_neg (fun k => k e3)] at e2
      exact ⟨by omega, by omega, fun k => by omega⟩
    · rw [if_pos e3] at e2
      exact ⟨by omega, by omega, fun _ => e3⟩
/-- the parent of a node -/
def par (l : List Nd) (i j : Nat) : Prop := i < j ∧ j < l.length ∧ (∀ m, i < m → m ≤ j → dep (l.getD i ndz) < dep (l.getD m ndz)) ∧ dep (l.getD j ndz) = dep (l.getD i ndz) + 1
theorem par_one {l : List Nd} {i k j : Nat} (h1 : par l i j) (h2 : par l k j) : i = k := by
  have a := h1.2.2.2
  have b := h2.2.2.2
  rcases Nat.lt_trichotomy i k with h | h | h
  · have := h1.2.2.1 k h (Nat.le_of_lt h2.1); omega
  · exact h
  · have := h2.2.2.1 i h (Nat.le_of_lt h1.1); omega
theorem gD {l : List Nd} {i : Nat} (h : i < l.length) : l.getD i ndz = l[i] := by simp [List.getD, h]
theorem par_ex {l : List Nd} (hd : Deep l) {j : Nat} (hj : j < l.length) : ∀ n k, k + n = j → (∃ i, k ≤ i ∧ par l i j) ∨ ∀ m, k ≤ m → m ≤ j → dep (l.getD j ndz) ≤ dep (l.getD m ndz)
  | 0, k, hk => .inr fun m h1 h2 => by
    obtain rfl : m = j := by omega
    exact Int.le_refl _
  | n + 1, k, hk => by
    rcases par_ex hd hj n (k + 1) (by omega) with ⟨i, h1, h2⟩ | h
    · exact .inl ⟨i, by omega, h2⟩
    · by_cases e : dep (l.getD j ndz) ≤ dep (l.getD k ndz)
      · refine .inr fun m h1 h2 => ?_
        by_cases em : m = k
        · rw [em]; exact e
        · exact h m (by omega) h2
      · have h3 := h (k + 1) (Nat.le_refl _) (by omega)
        have h4 : dep (l.getD (k + 1) ndz) ≤ dep (l.getD k ndz) + 1 := by
          rw [gD (show k + 1 < l.length by omega), gD (show k < l.length by omega)]
          exact (hd.low k (by omega)).2.1
        refine .inl ⟨k, Nat.le_refl _, by omega, hj, fun m h1 h2 => ?_, by omega⟩
        have := h m (by omega) h2
        omega
theorem par_all {l : List Nd} (hd : Deep l) {j : Nat} (hj : j < l.length) (h1 : 1 ≤ j) : ∃ i, par l i j := by
  rcases par_ex hd hj j 0 (by omega) with ⟨i, _, h⟩ | h
  · exact ⟨i, h⟩
  · have h2 := h 0 (Nat.le_refl _) (by omega)
    obtain ⟨k, rfl⟩ : ∃ k, j = k + 1 := ⟨j - 1, by omega⟩
    have h3 := (hd.low k hj).1
    have h4 := hd.root (by omega)
    rw [gD hj, gD (show 0 < l.length by omega)] at h2
    omega
theorem chS_low (d : Int) : ∀ (r : List Nd) (k j : Nat), j < k → (chS d k r).count (j : Int) = 0
  | [], _, _, _ => rfl
  | n :: r, k, j, h => by
    have := chS_low d r (k + 1) j (by omega)
    unfold chS
    split
    · split
      · rw [List.count_cons, this]
        have : ((k : Int) == (j : Int)) = false := by simp; omega
        rw [this]
        rfl
      · exact this
    · rfl
theorem chS_count (d : Int) : ∀ (r : List Nd) (k j : Nat), k ≤ j → (chS d k r).count (j : Int) = if j - k < r.length ∧ (∀ m, m ≤ j - k → d < dep (r.getD m ndz)) ∧ dep (r.getD (j - k) ndz) = d + 1 then 1 else 0
  | [], k, j, h => by simp [chS]
  | n :: r, k, j, h => by
    unfold chS
    by_cases h1 : d < dep n
    · rw [if_pos h1]
      by_cases e : j = k
      · subst e
        have hz := chS_low d r (j + 1) j (by omega)
        rw [Nat.sub_self]
        have hi : (∀ m, m ≤ 0 → d < dep ((n :: r).getD m ndz)) := fun m hm => by
          obtain rfl : m = 0 := by omega
          exact h1
        have hg : (n :: r).getD 0 ndz = n := rfl
        rw [hg]
        by_cases h2 : dep n = d + 1
        · rw [if_pos h2, if_pos ⟨by simp, hi, h2⟩, List.count_cons, hz]
          simp
        · rw [if_neg h2, if_neg (fun k => h2 k.2.2), hz]
      · have ih := chS_count d r (k + 1) j (by omega)
        have hs : j - k = (j - (k + 1)) + 1 := by omega
        have hg : (n :: r).getD (j - k) ndz = r.getD (j - (k + 1)) ndz := by rw [hs]; rfl
        have hall : (∀ m, m ≤ j - k → d < dep ((n :: r).getD m ndz)) ↔ ∀ m, m ≤ j - (k + 1) → d < dep (r.getD m ndz) := by
          refine ⟨fun q m hm => q (m + 1) (by omega), fun q m hm => ?_⟩
          cases m with
          | zero => exact h1
          | succ m => exact q m (by omega)
        rw [hg]
        simp only [hall]
        have hlen : (j - k < (n :: r).length) ↔ (j - (k + 1) < r.length) := by rw [List.length_cons]; omega
        simp only [hlen]
        rw [← ih]
        by_cases h2 : dep n = d + 1
        · rw [if_pos h2, List.count_cons]
          have : ((k : Int) == (j : Int)) = false := by simp; omega
          rw [this]
          rfl
        · rw [if_neg h2]
    · rw [if_neg h1, if_neg (fun q => h1 (q.2.1 0 (by omega)))]
      rfl
theorem kids_count {l : List Nd} {i : Nat} (hi : i < l.length) (j : Nat) : (kids l (i : Int)).count (j : Int) = if par l i j then 1 else 0 := by
  unfold kids
  rw [if_neg (by omega), Int.toNat_natCast]
  by_cases h : i + 1 ≤ j
  · rw [chS_count _ _ _ _ h]
    have hg : ∀ m, (l.drop (i + 1)).getD m ndz = l.getD (i + 1 + m) ndz := fun m => by simp [List.getD]
    have e : (j - (i + 1) < (l.drop (i + 1)).length ∧ (∀ m, m ≤ j - (i + 1) → dep (l.getD i ndz) < dep ((l.drop (i + 1)).getD m ndz)) ∧ dep ((l.drop (i + 1)).getD (j - (i + 1)) ndz) = dep (l.getD i ndz) + 1) ↔ par l i j := by
      rw [List.length_drop]
      simp only [hg]
      have hj : i + 1 + (j - (i + 1)) = j := by omega
      rw [hj]
      refine ⟨fun q => ⟨by omega, by omega, fun m h1 h2 => ?_, q.2.2⟩, fun q => ⟨by have := q.2.1; omega, fun m hm => q.2.2.1 _ (by omega) (by omega), q.2.2.2⟩⟩
      have := q.2.1 (m - (i + 1)) (by omega)
      rwa [show i + 1 + (m - (i + 1)) = m by omega] at this
    by_cases hp : par l i j
    · rw [if_pos (e.2 hp), if_pos hp]
    · rw [if_neg (fun q => hp (e.1 q)), if_neg hp]
  · rw [chS_low _ _ _ _ (by omega), if_neg (fun q => h q.1)]
theorem chS_mem (d : Int) : ∀ (r : List Nd) (k : Nat) (z : Int), z ∈ chS d k r → ∃ m : Nat, z = (m : Int) ∧ k ≤ m ∧ m < k + r.length
  | [], _, _, h => by simp [chS] at h
  | n :: r, k, z, h => by
    unfold chS at h
    split at h
    · split at h
      · rcases List.mem_cons.1 h with h | h
        · exact ⟨k, h, Nat.le_refl _, by simp⟩
        · obtain ⟨m, h1, h2, h3⟩ := chS_mem d r (k + 1) z h
          exact ⟨m, h1, by omega, by simp; omega⟩
      · obtain ⟨m, h1, h2, h3⟩ := chS_mem d r (k + 1) z h
        exact ⟨m, h1, by omega, by simp; omega⟩
    · simp at h
theorem kids_mem {l : List Nd} {i : Nat} (hi : i < l.length) {z : Int} (h : z ∈ kids l (i : Int)) : ∃ m : Nat, z = (m : Int) ∧ par l i m := by
  have hc := h
  unfold kids at h
  rw [if_neg (by omega), Int.toNat_natCast] at h
  obtain ⟨m, h1, _, _⟩ := chS_mem _ _ _ _ h
  subst h1
  refine ⟨m, rfl, ?_⟩
  have := kids_count hi m
  have hp := List.count_pos_iff.2 hc
  by_cases e : par l i m
  · exact e
  · rw [if_neg e] at this
    omega
/-- one more for a place -/
def incr (t : List Int) (z : Int) : List Int := t.set z.toNat (t.getD z.toNat 0 + 1)
theorem incr_len (t : List Int) (z : Int) : (incr t z).length = t.length := by simp [incr]
theorem fold_len3 : ∀ (ks : List Int) (t : List Int), (ks.foldl incr t).length = t.length
  | [], _ => rfl
  | z :: ks, t => by rw [List.foldl_cons, fold_len3 ks, incr_len]
theorem incr_at (t : List Int) (m j : Nat) (h : m < t.length) : (incr t (m : Int)).getD j 0 = t.getD j 0 + if m = j then 1 else 0 := by
  unfold incr
  rw [Int.toNat_natCast]
  by_cases e : m = j
  · subst e
    simp [List.getD, h]
  · simp [List.getD, List.getElem?_set, e]
theorem fold_at (j : Nat) : ∀ (ks : List Int) (t : List Int), (∀ z ∈ ks, ∃ m : Nat, z = (m : Int) ∧ m < t.length) → (ks.foldl incr t).getD j 0 = t.getD j 0 + ((ks.count (j : Int) : Nat) : Int)
  | [], t, _ => by simp
  | z :: ks, t, h => by
    obtain ⟨m, rfl, hm⟩ := h z List.mem_cons_self
    rw [List.foldl_cons, fold_at j ks _ (fun y hy => by
      obtain ⟨q, h1, h2⟩ := h y (List.mem_cons_of_mem _ hy)
      exact ⟨q, h1, by rw [incr_len]; exact h2⟩), incr_at t m j hm, List.count_cons]
    by_cases e : m = j
    · subst e
      simp
      omega
    · have : ((m : Int) == (j : Int)) = false := by simp; omega
      rw [this, if_neg e]
      simp

theorem set_incr {t : List Int} {z : Int} (h : 0 ≤ z ∧ z < t.length) (hv : ∀ v ∈ t, 0 ≤ v ∧ v ≤ 1000) : lset t (toN z) (w64 (iadd (lget t (toN z) (0 : Int)) (1 : Int))) = incr t z := by
  obtain ⟨m, rfl⟩ : ∃ m : Nat, z = (m : Int) := ⟨z.toNat, by omega⟩
  have hm : m < t.length := by omega
  have hg := hv _ (List.getElem_mem hm)
  rw [lget_i hm]
  have : w64 (iadd t[m] 1) = t[m] + 1 := by
    simp only [iadd]
    rw [w64_id (by omega)]
  rw [this]
  unfold incr lset
  simp [toN, List.getD, hm]
theorem inner_loop {R : Type} {l : List Nd} {i : Nat} (hi : i < l.length) (hl : l.length ≤ 24) (hd : Deep l) (K : List Int → Option R) (bad : Option R) (t : List Int) (ht : t.length = l.length) (hv : ∀ v ∈ t, 0 ≤ v ∧ v + (l.length : Int) ≤ 1000) :
    fixN (fun v14 (v15 : Int × List Int) =>
              cnd (ilt v15.1 (len (kids l i)))
                (grd (inb v15.1 (len (kids l i)))
                  (cnd (ile (lget (kids l i) (toN v15.1) (0 : Int)) (i : Int))
                    bad
                    (grd (inb (i : Int) (len l))
                      (cnd (seq (lget l (toN (i : Int)) ([], ([], ([], (0 : Int))))).1 ([] : List UInt8))
                        bad
                        (grd (inb (lget (kids l i) (toN v15.1) (0 : Int)) (len l))
                          (grd (inb (i : Int) (len l))
                            (cnd (ine (lget l (toN (lget (kids l i) (toN v15.1) (0 : Int))) ([], ([], ([], (0 : Int))))).2.2.2 (w64 (iadd (lget l (toN (i : Int)) ([], ([], ([], (0 : Int))))).2.2.2 (1 : Int))))
                              bad
                              (grd (inb (lget (kids l i) (toN v15.1) (0 : Int)) (len v15.2))
                                (grd (inb (lget (kids l i) (toN v15.1) (0 : Int)) (len v15.2))
                                  (v14 (w64 (iadd v15.1 (1 : Int)), lset v15.2 (toN (lget (kids l i) (toN v15.1) (0 : Int))) (w64 (iadd (lget v15.2 (toN (lget (kids l i) (toN v15.1) (0 : Int))) (0 : Int)) (1 : Int))))))))))))))
                (K v15.2)) fuelH ((0 : Int), t) = K ((kids l i).foldl incr t) := by
  have hkl := kids_len l i
  generalize hks : kids l (i : Int) = ks at *
  have hmem : ∀ z ∈ ks, ∃ m : Nat, z = (m : Int) ∧ par l i m := fun z hz => kids_mem hi (by rw [hks]; exact hz)
  have h := drop_loop (s := ks) (fun (t : List Int) (j : Nat) => ((j : Int), t)) (fun t r => K (r.foldl incr t)) (fun j t => t.length = l.length ∧ ∀ v ∈ t, 0 ≤ v ∧ v + (ks.length : Int) ≤ 1000 + j)
    (F := fun v14 (v15 : Int × List Int) =>
              cnd (ilt v15.1 (len ks))
                (grd (inb v15.1 (len ks))
                  (cnd (ile (lget ks (toN v15.1) (0 : Int)) (i : Int))
                    bad
                    (grd (inb (i : Int) (len l))
                      (cnd (seq (lget l (toN (i : Int)) ([], ([], ([], (0 : Int))))).1 ([] : List UInt8))
                        bad
                        (grd (inb (lget ks (toN v15.1) (0 : Int)) (len l))
                          (grd (inb (i : Int) (len l))
                            (cnd (ine (lget l (toN (lget ks (toN v15.1) (0 : Int))) ([], ([], ([], (0 : Int))))).2.2.2 (w64 (iadd (lget l (toN (i : Int)) ([], ([], ([], (0 : Int))))).2.2.2 (1 : Int))))
                              bad
                              (grd (inb (lget ks (toN v15.1) (0 : Int)) (len v15.2))
                                (grd (inb (lget ks (toN v15.1) (0 : Int)) (len v15.2))
                                  (v14 (w64 (iadd v15.1 (1 : Int)), lset v15.2 (toN (lget ks (toN v15.1) (0 : Int))) (w64 (iadd (lget v15.2 (toN (lget ks (toN v15.1) (0 : Int))) (0 : Int)) (1 : Int))))))))))))))
                (K v15.2)) ?_ fuelH 0 t (fuelH_len (by omega) _) (Nat.zero_le _) ⟨ht, fun v hv' => by have := hv v hv'; omega⟩
  · exact h
  · intro self t j hj hI hself
    by_cases hjl : j < ks.length
    · have hw : w64 (iadd (j : Int) 1) = ((j + 1 : Nat) : Int) := w64_succ hjl (by omega)
      obtain ⟨m, hm, hp⟩ := hmem _ (List.getElem_mem hjl)
      have hp1 := hp.1
      have hp2 := hp.2.1
      have hg : inb (i : Int) (len l) = true := inb_t (by simp only [len]; omega)
      have hgm : inb (m : Int) (len l) = true := inb_t (by simp only [len]; omega)
      have hgt : inb (m : Int) (len t) = true := inb_t (by simp only [len]; omega)
      have hdi := hd.high i hi
      rw [List.drop_eq_getElem_cons hjl, List.foldl_cons]
      dsimp only
      rw [cnd_t (ilt_t (by simp only [len]; omega)), grd_t (inb_t (by simp only [len]; omega)), lget_i hjl, hm, cnd_f (ile_f (by omega)), grd_t hg, lgetn hi, lgetn hp2]
      have hname : l[i].1 ≠ [] := by
        have h1 := hp.2.2.1 (i + 1) (by omega) (by omega)
        rw [gD hi, gD (show i + 1 < l.length by omega)] at h1
        exact (hd.low i (by omega)).2.2 h1
      have hdm := hp.2.2.2
      rw [gD hi, gD hp2] at hdm
      replace hdm : l[m].2.2.2 = l[i].2.2.2 + 1 := hdm
      rw [cnd_f (by rw [seq_dec]; simpa using hname), grd_t hgm, grd_t hg]
      have hw2 : w64 (iadd l[i].2.2.2 1) = l[i].2.2.2 + 1 := by
        have : 0 ≤ l[i].2.2.2 ∧ l[i].2.2.2 ≤ 15 := hdi
        simp only [iadd]
        rw [w64_id (by omega)]
      rw [hw2, cnd_f (ine_f hdm), grd_t hgt, grd_t hgt, hw, set_incr ⟨by omega, by omega⟩ (fun v hv' => by have := hI.2 v hv'; omega)]
      refine hself (incr t (m : Int)) (j + 1) (by omega) (by omega) ⟨by rw [incr_len]; exact hI.1, fun v hv' => ?_⟩
      unfold incr at hv'
      rcases List.mem_or_eq_of_mem_set hv' with h1 | h1
      · have := hI.2 v h1; omega
      · have hmt : m < t.length := by omega
        have h2 : t.getD m 0 = t[m] := by simp [List.getD, hmt]
        have := hI.2 _ (List.getElem_mem hmt)
        rw [Int.toNat_natCast, h2] at h1
        omega
    · obtain rfl : j = ks.length := by omega
      dsimp only
      rw [cnd_f (ilt_f (by simp only [len]; omega)), List.drop_length]
      rfl
/-- whether a parent was met -/
def met (l : List Nd) (i j : Nat) : Int := if ∃ k, k < i ∧ par l k j then 1 else 0
theorem met_step (l : List Nd) (i j : Nat) : met l (i + 1) j = met l i j + if par l i j then 1 else 0 := by
  unfold met
  by_cases h : par l i j
  · have h1 : ¬ ∃ k, k < i ∧ par l k j := fun ⟨k, q1, q2⟩ => by have := par_one q2 h; omega
    rw [if_pos ⟨i, by omega, h⟩, if_neg h1, if_pos h]
    rfl
  · rw [if_neg h]
    by_cases h1 : ∃ k, k < i ∧ par l k j
    · obtain ⟨k, q1, q2⟩ := h1
      rw [if_pos ⟨k, by omega, q2⟩, if_pos ⟨k, q1, q2⟩]
      rfl
    · have h2 : ¬ ∃ k, k < i + 1 ∧ par l k j := fun ⟨k, q1, q2⟩ => by
        by_cases e : k = i
        · subst e; exact h q2
        · exact h1 ⟨k, by omega, q2⟩
      rw [if_neg h1, if_neg h2]
      rfl
theorem met_01 (l : List Nd) (i j : Nat) : 0 ≤ met l i j ∧ met l i j ≤ 1 := by unfold met; split <;> decide
theorem last_loop {t : List Int} (ht : t.length ≤ 24) (h : ∀ j (hj : j < t.length), t[j] = imin (j : Int) 1) :
    fixN (fun v6 (v7 : Int) =>
            cnd (ilt v7 (len t))
              (grd (inb v7 (len t))
                (cnd (ine (lget t (toN v7) (0 : Int)) (imin v7 (1 : Int)))
                  (some false)
                  (v6 (w64 (iadd v7 (1 : Int))))))
              (some true)) fuelH (0 : Int) = some true := by
  have h := drop_loop (s := t) (fun (_ : Unit) (j : Nat) => (j : Int)) (fun _ _ => some true) (fun _ _ => True)
    (F := fun v6 (v7 : Int) =>
            cnd (ilt v7 (len t))
              (grd (inb v7 (len t))
                (cnd (ine (lget t (toN v7) (0 : Int)) (imin v7 (1 : Int)))
                  (some false)
                  (v6 (w64 (iadd v7 (1 : Int))))))
              (some true)) ?_ fuelH 0 () (fuelH_len (by omega) _) (Nat.zero_le _) trivial
  · exact h
  · intro self a j hj _ hself
    by_cases hjl : j < t.length
    · have hw : w64 (iadd (j : Int) 1) = ((j + 1 : Nat) : Int) := w64_succ hjl (by omega)
      rw [cnd_t (ilt_t (by simp only [len]; omega)), grd_t (inb_t (by simp only [len]; omega)), lget_i hjl, cnd_f (ine_f (h j hjl)), hw]
      exact hself () (j + 1) (by omega) (by omega) trivial
    · obtain rfl : j = t.length := by omega
      rw [cnd_f (ilt_f (by simp only [len]; omega))]
theorem covers_true {x : List Nd} (hx : ∀ n ∈ x, (Lit.int .i64 n.2.2.2).wf = true) (hb : bkL wtN x + 1 + 0 ≤ 1048576) : l20_XmlCovers fuelH x = some true := by
  have hsm : ∀ n ∈ x.take 24, smN n := fun n hn => sm_of (l := x) (by omega) n (List.mem_of_mem_take hn)
  have hdp : ∀ n ∈ x.take 24, i64 (dep n) := fun n hn => wf_i64 (hx n (List.mem_of_mem_take hn))
  have hl : (x.take 24).length ≤ 24 := by rw [List.length_take]; omega
  unfold l20_XmlCovers
  rw [awake20, bnd_some', cnd_f (by rfl), few20, bnd_some', check_eq (by omega) hsm, bnd_some']
  generalize x.take 24 = l at *
  by_cases hc : chkE l = 0
  · obtain ⟨h0, _, hat⟩ := chk_at hc
    have hd := deep_of hat
    rw [cnd_f (ine_f hc), grd_t (show mkOk (len l) (len l) 8 = true from decide_eq_true (by simp only [len]; omega)), jn_e]
    have h := drop_loop (s := l) (fun (t : List Int) (i : Nat) => ((i : Int), t)) (fun _ _ => some true) (fun i t => t.length = l.length ∧ ∀ j, j < l.length → t.getD j 0 = met l i j)
      (F := fun v9 (v10 : Int × List Int) =>
          cnd (ilt v10.1 (len l))
            (jn (fun (v11 : List Int) =>
              v9 (w64 (iadd v10.1 (1 : Int)), v11))
            fun v12 =>
            bnd (xml_Children fuelH (l, v10.1)) fun v13 =>
            fixN (fun v14 (v15 : Int × List Int) =>
              cnd (ilt v15.1 (len v13))
                (grd (inb v15.1 (len v13))
                  (cnd (ile (lget v13 (toN v15.1) (0 : Int)) v10.1)
                    (some false)
                    (grd (inb v10.1 (len l))
                      (cnd (seq (lget l (toN v10.1) ([], ([], ([], (0 : Int))))).1 ([] : List UInt8))
                        (some false)
                        (grd (inb (lget v13 (toN v15.1) (0 : Int)) (len l))
                          (grd (inb v10.1 (len l))
                            (cnd (ine (lget l (toN (lget v13 (toN v15.1) (0 : Int))) ([], ([], ([], (0 : Int))))).2.2.2 (w64 (iadd (lget l (toN v10.1) ([], ([], ([], (0 : Int))))).2.2.2 (1 : Int))))
                              (some false)
                              (grd (inb (lget v13 (toN v15.1) (0 : Int)) (len v15.2))
                                (grd (inb (lget v13 (toN v15.1) (0 : Int)) (len v15.2))
                                  (v14 (w64 (iadd v15.1 (1 : Int)), lset v15.2 (toN (lget v13 (toN v15.1) (0 : Int))) (w64 (iadd (lget v15.2 (toN (lget v13 (toN v15.1) (0 : Int))) (0 : Int)) (1 : Int))))))))))))))
                (v12 v15.2)) fuelH ((0 : Int), v10.2))
            ((fun (v3 : List Int) =>
          jn (fun (v4 : Unit) =>
            some true)
          fun v5 =>
          fixN (fun v6 (v7 : Int) =>
            cnd (ilt v7 (len v3))
              (grd (inb v7 (len v3))
                (cnd (ine (lget v3 (toN v7) (0 : Int)) (imin v7 (1 : Int)))
                  (some false)
                  (v6 (w64 (iadd v7 (1 : Int))))))
              (v5 ())) fuelH (0 : Int)) v10.2)) ?_ fuelH 0 (lrep (toN (len l)) (0 : Int)) (fuelH_len (by omega) _) (Nat.zero_le _) ⟨by simp [lrep, toN, len], fun j hj => ?_⟩
    · exact h
    · intro self t i hi hI hself
      by_cases hil : i < l.length
      · have hw : w64 (iadd (i : Int) 1) = ((i + 1 : Nat) : Int) := w64_succ hil (by omega)
        have hv : ∀ v ∈ t, 0 ≤ v ∧ v + (l.length : Int) ≤ 1000 := fun v hv => by
          obtain ⟨j, hj, rfl⟩ := List.mem_iff_getElem.1 hv
          have h1 := hI.2 j (by omega)
          have h2 : t.getD j 0 = t[j] := by simp [List.getD, hj]
          have h3 := met_01 l i j
          omega
        dsimp only
        rw [cnd_t (ilt_t (by simp only [len]; omega)), jn_e, (kids_eq (by omega) hdp i).1, bnd_some']
        refine Eq.trans (inner_loop hil hl hd (fun t => self (w64 (iadd (i : Int) 1), t)) (some false) t hI.1 hv) ?_
        rw [hw]
        refine hself _ (i + 1) (by omega) (by omega) ⟨by rw [fold_len3]; exact hI.1, fun j hj => ?_⟩
        rw [fold_at j _ _ (fun z hz => by
          obtain ⟨m, h1, h2⟩ := kids_mem hil hz
          exact ⟨m, h1, by rw [hI.1]; exact h2.2.1⟩), hI.2 j hj, kids_count hil, met_step]
        congr 1
        split <;> rfl
      · obtain rfl : i = l.length := by omega
        dsimp only
        rw [cnd_f (ilt_f (by simp only [len]; omega)), jn_e]
        refine last_loop (by omega) fun j hj => ?_
        have h1 := hI.2 j (by omega)
        have h2 : t.getD j 0 = t[j] := by simp [List.getD, hj]
        rw [← h2, h1]
        unfold met imin
        by_cases e : j = 0
        · subst e
          rw [if_neg (fun ⟨k, _, q⟩ => by have := q.1; omega)]
          rfl
        · obtain ⟨k, hk⟩ := par_all hd (show j < l.length by omega) (by omega)
          rw [if_pos ⟨k, by have := hk.1; omega, hk⟩]
          omega
    · unfold met
      rw [if_neg (fun ⟨k, q, _⟩ => by omega)]
      simp [lrep, toN, len, List.getD, hj]
  · rw [cnd_t (ine_t hc)]
end
end Go.Mo
end
