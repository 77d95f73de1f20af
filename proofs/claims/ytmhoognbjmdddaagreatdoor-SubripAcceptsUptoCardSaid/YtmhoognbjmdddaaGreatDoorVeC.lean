/-
  Texts put together, in build order: UB UC UM UN UO UP US UV UX UY.
-/
import Derived.Test.YtmhoognbjmdddaaGreatDoorVeB
import Derived.Test.YtmhoognbjmdddaaGreatDoorVeA
import Derived.Test.YtmhoognbjmdddaaGreatDoorZC
import Derived.KernelRfl
import Derived.Lib.ValidLaws
import Derived.Lib.TrimUEq
import Derived.Lib.MapLaws
import Derived.Lib.IndexMore
set_option linter.all false

section
/-
  Plain facts of earlier chapters, put together by a program.
-/
set_option linter.all false
section
/-
  Plain facts on the words of models; what is made of bytes.
-/
namespace Go.Mo
open Go Go.W

theorem grd_t {α : Type} {b : Bool} {k : Option α} (h : b = true) : grd b k = k := by subst h; rfl
theorem cnd_t {α : Type} {b : Bool} {x y : Option α} (h : b = true) : cnd b x y = x := by subst h; rfl
theorem cnd_f {α : Type} {b : Bool} {x y : Option α} (h : b = false) : cnd b x y = y := by subst h; rfl
theorem bnd_s {α β : Type} {x : Option α} {a : α} {k : α → Option β} (h : x = some a) : bnd x k = k a := by subst h; rfl
theorem jn_e {F α : Type} {k : F} {t : F → Option α} : jn k t = t k := rfl
theorem fixN_s {V R : Type} {F : (V → Option R) → V → Option R} {n : Nat} {v : V} : fixN F (n + 1) v = F (fixN F n) v := rfl
theorem w64_id {x : Int} (h : -9223372036854775808 ≤ x ∧ x ≤ 9223372036854775807) : w64 x = x := by
  show IntKind.wrap .i64 x = x
  unfold IntKind.wrap
  simp only [IntKind.bits, IntKind.signed, Bool.true_and, decide_eq_true_eq, show (2 : Int) ^ 64 = 18446744073709551616 from rfl, show (2 : Int) ^ (64 - 1) = 9223372036854775808 from rfl]
  split <;> omega
theorem ilt_t {a b : Int} (h : a < b) : ilt a b = true := decide_eq_true h
theorem ilt_f {a b : Int} (h : ¬ a < b) : ilt a b = false := decide_eq_false h
theorem ile_t {a b : Int} (h : a ≤ b) : ile a b = true := decide_eq_true h
theorem ile_f {a b : Int} (h : ¬ a ≤ b) : ile a b = false := decide_eq_false h
theorem ieq_t {a b : Int} (h : a = b) : ieq a b = true := by subst h; simp [ieq]
theorem ieq_f {a b : Int} (h : a ≠ b) : ieq a b = false := by simp [ieq, h]
theorem ine_t {a b : Int} (h : a ≠ b) : ine a b = true := by simp [ine, h]
theorem ine_f {a b : Int} (h : a = b) : ine a b = false := by simp [ine, h]
theorem inb_t {i n : Int} (h : 0 ≤ i ∧ i < n) : inb i n = true := decide_eq_true h
theorem in2_t {i n : Int} (h : 0 ≤ i ∧ i ≤ n) : in2 i n = true := decide_eq_true h
theorem room_t {n : Int} {b : Nat} (h : n * b ≤ 140737488355328) : room n b = true := decide_eq_true h
theorem n8_inj {a b : UInt8} (h : n8 a = n8 b) : a = b := by
  unfold n8 at h
  apply UInt8.toNat_inj.1
  omega
end Go.Mo
end

section
/-
  Plain facts: rates, labels, the repertoire of characters.
-/
namespace Go.Mo
open Go Go.W
set_option maxRecDepth 100000

theorem all_u8 {P : UInt8 → Bool} (h : ((List.range 256).all fun n => P (UInt8.ofNat n)) = true) (x : UInt8) : P x = true := by
  have h1 : x.toNat < 256 := x.toNat_lt
  have := List.all_eq_true.1 h x.toNat (List.mem_range.2 h1)
  simpa using this
end Go.Mo
end

section
/-
  Plain facts: the repertoire of characters.
-/
namespace Go.Mo
open Go Go.W
set_option maxRecDepth 100000
/-- some number: the kernel does not know which -/
noncomputable def fuelM : Nat := Classical.choose (⟨7995000, rfl⟩ : ∃ n : Nat, n = 7995000)
noncomputable def fuelH : Nat := fuelM + 5000
theorem fuelH_eq : fuelH = 8000000 := by
  have h : fuelM = 7995000 := Classical.choose_spec (⟨7995000, rfl⟩ : ∃ n : Nat, n = 7995000)
  unfold fuelH
  rw [h]
/-- the characters behind ASCII -/
def hiRunes : List Int := [161, 162, 163, 164, 165, 166, 167, 169, 171, 174, 176, 183, 187, 189, 191, 192, 193, 194, 195, 196, 197, 198, 199, 200, 201, 202, 203, 204, 205, 206, 207, 209, 210, 211, 212, 213, 214, 216, 217, 218, 219, 220, 223, 224, 225, 226, 227, 228, 229, 230, 231, 232, 233, 234, 235, 236, 237, 238, 239, 241, 242, 243, 244, 245, 246, 248, 249, 250, 251, 252, 338, 339, 8212, 8216, 8217, 8220, 8221, 8226, 8230, 8482, 9834]
def loRunes : List Int := (List.range 95).map fun n => ((n + 32 : Nat) : Int)
def chain : List Int → Int → Int → Option Int
  | [], _, _ => some (-1)
  | c :: l, i, r => cnd (ieq c r) (some i) (chain l (iadd i 1) r)
def rep : List UInt8 := [32, 33, 34, 35, 36, 37, 38, 39, 40, 41, 42, 43, 44, 45, 46, 47, 48, 49, 50, 51, 52, 53, 54, 55, 56, 57, 58, 59, 60, 61, 62, 63, 64, 65, 66, 67, 68, 69, 70, 71, 72, 73, 74, 75, 76, 77, 78, 79, 80, 81, 82, 83, 84, 85, 86, 87, 88, 89, 90, 91, 92, 93, 94, 95, 96, 97, 98, 99, 100, 101, 102, 103, 104, 105, 106, 107, 108, 109, 110, 111, 112, 113, 114, 115, 116, 117, 118, 119, 120, 121, 122, 123, 124, 125, 126, 194, 161, 194, 162, 194, 163, 194, 164, 194, 165, 194, 166, 194, 167, 194, 169, 194, 171, 194, 174, 194, 176, 194, 183, 194, 187, 194, 189, 194, 191, 195, 128, 195, 129, 195, 130, 195, 131, 195, 132, 195, 133, 195, 134, 195, 135, 195, 136, 195, 137, 195, 138, 195, 139, 195, 140, 195, 141, 195, 142, 195, 143, 195, 145, 195, 146, 195, 147, 195, 148, 195, 149, 195, 150, 195, 152, 195, 153, 195, 154, 195, 155, 195, 156, 195, 159, 195, 160, 195, 161, 195, 162, 195, 163, 195, 164, 195, 165, 195, 166, 195, 167, 195, 168, 195, 169, 195, 170, 195, 171, 195, 172, 195, 173, 195, 174, 195, 175, 195, 177, 195, 178, 195, 179, 195, 180, 195, 181, 195, 182, 195, 184, 195, 185, 195, 186, 195, 187, 195, 188, 197, 146, 197, 147, 226, 128, 148, 226, 128, 152, 226, 128, 153, 226, 128, 156, 226, 128, 157, 226, 128, 162, 226, 128, 166, 226, 132, 162, 226, 153, 170]
theorem place_eqN (N : Nat) (r : Int) : charset_place (N + 300) (rep, r) = chain (loRunes ++ hiRunes) 0 r := by kernel_rfl
theorem place_eq (r : Int) : charset_place fuelH (rep, r) = chain (loRunes ++ hiRunes) 0 r := place_eqN (fuelM + 4700) r
theorem r08_indexN (N : Nat) (r : Int) : r08_Index N r = cnd (ile 32 r) (cnd (ile r 126) (some (w64 (wr .i32 (isub r 32)))) (charset_place N (rep, r))) (charset_place N (rep, r)) := by kernel_rfl
theorem r08_index (r : Int) : r08_Index fuelH r = cnd (ile 32 r) (cnd (ile r 126) (some (w64 (wr .i32 (isub r 32)))) (charset_place fuelH (rep, r))) (charset_place fuelH (rep, r)) := r08_indexN fuelH r
theorem ch_indexN (N : Nat) (r : Int) : charset_Index N r = cnd (ile 32 r) (cnd (ile r 126) (some (w64 (wr .i32 (isub r 32)))) (bnd (charset_place N (rep, r)) fun v => some v)) (bnd (charset_place N (rep, r)) fun v => some v) := by kernel_rfl
theorem ch_index (r : Int) : charset_Index fuelH r = cnd (ile 32 r) (cnd (ile r 126) (some (w64 (wr .i32 (isub r 32)))) (bnd (charset_place fuelH (rep, r)) fun v => some v)) (bnd (charset_place fuelH (rep, r)) fun v => some v) := ch_indexN fuelH r
theorem chain_ok : ∀ (l : List Int) (i r : Int), 0 ≤ i → ∃ k, chain l i r = some k ∧ (k < 0 ↔ l.contains r = false)
  | [], i, r, _ => ⟨-1, rfl, by simp⟩
  | c :: l, i, r, h => by
    by_cases hc : c = r
    · exact ⟨i, by simp only [chain]; rw [cnd_t (ieq_t hc)], by subst hc; simp; omega⟩
    · obtain ⟨k, h1, h2⟩ := chain_ok l (iadd i 1) r (by show 0 ≤ i + 1; omega)
      refine ⟨k, by simp only [chain]; rw [cnd_f (ieq_f hc)]; exact h1, ?_⟩
      rw [h2]
      simp only [List.contains_cons, Bool.or_eq_false_iff]
      exact ⟨fun h => ⟨by simpa using fun e => hc e.symm, h⟩, fun h => h.2⟩
def inRep (r : Int) : Bool := (decide (32 ≤ r) && decide (r ≤ 126)) || hiRunes.contains r
theorem wi32_id {x : Int} (h : 0 ≤ x ∧ x < 1000) : wr .i32 x = x := by
  show IntKind.wrap .i32 x = x
  unfold IntKind.wrap
  simp only [IntKind.bits, IntKind.signed, Bool.true_and, decide_eq_true_eq, show (2 : Int) ^ 32 = 4294967296 from rfl, show (2 : Int) ^ (32 - 1) = 2147483648 from rfl]
  split <;> omega
theorem lo_mem (r : Int) : loRunes.contains r = (decide (32 ≤ r) && decide (r ≤ 126)) := by
  rw [Bool.eq_iff_iff]
  simp only [loRunes, List.contains_iff_mem, List.mem_map, List.mem_range, Bool.and_eq_true, decide_eq_true_eq]
  constructor
  · rintro ⟨n, hn, rfl⟩; omega
  · intro h; exact ⟨(r - 32).toNat, by omega, by omega⟩
theorem index_some (r : Int) : ∃ i, charset_Index fuelH r = some i ∧ r08_Index fuelH r = some i ∧ (i < 0 ↔ inRep r = false) := by
  rw [ch_index, r08_index, place_eq]
  obtain ⟨k, h1, h2⟩ := chain_ok (loRunes ++ hiRunes) 0 r (Int.le_refl _)
  have hin : (loRunes ++ hiRunes).contains r = inRep r := by
    unfold inRep
    rw [← lo_mem]
    simp [List.contains_eq_mem, List.mem_append]
  rw [hin] at h2
  by_cases ha : 32 ≤ r
  · rw [cnd_t (ile_t ha), cnd_t (ile_t ha)]
    by_cases hb : r ≤ 126
    · rw [cnd_t (ile_t hb), cnd_t (ile_t hb)]
      refine ⟨_, rfl, rfl, ?_⟩
      have : w64 (wr .i32 (isub r 32)) = r - 32 := by
        simp only [isub]
        rw [wi32_id (by omega), w64_id (by omega)]
      rw [this]
      simp [inRep, ha, hb]
    · rw [cnd_f (ile_f hb), cnd_f (ile_f hb)]
      exact ⟨k, by rw [bnd_s h1], h1, h2⟩
  · rw [cnd_f (ile_f ha), cnd_f (ile_f ha)]
    exact ⟨k, by rw [bnd_s h1], h1, h2⟩
theorem index_stl (r : Int) : ∃ i, charset_Index fuelH r = some i ∧ (i < 0 ↔ inRep r = false) := by
  rw [ch_index, place_eq]
  obtain ⟨k, h1, h2⟩ := chain_ok (loRunes ++ hiRunes) 0 r (Int.le_refl _)
  have hin : (loRunes ++ hiRunes).contains r = inRep r := by
    unfold inRep
    rw [← lo_mem]
    simp [List.contains_eq_mem, List.mem_append]
  rw [hin] at h2
  by_cases ha : 32 ≤ r
  · rw [cnd_t (ile_t ha)]
    by_cases hb : r ≤ 126
    · rw [cnd_t (ile_t hb)]
      refine ⟨_, rfl, ?_⟩
      have : w64 (wr .i32 (isub r 32)) = r - 32 := by
        simp only [isub]
        rw [wi32_id (by omega), w64_id (by omega)]
      rw [this]
      simp [inRep, ha, hb]
    · rw [cnd_f (ile_f hb)]
      exact ⟨k, by rw [bnd_s h1], h2⟩
  · rw [cnd_f (ile_f ha)]
    exact ⟨k, by rw [bnd_s h1], h2⟩
end Go.Mo
end

section
/-
  Plain facts: texts of the repertoire.
-/
namespace Go.Mo
open Go Go.W Go.Lib
set_option maxRecDepth 100000

theorem dec_pos (l : List UInt8) : 1 ≤ (decodeL l).2 := by
  unfold decodeL Utf8.decode
  simp only
  repeat' split
  all_goals first | exact Nat.le_refl _ | (show 1 ≤ _; omega)
theorem decR_eq (s : List UInt8) (p : Nat) : decR s p = ((decodeL (s.drop p)).1 : Int) := by
  have := decodeL_drop (bst s) p
  have e : (bst s).data.toList = s := rfl
  rw [e] at this
  unfold decR
  rw [this]
theorem decW_eq (s : List UInt8) (p : Nat) : decW s p = (decodeL (s.drop p)).2 := by
  have := decodeL_drop (bst s) p
  have e : (bst s).data.toList = s := rfl
  rw [e] at this
  unfold decW
  rw [this]

def rok : Nat → List UInt8 → Bool
  | 0, _ => true
  | n + 1, l => if l = [] then true else if inRep ((decodeL l).1 : Int) = true then rok n (l.drop (decodeL l).2) else false
/-- characters of the repertoire alone -/
def vld (l : List UInt8) : Bool := rok l.length l
theorem rok_nil : ∀ n, rok n [] = true
  | 0 => rfl
  | n + 1 => by simp [rok]
theorem rok_fuel : ∀ (n m : Nat) (l : List UInt8), l.length ≤ n → l.length ≤ m → rok n l = rok m l
  | 0, m, l, h, _ => by
    have : l = [] := List.eq_nil_of_length_eq_zero (by omega)
    subst this
    rw [rok_nil, rok_nil]
  | n + 1, 0, l, _, h => by
    have : l = [] := List.eq_nil_of_length_eq_zero (by omega)
    subst this
    rw [rok_nil, rok_nil]
  | n + 1, m + 1, l, h1, h2 => by
    by_cases hl : l = []
    · subst hl; rw [rok_nil, rok_nil]
    · have hp := dec_pos l
      have hlen : 0 < l.length := List.length_pos_iff.2 hl
      simp only [rok, hl, if_false]
      split
      · exact rok_fuel n m _ (by simp; omega) (by simp; omega)
      · rfl
theorem vld_step (l : List UInt8) (hl : l ≠ []) : vld l = if inRep ((decodeL l).1 : Int) = true then vld (l.drop (decodeL l).2) else false := by
  have hp := dec_pos l
  have hlen : 0 < l.length := List.length_pos_iff.2 hl
  unfold vld
  obtain ⟨n, hn⟩ : ∃ n, l.length = n + 1 := ⟨l.length - 1, by omega⟩
  rw [hn]
  simp only [rok, hl, if_false]
  split
  · exact rok_fuel _ _ _ (by simp; omega) (Nat.le_refl _)
  · rfl
theorem vld_valid : ∀ (n : Nat) (l : List UInt8), l.length ≤ n → vld l = true → validD l = true
  | n, l, h, hv => by
    by_cases hl : l = []
    · subst hl; rfl
    · have hlen : 0 < l.length := List.length_pos_iff.2 hl
      have hp := dec_pos l
      rw [vld_step l hl] at hv
      split at hv
      · rename_i hr
        rw [validD_step l hl, if_neg ?_]
        · cases n with
          | zero => omega
          | succ n => exact vld_valid n _ (by simp; omega) hv
        · rintro ⟨e, _⟩
          rw [e] at hr
          exact absurd hr (by decide)
      · cases hv

theorem valid_loop {s : List UInt8} (hs : s.length ≤ 100000000) (Ix : Int → Option Int) (hI : ∀ r : Int, ∃ i, Ix r = some i ∧ (i < 0 ↔ inRep r = false)) : ∀ (fuel p : Nat), s.length - p < fuel → p ≤ s.length →
    fixN (fun v2 (v3 : (List UInt8) × Int) =>
    cnd (nlt (toN v3.2) (nlen v3.1))
      (bnd (Ix (decR v3.1 (toN v3.2))) fun v4 =>
      cnd (ilt v4 (0 : Int))
        (some false)
        (v2 (v3.1, ofN (nadd (toN v3.2) (decW v3.1 (toN v3.2))))))
      (some true)) fuel (s, ofN p) = some (vld (s.drop p))
  | 0, p, h, _ => by omega
  | fuel + 1, p, h, hp => by
    rw [fixN_s]
    have et : toN (ofN p) = p := by simp [toN, ofN]
    simp only [et]
    by_cases hl : p < s.length
    · have hne : s.drop p ≠ [] := by intro e; have := congrArg List.length e; simp at this; omega
      have hw := dec_pos (s.drop p)
      have hle := decodeL_le (s.drop p) hne
      rw [List.length_drop] at hle
      rw [cnd_t (show nlt p (nlen s) = true from decide_eq_true hl)]
      obtain ⟨i, h1, h2⟩ := hI (decR s p)
      rw [bnd_s h1]
      rw [vld_step _ hne, ← decR_eq]
      by_cases hi : i < 0
      · rw [cnd_t (ilt_t hi), if_neg (by rw [h2.1 hi]; decide)]
      · rw [cnd_f (ilt_f hi)]
        have hin : inRep (decR s p) = true := by
          cases hq : inRep (decR s p) with
          | true => rfl
          | false => exact absurd (h2.2 hq) hi
        rw [if_pos hin, decW_eq, List.drop_drop]
        show fixN _ fuel (s, ofN (p + (decodeL (s.drop p)).2)) = _
        exact valid_loop hs Ix hI fuel _ (by omega) (by omega)
    · rw [cnd_f (show nlt p (nlen s) = false from decide_eq_false hl)]
      have : s.drop p = [] := by simp; omega
      rw [this]
      rfl
theorem r08_valid (s : List UInt8) (hs : s.length ≤ 4000000) : r08_Valid fuelH s = some (vld s) := by
  unfold r08_Valid
  simp only [jn_e]
  have := valid_loop (s := s) (by omega) (r08_Index fuelH) (fun r => by obtain ⟨i, _, h2, h3⟩ := index_some r; exact ⟨i, h2, h3⟩) fuelH 0 (by have := fuelH_eq; omega) (Nat.zero_le _)
  simpa using this
theorem ch_valid (s : List UInt8) (hs : s.length ≤ 4000000) : charset_Valid fuelH s = some (vld s) := by
  unfold charset_Valid
  have hv : utf8_ValidString fuelH s = some (validD s) := by
    show grd (catOk (len s)) (some (validD s)) = _
    exact grd_t (decide_eq_true (by simp only [len]; omega))
  rw [bnd_s hv]
  simp only [jn_e]
  cases hd : validD s with
  | false =>
    rw [cnd_t (show bnot false = true from rfl)]
    cases hq : vld s with
    | false => rfl
    | true => rw [vld_valid _ s (Nat.le_refl _) hq] at hd; cases hd
  | true =>
    rw [cnd_f (show bnot true = false from rfl)]
    have := valid_loop (s := s) (by omega) (charset_Index fuelH) (fun r => by obtain ⟨i, h2, h3⟩ := index_stl r; exact ⟨i, h2, h3⟩) fuelH 0 (by have := fuelH_eq; omega) (Nat.zero_le _)
    simpa using this
end Go.Mo
end

section
/-
  Plain facts: names; the check of a header.
-/
namespace Go.Mo
open Go Go.W Go.Lib
set_option maxRecDepth 100000

theorem cnd_dec {α : Type} {p : Prop} [Decidable p] {x y : Option α} : cnd (decide p) x y = if p then x else y := by
  by_cases h : p
  · rw [cnd_t (decide_eq_true h), if_pos h]
  · rw [cnd_f (decide_eq_false h), if_neg h]
theorem cnd_ilt {α : Type} {a b : Int} {x y : Option α} : cnd (ilt a b) x y = if a < b then x else y := cnd_dec
theorem cnd_ile {α : Type} {a b : Int} {x y : Option α} : cnd (ile a b) x y = if a ≤ b then x else y := cnd_dec
theorem cnd_ieq {α : Type} {a b : Int} {x y : Option α} : cnd (ieq a b) x y = if a = b then x else y := by
  by_cases h : a = b
  · rw [cnd_t (ieq_t h), if_pos h]
  · rw [cnd_f (ieq_f h), if_neg h]
theorem cnd_ine {α : Type} {a b : Int} {x y : Option α} : cnd (ine a b) x y = if a ≠ b then x else y := by
  by_cases h : a = b
  · rw [cnd_f (ine_f h), if_neg (by simp [h])]
  · rw [cnd_t (ine_t h), if_pos h]
/-- may stand in a name -/
def okc (c : Int) : Bool := decide ((65 ≤ c ∧ c ≤ 90) ∨ (48 ≤ c ∧ c ≤ 57) ∨ c = 95 ∨ c = 45)
theorem nm_body (c : Int) (X : Option Bool) :
    (cnd (ilt c (n8 (65 : UInt8)))
                    (cnd (ilt c (n8 (48 : UInt8)))
                      (cnd (ine c (n8 (95 : UInt8)))
                        (cnd (ine c (n8 (45 : UInt8)))
                          (some false)
                          X)
                        X)
                      (cnd (ilt (n8 (57 : UInt8)) c)
                        (cnd (ine c (n8 (95 : UInt8)))
                          (cnd (ine c (n8 (45 : UInt8)))
                            (some false)
                            X)
                          X)
                        X))
                    (cnd (ilt (n8 (90 : UInt8)) c)
                      (cnd (ilt c (n8 (48 : UInt8)))
                        (cnd (ine c (n8 (95 : UInt8)))
                          (cnd (ine c (n8 (45 : UInt8)))
                            (some false)
                            X)
                          X)
                        (cnd (ilt (n8 (57 : UInt8)) c)
                          (cnd (ine c (n8 (95 : UInt8)))
                            (cnd (ine c (n8 (45 : UInt8)))
                              (some false)
                              X)
                            X)
                          X))
                      X)) = cnd (okc c) X (some false) := by
  have e1 : n8 (65 : UInt8) = 65 := rfl
  have e2 : n8 (48 : UInt8) = 48 := rfl
  have e3 : n8 (95 : UInt8) = 95 := rfl
  have e4 : n8 (45 : UInt8) = 45 := rfl
  have e5 : n8 (57 : UInt8) = 57 := rfl
  have e6 : n8 (90 : UInt8) = 90 := rfl
  rw [e1, e2, e3, e4, e5, e6]
  simp only [cnd_ilt, cnd_ine, okc, cnd_dec]
  repeat' split
  all_goals first | rfl | (exfalso; omega)
def upc (c : Int) : Bool := decide (65 ≤ c ∧ c ≤ 90)
/-- a name -/
def nm (s : List UInt8) : Bool := decide (1 ≤ s.length ∧ s.length ≤ 16) && upc (n8 (s.getD 0 0)) && s.all fun c => okc (n8 c)
theorem all_step {s : List UInt8} {i : Nat} (h : i < s.length) (P : UInt8 → Bool) : (s.drop i).all P = (P s[i] && (s.drop (i + 1)).all P) := by
  rw [List.drop_eq_getElem_cons h, List.all_cons]
theorem nm_loop {s : List UInt8} (hs : s.length ≤ 16) : ∀ (fuel i : Nat), s.length - i < fuel → i ≤ s.length →
    fixN (fun v2 (v3 : Int) =>
                cnd (ilt v3 (len s))
                  (grd (inb v3 (len s)) (cnd (okc (n8 (lget s (toN v3) (0 : UInt8)))) (v2 (w64 (iadd v3 (1 : Int)))) (some false)))
                  (some true)) fuel (i : Int) = some ((s.drop i).all fun c => okc (n8 c))
  | 0, i, h, _ => by omega
  | fuel + 1, i, h, hi => by
    rw [fixN_s]
    by_cases hl : i < s.length
    · have g : lget s (toN (i : Int)) 0 = s[i] := by simp [lget, toN, hl]
      rw [cnd_t (ilt_t (by simp only [len]; omega)), grd_t (inb_t (by simp only [len]; omega)), g, all_step hl]
      have hw : w64 (iadd (i : Int) 1) = ((i + 1 : Nat) : Int) := by
        simp only [iadd]; rw [w64_id (by omega)]; omega
      rw [hw, nm_loop hs fuel (i + 1) (by omega) (by omega)]
      cases okc (n8 s[i]) <;> rfl
    · rw [cnd_f (ilt_f (by simp only [len]; omega))]
      have : s.drop i = [] := by simp; omega
      rw [this]
      rfl
theorem lines_name (s : List UInt8) : lines_Name fuelH s = some (nm s) := by
  unfold lines_Name
  simp only [jn_e, nm_body]
  by_cases h1 : s.length < 1
  · rw [cnd_t (ilt_t (by simp only [len]; omega))]
    simp [nm]; omega
  · rw [cnd_f (ilt_f (by simp only [len]; omega))]
    by_cases h2 : 16 < s.length
    · rw [cnd_t (ilt_t (by simp only [len]; omega))]
      simp [nm]; omega
    · rw [cnd_f (ilt_f (by simp only [len]; omega)), grd_t (inb_t (by simp only [len]; omega))]
      have e0 : lget s (toN 0) 0 = s.getD 0 0 := rfl
      have e1 : n8 (65 : UInt8) = 65 := rfl
      have e2 : n8 (90 : UInt8) = 90 := rfl
      rw [e0, e1, e2, cnd_ilt]
      have hd : decide (1 ≤ s.length ∧ s.length ≤ 16) = true := decide_eq_true (by omega)
      split
      · rename_i h3
        have : upc (n8 (s.getD 0 0)) = false := decide_eq_false (by omega)
        simp only [nm, this, Bool.and_false, Bool.false_and]
      · rw [grd_t (inb_t (by simp only [len]; omega)), cnd_ilt]
        split
        · rename_i h4
          have : upc (n8 (s.getD 0 0)) = false := decide_eq_false (by omega)
          simp only [nm, this, Bool.and_false, Bool.false_and]
        · have hu : upc (n8 (s.getD 0 0)) = true := decide_eq_true (by omega)
          have := nm_loop (s := s) (by omega) fuelH 0 (by have := fuelH_eq; omega) (Nat.zero_le _)
          simp only [nm, hu, hd, Bool.true_and]
          simpa using this
end Go.Mo
end

section
/-
  Plain facts: the check of a header.
-/
namespace Go.Mo
open Go Go.W Go.Lib
set_option maxRecDepth 100000
abbrev Lbl := Int × Int × Int × Int × Bool
abbrev Hdr := UInt8 × (List UInt8) × (List UInt8) × Int × Int × Lbl × Lbl × Int × Int
theorem cnd_bnot {α : Type} {p : Prop} [Decidable p] {x y : Option α} : cnd (bnot (decide p)) x y = if p then y else x := by
  by_cases hp : p <;> simp [hp, bnot, cnd]
theorem bnd_some' {α β : Type} {a : α} {k : α → Option β} : bnd (some a) k = k a := rfl
end Go.Mo
end

section
/-
  Plain facts: the characters of a text, and the text of characters.
-/
namespace Go.Mo
open Go Go.W Go.Lib
set_option maxRecDepth 100000

def rnsF : Nat → List UInt8 → List Int
  | 0, _ => []
  | n + 1, l => if l = [] then [] else ((decodeL l).1 : Int) :: rnsF n (l.drop (decodeL l).2)
/-- the characters of a text -/
def rns (l : List UInt8) : List Int := rnsF l.length l
/-- the text of characters -/
def ofR (l : List Int) : List UInt8 := l.flatMap enc
theorem rnsF_nil : ∀ n, rnsF n [] = []
  | 0 => rfl
  | n + 1 => by simp [rnsF]
theorem rnsF_fuel : ∀ (n m : Nat) (l : List UInt8), l.length ≤ n → l.length ≤ m → rnsF n l = rnsF m l
  | 0, m, l, h, _ => by
    have : l = [] := List.eq_nil_of_length_eq_zero (by omega)
    subst this
    rw [rnsF_nil, rnsF_nil]
  | n + 1, 0, l, _, h => by
    have : l = [] := List.eq_nil_of_length_eq_zero (by omega)
    subst this
    rw [rnsF_nil, rnsF_nil]
  | n + 1, m + 1, l, h1, h2 => by
    by_cases hl : l = []
    · subst hl; rw [rnsF_nil, rnsF_nil]
    · have hp := dec_pos l
      have hlen : 0 < l.length := List.length_pos_iff.2 hl
      simp only [rnsF, hl, if_false]
      rw [rnsF_fuel n m _ (by simp; omega) (by simp; omega)]
theorem rns_step (l : List UInt8) (hl : l ≠ []) : rns l = ((decodeL l).1 : Int) :: rns (l.drop (decodeL l).2) := by
  have hp := dec_pos l
  have hlen : 0 < l.length := List.length_pos_iff.2 hl
  unfold rns
  obtain ⟨n, hn⟩ : ∃ n, l.length = n + 1 := ⟨l.length - 1, by omega⟩
  rw [hn]
  simp only [rnsF, hl, if_false]
  rw [rnsF_fuel n _ _ (by simp; omega) (Nat.le_refl _)]
theorem rep_mem {r : Int} (h : inRep r = true) : r ∈ loRunes ++ hiRunes := by
  unfold inRep at h
  rw [← lo_mem, Bool.or_eq_true] at h
  rw [List.mem_append]
  rcases h with h | h
  · exact .inl (List.contains_iff_mem.1 h)
  · exact .inr (List.contains_iff_mem.1 h)
theorem all_rep {P : Int → Bool} (h : ((loRunes ++ hiRunes).all P) = true) {r : Int} (hr : inRep r = true) : P r = true :=
  List.all_eq_true.1 h r (rep_mem hr)
theorem enc_rep {r : Int} (hr : inRep r = true) : enc r = encodeRune r :=
  of_decide_eq_true (all_rep (P := fun r => decide (enc r = encodeRune r)) (by kernel_rfl) hr)
theorem enc_dec (l : List UInt8) (hl : l ≠ []) (hr : inRep ((decodeL l).1 : Int) = true) : enc ((decodeL l).1 : Int) = l.take (decodeL l).2 := by
  rw [enc_rep hr]
  refine encode_decode l hl ?_
  rintro ⟨e, _⟩
  rw [e] at hr
  exact absurd hr (by decide)
theorem rns_rep : ∀ (n : Nat) (l : List UInt8), l.length ≤ n → vld l = true → (rns l).all inRep = true ∧ ofR (rns l) = l
  | n, l, h, hv => by
    by_cases hl : l = []
    · subst hl; exact ⟨rfl, rfl⟩
    · have hlen : 0 < l.length := List.length_pos_iff.2 hl
      have hp := dec_pos l
      rw [vld_step l hl] at hv
      split at hv
      · rename_i hr
        cases n with
        | zero => omega
        | succ n =>
          obtain ⟨h1, h2⟩ := rns_rep n _ (by simp; omega) hv
          rw [rns_step l hl]
          refine ⟨by rw [List.all_cons, hr, h1]; rfl, ?_⟩
          unfold ofR at h2 ⊢
          rw [List.flatMap_cons, h2, enc_dec l hl hr, List.take_append_drop]
      · cases hv
theorem rns_ok {l : List UInt8} (h : vld l = true) : (rns l).all inRep = true := (rns_rep _ l (Nat.le_refl _) h).1
theorem ofR_rns {l : List UInt8} (h : vld l = true) : ofR (rns l) = l := (rns_rep _ l (Nat.le_refl _) h).2
theorem rns_len : ∀ (n : Nat) (l : List UInt8), l.length ≤ n → (rns l).length ≤ l.length
  | n, l, h => by
    by_cases hl : l = []
    · subst hl; exact Nat.le_refl _
    · have hlen : 0 < l.length := List.length_pos_iff.2 hl
      have hp := dec_pos l
      rw [rns_step l hl]
      cases n with
      | zero => omega
      | succ n =>
        have := rns_len n (l.drop (decodeL l).2) (by simp; omega)
        simp at this ⊢
        omega

def foldR {σ R : Type} (g : Int → σ → (σ → Option R) → Option R) (e : σ → Option R) : List Int → σ → Option R
  | [], a => e a
  | r :: l, a => g r a fun a' => foldR g e l a'
/-- a loop over the characters of a text -/
theorem str_loop {V R σ : Type} {F : (V → Option R) → V → Option R} {s : List UInt8} (st : σ → Nat → V) (g : Int → σ → (σ → Option R) → Option R) (e : σ → Option R)
    (hstep : ∀ self a p, p < s.length → F self (st a p) = g (decR s p) a fun a' => self (st a' (p + decW s p)))
    (hend : ∀ self a p, s.length ≤ p → F self (st a p) = e a) : ∀ (fuel p : Nat) (a : σ), s.length - p < fuel → fixN F fuel (st a p) = foldR g e (rns (s.drop p)) a
  | 0, p, a, h => by omega
  | fuel + 1, p, a, h => by
    rw [fixN_s]
    by_cases hp : p < s.length
    · have hne : s.drop p ≠ [] := by intro e; have := congrArg List.length e; simp at this; omega
      have hw := dec_pos (s.drop p)
      rw [hstep _ _ _ hp, rns_step _ hne, ← decR_eq, foldR, List.drop_drop, ← decW_eq]
      congr 1
      funext a'
      rw [decW_eq]
      have := str_loop st g e hstep hend fuel (p + (decodeL (s.drop p)).2) a' (by omega)
      exact this
    · rw [hend _ _ _ (by omega)]
      have : s.drop p = [] := by simp; omega
      rw [this]
      rfl
def foldI {α σ R : Type} (g : Nat → α → σ → (σ → Option R) → Option R) (e : σ → Option R) : Nat → List α → σ → Option R
  | _, [], a => e a
  | i, x :: l, a => g i x a fun a' => foldI g e (i + 1) l a'
/-- a loop over the elements of a list -/
theorem lst_loop {V R σ α : Type} {F : (V → Option R) → V → Option R} {l : List α} (st : σ → Nat → V) (g : Nat → α → σ → (σ → Option R) → Option R) (e : σ → Option R)
    (hstep : ∀ self a i (h : i < l.length), F self (st a i) = g i l[i] a fun a' => self (st a' (i + 1)))
    (hend : ∀ self a, F self (st a l.length) = e a) : ∀ (fuel i : Nat) (a : σ), i ≤ l.length → l.length - i < fuel → fixN F fuel (st a i) = foldI g e i (l.drop i) a
  | 0, i, a, _, h => by omega
  | fuel + 1, i, a, hi, h => by
    rw [fixN_s]
    by_cases hl : i < l.length
    · rw [hstep _ _ _ hl, List.drop_eq_getElem_cons hl, foldI]
      congr 1
      funext a'
      exact lst_loop st g e hstep hend fuel (i + 1) a' (by omega) (by omega)
    · obtain rfl : i = l.length := by omega
      rw [hend, List.drop_length]
      rfl
theorem w64_succ {i n : Nat} (h : i < n) (hn : n ≤ 9223372036854775807) : w64 (iadd (i : Int) 1) = ((i + 1 : Nat) : Int) := by
  simp only [iadd]; rw [w64_id (by omega)]; omega
theorem lget_i {α : Type} {l : List α} {i : Nat} {d : α} (h : i < l.length) : lget l (toN (i : Int)) d = l[i] := by simp [lget, toN, h]
theorem nlt_t {a b : Nat} (h : a < b) : nlt a b = true := decide_eq_true h
theorem nlt_f {a b : Nat} (h : ¬ a < b) : nlt a b = false := decide_eq_false h
theorem toN_ofN (n : Nat) : toN (ofN n) = n := by simp [toN, ofN]
end Go.Mo
end

section
/-
  Plain facts: the characters of the tape form.
-/
namespace Go.Mo
open Go Go.W Go.Lib
set_option maxRecDepth 100000

end Go.Mo
end

section
/-
  Plain facts: texts in the characters of the tape form.
-/
namespace Go.Mo
open Go Go.W Go.Lib
set_option maxRecDepth 100000

theorem snoc_fold {R : Type} (k : List Int → Option R) : ∀ (l out : List Int), out.length + l.length ≤ 100000000 →
    foldR (fun r out self => grd (room (iadd (len out) (len [r])) 4) (self (lapp out [r]))) k l out = k (out ++ l)
  | [], out, _ => by simp [foldR]
  | r :: l, out, h => by
    simp only [List.length_cons] at h
    rw [foldR, grd_t (room_t (by simp [iadd, len]; omega))]
    show foldR _ _ _ (lapp out [r]) = _
    rw [snoc_fold k l _ (by simp [lapp]; omega)]
    simp [lapp]
theorem r08_runes_eq {s : List UInt8} (hs : s.length ≤ 4000000) : r08_runes fuelH s = some (rns s) := by
  unfold r08_runes
  rw [jn_e]
  rw [show (([] : List Int), s, ofN 0) = (fun (a : List Int) (p : Nat) => (a, s, ofN p)) [] 0 from rfl]
  refine (str_loop (s := s) (fun (a : List Int) (p : Nat) => (a, s, ofN p)) (fun r out self => grd (room (iadd (len out) (len [r])) 4) (self (lapp out [r]))) (fun out => some out) (fun self a p hp => ?_) (fun self a p hp => ?_) fuelH 0 [] (by have := fuelH_eq; omega)).trans ?_
  · simp only [toN_ofN]
    rw [cnd_t (nlt_t (show p < nlen s from hp))]
    rfl
  · simp only [toN_ofN]
    rw [cnd_f (nlt_f (show ¬ p < nlen s by unfold nlen; omega))]
  · have := rns_len _ s (Nat.le_refl _)
    rw [List.drop_zero, snoc_fold _ _ _ (by simp; omega)]
    rfl
end Go.Mo
end

section
/-
  Small plain facts: bytes, lengths, equality of texts.
-/
namespace Go.Mo
open Go Go.W Go.Lib
set_option maxRecDepth 100000
noncomputable section
theorem catOk_t {n : Int} (h : n ≤ 9223372036854775807) : catOk n = true := decide_eq_true h
theorem enc_len {r : Int} (hr : inRep r = true) : (enc r).length ≤ 4 :=
  of_decide_eq_true (all_rep (P := fun r => decide ((enc r).length ≤ 4)) (by kernel_rfl) hr)
theorem seq_dec (x y : List UInt8) : seq x y = decide (x = y) := by
  unfold seq
  by_cases h : x = y
  · subst h; simp
  · rw [decide_eq_false h]
    simpa using h
end
end Go.Mo
end

section
/-
  Plain facts: characters of the tape form read back.
-/
namespace Go.Mo
open Go Go.W Go.Lib
set_option maxRecDepth 100000
noncomputable section

end
end Go.Mo
end

section
/-
  Plain facts: rates, names, on both sides.
-/
namespace Go.Mo
open Go Go.W Go.Lib
set_option maxRecDepth 100000
noncomputable section
theorem valid_tab : ((List.range 256).all fun n => decide (timebase_Valid 0 (UInt8.ofNat n) = r02_Valid 0 (UInt8.ofNat n) ∧ timebase_CanDrop 0 (UInt8.ofNat n) = r02_CanDrop 0 (UInt8.ofNat n) ∧ True)) = true := by kernel_rfl
theorem rate_eq (N : Nat) (r : UInt8) : timebase_Valid N r = r02_Valid N r ∧ timebase_CanDrop N r = r02_CanDrop N r ∧ True :=
  of_decide_eq_true (all_u8 (P := fun r => decide (timebase_Valid 0 r = r02_Valid 0 r ∧ timebase_CanDrop 0 r = r02_CanDrop 0 r ∧ True)) valid_tab r)
theorem digit_eq (N : Nat) (c : UInt8) : r07_digit N c = some (decide (48 ≤ n8 c ∧ n8 c ≤ 57)) := by
  unfold r07_digit
  have e1 : n8 (48 : UInt8) = 48 := rfl
  have e2 : n8 (57 : UInt8) = 57 := rfl
  rw [e1, e2, cnd_ile]
  split
  · simp only [ile, Option.some.injEq, decide_eq_decide]; omega
  · simp only [Option.some.injEq]; exact (decide_eq_false (by omega)).symm
/-- one round -/
theorem r07_body {s : List UInt8} {i : Nat} (h : i < s.length) (X : Option Bool) (N : Nat) :
    (grd (inb (i : Int) (len s)) <|
          cnd (ile (n8 (65 : UInt8)) (n8 (lget s (toN (i : Int)) (0 : UInt8))))
            (grd (inb (i : Int) (len s))
              ((fun (v4 : Bool) =>
            cnd (bnot v4)
              (cnd (ieq (i : Int) (0 : Int))
                (some false)
                (grd (inb (i : Int) (len s))
                  (bnd (r07_digit N (lget s (toN (i : Int)) (0 : UInt8))) fun v5 =>
                  cnd (bnot v5)
                    (grd (inb (i : Int) (len s))
                      (cnd (ine (n8 (lget s (toN (i : Int)) (0 : UInt8))) (n8 (95 : UInt8)))
                        (grd (inb (i : Int) (len s))
                          (cnd (ine (n8 (lget s (toN (i : Int)) (0 : UInt8))) (n8 (45 : UInt8)))
                            (some false)
                            X))
                        X))
                    X)))
              X) (ile (n8 (lget s (toN (i : Int)) (0 : UInt8))) (n8 (90 : UInt8)))))
            ((fun (v4 : Bool) =>
            cnd (bnot v4)
              (cnd (ieq (i : Int) (0 : Int))
                (some false)
                (grd (inb (i : Int) (len s))
                  (bnd (r07_digit N (lget s (toN (i : Int)) (0 : UInt8))) fun v5 =>
                  cnd (bnot v5)
                    (grd (inb (i : Int) (len s))
                      (cnd (ine (n8 (lget s (toN (i : Int)) (0 : UInt8))) (n8 (95 : UInt8)))
                        (grd (inb (i : Int) (len s))
                          (cnd (ine (n8 (lget s (toN (i : Int)) (0 : UInt8))) (n8 (45 : UInt8)))
                            (some false)
                            X))
                        X))
                    X)))
              X) false)) = if upc (n8 s[i]) = true then X else if i = 0 then some false else if okc (n8 s[i]) = true then X else some false := by
  have hb : inb (i : Int) (len s) = true := inb_t (by simp only [len]; omega)
  have g : lget s (toN (i : Int)) 0 = s[i] := by simp [lget, toN, h]
  have e1 : n8 (65 : UInt8) = 65 := rfl
  have e2 : n8 (90 : UInt8) = 90 := rfl
  have e3 : n8 (95 : UInt8) = 95 := rfl
  have e4 : n8 (45 : UInt8) = 45 := rfl
  simp only [grd_t hb, g, e1, e2, e3, e4]
  rw [bnd_s (digit_eq N s[i])]
  generalize n8 s[i] = c
  have hi : ((i : Int) = 0) ↔ i = 0 := by omega
  have b1 : ∀ (p : Prop) [Decidable p] (x y : Option Bool), cnd (bnot (decide p)) x y = if p then y else x := fun p _ x y => by
    by_cases hp : p <;> simp [hp, bnot, cnd]
  have b2 : ∀ x y : Option Bool, cnd (bnot false) x y = x := fun _ _ => rfl
  simp only [cnd_ile, cnd_ieq, cnd_ine, cnd_dec, ile, b1, b2, upc, okc, decide_eq_true_eq, hi]
  repeat' split
  all_goals first | rfl | (exfalso; omega)
theorem r07_name (s : List UInt8) : r07_Name fuelH s = some (nm s) := by
  unfold r07_Name
  by_cases h1 : s.length < 1
  · rw [cnd_t (ilt_t (by simp only [len]; omega))]
    simp [nm]; omega
  · rw [cnd_f (ilt_f (by simp only [len]; omega))]
    by_cases h2 : 16 < s.length
    · rw [cnd_t (ilt_t (by simp only [len]; omega))]
      simp [nm]; omega
    · rw [cnd_f (ilt_f (by simp only [len]; omega))]
      simp only [jn_e]
      have hd : decide (1 ≤ s.length ∧ s.length ≤ 16) = true := decide_eq_true (by omega)
      have loop : ∀ (fuel i : Nat), s.length - i < fuel → i ≤ s.length → fixN (fun v2 (v3 : Int) =>
        cnd (ilt v3 (len s))
          (grd (inb v3 (len s)) <|
          cnd (ile (n8 (65 : UInt8)) (n8 (lget s (toN v3) (0 : UInt8))))
            (grd (inb v3 (len s))
              ((fun (v4 : Bool) =>
            cnd (bnot v4)
              (cnd (ieq v3 (0 : Int))
                (some false)
                (grd (inb v3 (len s))
                  (bnd (r07_digit fuelH (lget s (toN v3) (0 : UInt8))) fun v5 =>
                  cnd (bnot v5)
                    (grd (inb v3 (len s))
                      (cnd (ine (n8 (lget s (toN v3) (0 : UInt8))) (n8 (95 : UInt8)))
                        (grd (inb v3 (len s))
                          (cnd (ine (n8 (lget s (toN v3) (0 : UInt8))) (n8 (45 : UInt8)))
                            (some false)
                            (v2 (w64 (iadd v3 (1 : Int))))))
                        (v2 (w64 (iadd v3 (1 : Int))))))
                    (v2 (w64 (iadd v3 (1 : Int)))))))
              (v2 (w64 (iadd v3 (1 : Int))))) (ile (n8 (lget s (toN v3) (0 : UInt8))) (n8 (90 : UInt8)))))
            ((fun (v4 : Bool) =>
            cnd (bnot v4)
              (cnd (ieq v3 (0 : Int))
                (some false)
                (grd (inb v3 (len s))
                  (bnd (r07_digit fuelH (lget s (toN v3) (0 : UInt8))) fun v5 =>
                  cnd (bnot v5)
                    (grd (inb v3 (len s))
                      (cnd (ine (n8 (lget s (toN v3) (0 : UInt8))) (n8 (95 : UInt8)))
                        (grd (inb v3 (len s))
                          (cnd (ine (n8 (lget s (toN v3) (0 : UInt8))) (n8 (45 : UInt8)))
                            (some false)
                            (v2 (w64 (iadd v3 (1 : Int))))))
                        (v2 (w64 (iadd v3 (1 : Int))))))
                    (v2 (w64 (iadd v3 (1 : Int)))))))
              (v2 (w64 (iadd v3 (1 : Int))))) false))
          (some true)) fuel (i : Int) = some (bif decide (i = 0) then upc (n8 (s.getD 0 0)) && s.all (fun c => okc (n8 c)) else (s.drop i).all fun c => okc (n8 c)) := by
        intro fuel
        induction fuel with
        | zero => intro i h; omega
        | succ fuel ih =>
          intro i h hi
          rw [fixN_s]
          by_cases hl : i < s.length
          · rw [cnd_t (ilt_t (by simp only [len]; omega)), r07_body hl]
            have hw : w64 (iadd (i : Int) 1) = ((i + 1 : Nat) : Int) := by
              simp only [iadd]; rw [w64_id (by omega)]; omega
            rw [hw, ih (i + 1) (by omega) (by omega)]
            have hup : upc (n8 s[i]) = true → okc (n8 s[i]) = true := fun h => by
              have := of_decide_eq_true h
              exact decide_eq_true (.inl this)
            have e0 : decide (i + 1 = 0) = false := decide_eq_false (by omega)
            simp only [e0, cond_false]
            by_cases hz : i = 0
            · subst hz
              have g0 : s.getD 0 0 = s[0] := by simp [hl]
              have hs : s.all (fun c => okc (n8 c)) = (okc (n8 s[0]) && (s.drop 1).all fun c => okc (n8 c)) := by
                have := all_step (s := s) (i := 0) hl (fun c => okc (n8 c))
                simpa using this
              simp only [decide_true, cond_true, if_true, g0, hs]
              cases hu : upc (n8 s[0]) with
              | true => simp [hup hu]
              | false => simp
            · have : decide (i = 0) = false := decide_eq_false hz
              simp only [this, cond_false, hz, if_false, all_step hl]
              cases hu : upc (n8 s[i]) with
              | true => simp [hup hu]
              | false => cases okc (n8 s[i]) <;> simp
          · rw [cnd_f (ilt_f (by simp only [len]; omega))]
            have hz : decide (i = 0) = false := decide_eq_false (by omega)
            have : s.drop i = [] := by simp; omega
            rw [hz, this]
            rfl
      have := loop fuelH 0 (by have := fuelH_eq; omega) (Nat.zero_le _)
      simp only [decide_true, cond_true] at this
      simp only [nm, hd, Bool.true_and]
      exact this
end
end Go.Mo
end

section
/-
  Plain facts: rows of text, their check, their normal form.
-/
namespace Go.Mo
open Go Go.W Go.Lib
set_option maxRecDepth 100000
abbrev Sty := UInt8 × Bool × Bool
abbrev Run := List UInt8 × Sty × List UInt8
abbrev Row := List Run

theorem cnd_ite {α : Type} {b : Bool} {x y : Option α} : cnd b x y = if b = true then x else y := by cases b <;> rfl
theorem bnot_t {b : Bool} : (bnot b = true) = (b = false) := by cases b <;> simp [bnot]
theorem seq_t {a b : List UInt8} : (seq a b = true) = (a = b) := by rw [seq_dec]; simp
theorem ieq_tt {a b : Int} : (ieq a b = true) = (a = b) := by simp [ieq]
theorem ine_tt {a b : Int} : (ine a b = true) = (a ≠ b) := by simp [ine]
theorem ilt_tt {a b : Int} : (ilt a b = true) = (a < b) := by simp [ilt]
theorem beqb_t {a b : Bool} : (beqb a b = true) = (a = b) := by simp [beqb]
theorem band_tt {a b : Bool} : (band a b = true) = (a = true ∧ b = true) := by simp [band]
theorem n8_eq {a b : UInt8} : (n8 a = n8 b) = (a = b) := propext ⟨n8_inj, fun h => by rw [h]⟩
theorem w64_pred {i : Nat} (h : 0 < i) (hn : i ≤ 9223372036854775807) : w64 (isub (i : Int) 1) = ((i - 1 : Nat) : Int) := by
  simp only [isub]; rw [w64_id (by omega)]; omega
theorem w64_back {i : Nat} (hn : i < 9223372036854775807) : w64 (isub ((i + 1 : Nat) : Int) 1) = (i : Int) := by
  rw [w64_pred (Nat.succ_pos i) (by omega)]; rfl
theorem sty_eq {a b : Sty} : (a = b) = (a.1 = b.1 ∧ a.2.1 = b.2.1 ∧ a.2.2 = b.2.2) := by
  obtain ⟨a1, a2, a3⟩ := a; obtain ⟨b1, b2, b3⟩ := b; simp

def alikeP (a b : Run) : Prop := a.2.1 = b.2.1 ∧ a.2.2 = [] ∧ b.2.2 = []
instance (a b : Run) : Decidable (alikeP a b) := by unfold alikeP; infer_instance
/-- a run that follows another one -/
def runChk (p : Option Run) (x : Run) : Int :=
  if vld x.1 = false then 10 else if x.1 = [] then 4 else if ¬ n8 x.2.1.1 ≤ 6 then 12 else if vld x.2.2 = false then 10 else match p with
    | none => 0
    | some p => if alikeP p x then 8 else 0
def chkL : Option Run → List Run → Int
  | _, [] => 0
  | p, x :: r => if runChk p x ≠ 0 then runChk p x else chkL (some x) r
def rowChk (l : Row) : Int := if 16 < l.length then 9 else chkL none l
def shortR (l : Row) : Prop := ∀ x ∈ l, x.1.length ≤ 4000000 ∧ x.2.2.length ≤ 4000000
/-- the element ahead -/
def before {α : Type} (l : List α) : Nat → Option α
  | 0 => none
  | i + 1 => l[i]?
theorem foldI_chk (l : Row) : ∀ (r : List Run) (i : Nat), l.drop i = r → i ≤ l.length → foldI (fun i (x : Run) (_ : Unit) self => if runChk (before l i) x ≠ 0 then some (runChk (before l i) x) else self ()) (fun _ => some (0 : Int)) i r () = some (chkL (before l i) r)
  | [], i, _, _ => rfl
  | x :: r, i, h, hi => by
    have hx : l[i]? = some x := by rw [← List.head?_drop, h]; rfl
    have hr : l.drop (i + 1) = r := by rw [← List.drop_drop, h]; rfl
    have hl : i < l.length := (List.getElem?_eq_some_iff.1 hx).1
    simp only [foldI, chkL]
    rw [foldI_chk l r (i + 1) hr (by omega)]
    have e : before l (i + 1) = some x := hx
    rw [e]
    by_cases hc : runChk (before l i) x ≠ 0
    · rw [if_pos hc, if_pos hc]
    · rw [if_neg hc, if_neg hc]
theorem style_alike_eq (N : Nat) (a b : Run) : style_alike N (a, b) = some (decide (alikeP a b)) := by
  unfold style_alike
  simp only [cnd_ite, band_tt, ieq_tt, beqb_t, n8_eq, seq_dec, decide_eq_true_eq]
  by_cases h1 : a.2.1.1 = b.2.1.1 ∧ a.2.1.2.1 = b.2.1.2.1 ∧ a.2.1.2.2 = b.2.1.2.2
  · rw [if_pos h1]
    have : a.2.1 = b.2.1 := by rw [sty_eq]; exact h1
    by_cases h2 : a.2.2 = []
    · rw [if_pos h2]; simp [alikeP, this, h2]
    · rw [if_neg h2]; simp [alikeP, h2]
  · rw [if_neg h1]
    have : ¬ a.2.1 = b.2.1 := by rw [sty_eq]; exact h1
    simp [alikeP, this]
theorem style_check {l : Row} (hl : shortR l) : style_Check fuelH l = some (rowChk l) := by
  unfold style_Check
  by_cases h : 16 < l.length
  · rw [cnd_t (ilt_t (by simp only [len]; omega))]; simp [rowChk, h]
  · rw [cnd_f (ilt_f (by simp only [len]; omega)), jn_e]
    refine Eq.trans (lst_loop (l := l) (fun (_ : Unit) (p : Nat) => (p : Int)) (fun i (x : Run) (_ : Unit) self => if runChk (before l i) x ≠ 0 then some (runChk (before l i) x) else self ()) (fun _ => some (0 : Int)) (fun self a i hi => ?_) (fun self a => ?_) fuelH 0 () (Nat.zero_le _) (by have := fuelH_eq; omega)) ?_
    · rw [cnd_t (ilt_t (by simp only [len]; omega)), grd_t (inb_t (by simp only [len]; omega)), lget_i hi]
      obtain ⟨b1, b2⟩ := hl l[i] (List.getElem_mem hi)
      rw [bnd_s (ch_valid _ b1), bnd_s (show style_Valid fuelH l[i].2.1 = some (ile (n8 l[i].2.1.1) 6) from rfl), bnd_s (ch_valid _ b2)]
      simp only [cnd_ite, bnot_t, seq_t, ile, decide_eq_false_iff_not]
      rw [w64_succ hi (by omega)]
      cases i with
      | zero =>
        have e0 : before l 0 = none := rfl
        rw [e0, if_neg (show ¬ ilt (0 : Int) ((0 : Nat) : Int) = true by decide)]
        simp only [runChk]
        repeat' split
        all_goals first | rfl | (exfalso; omega) | simp_all
      | succ i =>
        have e0 : before l (i + 1) = some l[i] := by simp only [before]; exact List.getElem?_eq_getElem (by omega)
        rw [e0, if_pos (show ilt (0 : Int) ((i + 1 : Nat) : Int) = true from ilt_t (by omega)), w64_back (by omega), grd_t (inb_t (by simp only [len]; omega)), lget_i (show i < l.length by omega), bnd_s (style_alike_eq _ _ _)]
        simp only [runChk, decide_eq_true_eq]
        repeat' split
        all_goals first | rfl | (exfalso; omega) | simp_all
    · rw [cnd_f (ilt_f (by simp only [len]; omega))]
    · rw [List.drop_zero, foldI_chk l l 0 rfl (Nat.zero_le _)]
      simp [rowChk, h, before]
theorem r09_check {l : Row} (hl : shortR l) : r09_Check fuelH l = some (rowChk l) := by
  unfold r09_Check
  by_cases h : 16 < l.length
  · rw [cnd_t (ilt_t (by simp only [len]; omega))]; simp [rowChk, h]
  · rw [cnd_f (ilt_f (by simp only [len]; omega)), jn_e]
    refine Eq.trans (lst_loop (l := l) (fun (_ : Unit) (p : Nat) => (p : Int)) (fun i (x : Run) (_ : Unit) self => if runChk (before l i) x ≠ 0 then some (runChk (before l i) x) else self ()) (fun _ => some (0 : Int)) (fun self a i hi => ?_) (fun self a => ?_) fuelH 0 () (Nat.zero_le _) (by have := fuelH_eq; omega)) ?_
    · rw [cnd_t (ilt_t (by simp only [len]; omega)), grd_t (inb_t (by simp only [len]; omega)), lget_i hi]
      obtain ⟨b1, b2⟩ := hl l[i] (List.getElem_mem hi)
      rw [bnd_s (r08_valid _ b1), bnd_s (show r09_Valid fuelH l[i].2.1 = some (ile (n8 l[i].2.1.1) 6) from rfl), bnd_s (r08_valid _ b2)]
      simp only [cnd_ite, bnot_t, seq_t, ile, decide_eq_false_iff_not]
      rw [w64_succ hi (by omega)]
      cases i with
      | zero =>
        have e0 : before l 0 = none := rfl
        rw [e0, if_neg (show ¬ ilt (0 : Int) ((0 : Nat) : Int) = true by decide)]
        simp only [runChk]
        repeat' split
        all_goals first | rfl | (exfalso; omega) | simp_all
      | succ i =>
        have e0 : before l (i + 1) = some l[i] := by simp only [before]; exact List.getElem?_eq_getElem (by omega)
        have hin : inb ((i : Nat) : Int) (len l) = true := inb_t (by simp only [len]; omega)
        rw [e0, if_pos (show ilt (0 : Int) ((i + 1 : Nat) : Int) = true from ilt_t (by omega)), w64_back (by omega), grd_t hin, grd_t hin, lget_i (show i < l.length by omega)]
        simp only [runChk, alikeP, band_tt, ieq_tt, beqb_t, n8_eq, ← sty_eq]
        repeat' split
        all_goals first | rfl | (exfalso; omega) | simp_all
    · rw [cnd_f (ilt_f (by simp only [len]; omega))]
    · rw [List.drop_zero, foldI_chk l l 0 rfl (Nat.zero_le _)]
      simp [rowChk, h, before]
end Go.Mo
end

section
/-
  Plain facts: loops with an invariant; the normal form of a row.
-/
namespace Go.Mo
open Go Go.W Go.Lib
set_option maxRecDepth 100000

def itI {α σ R : Type} (f : Nat → α → σ → Option R ⊕ σ) (e : σ → Option R) : Nat → List α → σ → Option R
  | _, [], a => e a
  | i, x :: l, a => match f i x a with
    | .inl r => r
    | .inr a' => itI f e (i + 1) l a'
/-- one round: it ends with r, or goes on -/
def Rnd {V R σ : Type} (X : Option R) (self : V → Option R) (next : σ → V) (I : σ → Prop) : Option R ⊕ σ → Prop
  | .inl r => X = r
  | .inr a => X = self (next a) ∧ I a
theorem lst_it {V R σ α : Type} {F : (V → Option R) → V → Option R} {l : List α} (st : σ → Nat → V) (f : Nat → α → σ → Option R ⊕ σ) (e : σ → Option R) (I : Nat → σ → Prop)
    (hstep : ∀ self a i (h : i < l.length), I i a → Rnd (F self (st a i)) self (fun a => st a (i + 1)) (I (i + 1)) (f i l[i] a))
    (hend : ∀ self a, I l.length a → F self (st a l.length) = e a) : ∀ (fuel i : Nat) (a : σ), i ≤ l.length → l.length - i < fuel → I i a → fixN F fuel (st a i) = itI f e i (l.drop i) a
  | 0, i, a, _, h, _ => by omega
  | fuel + 1, i, a, hi, h, hI => by
    rw [fixN_s]
    by_cases hl : i < l.length
    · rw [List.drop_eq_getElem_cons hl, itI]
      have hs := hstep (fixN F fuel) a i hl hI
      cases hf : f i l[i] a with
      | inl r => rw [hf] at hs; exact hs
      | inr a' =>
        rw [hf] at hs
        rw [hs.1]
        exact lst_it st f e I hstep hend fuel (i + 1) a' (by omega) (by omega) hs.2
    · obtain rfl : i = l.length := by omega
      rw [hend _ _ hI, List.drop_length]
      rfl
theorem itI_fold {α σ R : Type} (f : α → σ → σ) (e : σ → Option R) : ∀ (i : Nat) (l : List α) (a : σ), itI (fun _ x a => .inr (f x a)) e i l a = e (l.foldl (fun a x => f x a) a)
  | _, [], _ => rfl
  | i, x :: l, a => by simp only [itI, List.foldl_cons]; exact itI_fold f e (i + 1) l (f x a)

def snoc (out : Row) (x : Run) : Row :=
  if x.1 = [] then out else match out.getLast? with
    | some p => if alikeP p x then out.dropLast ++ [(p.1 ++ x.1, p.2)] else out ++ [x]
    | none => out ++ [x]
def normR (l : Row) : Row := l.foldl snoc []
/-- the letters of a row -/
def tot : Row → Nat
  | [] => 0
  | x :: r => x.1.length + tot r
theorem tot_app (a b : Row) : tot (a ++ b) = tot a + tot b := by
  induction a with
  | nil => simp [tot]
  | cons x a ih => simp only [List.cons_append, tot, ih]; omega
theorem last_eq {l : Row} {p : Run} (h : l.getLast? = some p) : l = l.dropLast ++ [p] := by
  cases l with
  | nil => cases h
  | cons x l =>
    rw [List.getLast?_eq_some_getLast (List.cons_ne_nil x l)] at h
    injection h with h
    rw [← h]
    exact (List.dropLast_concat_getLast (List.cons_ne_nil x l)).symm
theorem snoc_tot (out : Row) (x : Run) : tot (snoc out x) = tot out + x.1.length := by
  unfold snoc
  split
  · rename_i h; rw [h]; rfl
  · split
    · rename_i p hp
      split
      · have := congrArg tot (last_eq hp)
        rw [tot_app] at this
        rw [tot_app]
        simp only [tot, List.length_append, Nat.add_zero] at this ⊢
        omega
      · rw [tot_app]; simp [tot]
    · rw [tot_app]; simp [tot]
theorem snoc_len (out : Row) (x : Run) : (snoc out x).length ≤ out.length + 1 := by
  unfold snoc
  split
  · omega
  · split
    · split
      · simp only [List.length_append, List.length_dropLast, List.length_singleton]; omega
      · simp
    · simp
theorem lget_last {out : Row} {p : Run} (h : out.getLast? = some p) (hb : out.length ≤ 100000000) (d : Run) : 0 < out.length ∧ w64 (isub (len out) 1) = ((out.length - 1 : Nat) : Int) ∧ lget out (toN (w64 (isub (len out) 1))) d = p := by
  have hl : 0 < out.length := by
    cases out with
    | nil => cases h
    | cons x l => simp
  have hw : w64 (isub (len out) 1) = ((out.length - 1 : Nat) : Int) := w64_pred hl (by omega)
  refine ⟨hl, hw, ?_⟩
  rw [hw, lget_i (show out.length - 1 < out.length by omega)]
  rw [List.getLast?_eq_getElem?, List.getElem?_eq_getElem (by omega)] at h
  injection h
theorem lset_last {out : Row} {p : Run} (h : out.getLast? = some p) (y : Run) : lset out (out.length - 1) y = out.dropLast ++ [y] := by
  have e := last_eq h
  have hl : out.length - 1 = out.dropLast.length := by simp
  rw [hl]
  conv => lhs; rw [e]
  unfold lset
  rw [List.set_append_right _ _ (by simp)]
  simp
theorem last_tot {out : Row} {p : Run} (h : out.getLast? = some p) : p.1.length ≤ tot out := by
  have := congrArg tot (last_eq h)
  rw [tot_app] at this
  simp only [tot, Nat.add_zero] at this
  omega
theorem tot_mem {l : Row} {x : Run} (h : x ∈ l) : x.1.length ≤ tot l := by
  induction l with
  | nil => cases h
  | cons y l ih =>
    simp only [tot]
    rcases List.mem_cons.1 h with rfl | h
    · omega
    · have := ih h; omega
def NI (l : Row) (i : Nat) (out : Row) : Prop := out.length ≤ i ∧ tot out + tot (l.drop i) = tot l
theorem NI_step {l : Row} {i : Nat} (h : i < l.length) {out : Row} (hI : NI l i out) : NI l (i + 1) (snoc out l[i]) := by
  refine ⟨Nat.le_trans (snoc_len _ _) (Nat.succ_le_succ hI.1), ?_⟩
  have := hI.2
  rw [List.drop_eq_getElem_cons h] at this
  rw [snoc_tot]
  simp only [tot] at this
  omega
theorem style_norm_eq {l : Row} (hl : l.length ≤ 4000000) (ht : tot l ≤ 8000000) : style_norm fuelH l = some (normR l) := by
  unfold style_norm
  rw [jn_e]
  refine Eq.trans (lst_it (l := l) (fun (a : Row) (p : Nat) => ((p : Int), a)) (fun _ x a => .inr (snoc a x)) (fun a => some a) (NI l) (fun self a i hi hI => ?_) (fun self a _ => ?_) fuelH 0 [] (Nat.zero_le _) (by have := fuelH_eq; omega) ⟨Nat.le_refl _, by simp [tot]⟩) ?_
  · refine ⟨?_, NI_step hi hI⟩
    have hI1 := hI.1
    have hb : tot a ≤ 8000000 := by have := hI.2; omega
    have hx : l[i].1.length ≤ 8000000 := Nat.le_trans (tot_mem (List.getElem_mem hi)) ht
    simp only
    rw [cnd_t (ilt_t (by simp only [len]; omega)), grd_t (inb_t (by simp only [len]; omega)), lget_i hi, w64_succ hi (by omega)]
    have hroom : room (iadd (len a) (len ([l[i]] : Row))) 40 = true := room_t (by simp only [iadd, len, List.length_singleton]; omega)
    rw [grd_t hroom]
    simp only [cnd_ite, seq_t]
    by_cases he : l[i].1 = []
    · rw [if_pos he]; simp only [snoc, he, if_true]
    · rw [if_neg he]
      cases hla : a.getLast? with
      | none =>
        have ha : a = [] := List.getLast?_eq_none_iff.1 hla
        subst ha
        rw [if_neg (show ¬ ilt (0 : Int) (len ([] : Row)) = true by decide)]
        simp only [snoc, if_neg he, hla]
        rfl
      | some p =>
        obtain ⟨q1, q2, q3⟩ := lget_last hla (by omega) ([], (((0 : UInt8), (false, false)), []))
        have hin : inb (w64 (isub (len a) 1)) (len a) = true := by rw [q2]; exact inb_t (by simp only [len]; omega)
        have hp := last_tot hla
        rw [if_pos (show ilt (0 : Int) (len a) = true from ilt_t (by simp only [len]; omega)), grd_t hin, q3, bnd_s (style_alike_eq _ _ _), grd_t hin, grd_t (show catOk (iadd (len p.1) (len l[i].1)) = true from decide_eq_true (by simp only [iadd, len]; omega)), grd_t hin, q2]
        simp only [decide_eq_true_eq, snoc, if_neg he, hla]
        by_cases hk : alikeP p l[i]
        · rw [if_pos hk, if_pos hk]
          have : toN ((a.length - 1 : Nat) : Int) = a.length - 1 := by simp [toN]
          rw [this, lset_last hla]
          rfl
        · rw [if_neg hk, if_neg hk]; rfl
  · simp only
    rw [cnd_f (ilt_f (by simp only [len]; omega))]
  · rw [List.drop_zero, itI_fold]
    rfl
theorem style_Norm_eq {l : Row} (hl : l.length ≤ 4000000) (ht : tot l ≤ 8000000) : style_Norm fuelH l = some (normR l) := by
  unfold style_Norm
  rw [bnd_s (style_norm_eq hl ht)]
theorem r09_Norm_eq {l : Row} (hl : l.length ≤ 4000000) (ht : tot l ≤ 8000000) : r09_Norm fuelH l = some (normR l) := by
  unfold r09_Norm
  rw [jn_e]
  refine Eq.trans (lst_it (l := l) (fun (a : Row) (p : Nat) => (a, (p : Int))) (fun _ x a => .inr (snoc a x)) (fun a => some a) (NI l) (fun self a i hi hI => ?_) (fun self a _ => ?_) fuelH 0 [] (Nat.zero_le _) (by have := fuelH_eq; omega) ⟨Nat.le_refl _, by simp [tot]⟩) ?_
  · refine ⟨?_, NI_step hi hI⟩
    have hI1 := hI.1
    have hb : tot a ≤ 8000000 := by have := hI.2; omega
    have hx : l[i].1.length ≤ 8000000 := Nat.le_trans (tot_mem (List.getElem_mem hi)) ht
    simp only
    rw [cnd_t (ilt_t (by simp only [len]; omega)), grd_t (inb_t (by simp only [len]; omega)), lget_i hi, w64_succ hi (by omega), jn_e]
    have hroom : room (iadd (len a) (len ([l[i]] : Row))) 40 = true := room_t (by simp only [iadd, len, List.length_singleton]; omega)
    rw [grd_t hroom]
    simp only [cnd_ite, seq_t]
    by_cases he : l[i].1 = []
    · rw [if_pos he]; simp only [snoc, he, if_true]
    · rw [if_neg he]
      cases hla : a.getLast? with
      | none =>
        have ha : a = [] := List.getLast?_eq_none_iff.1 hla
        subst ha
        rw [if_neg (show ¬ ilt (0 : Int) (len ([] : Row)) = true by decide)]
        simp only [snoc, if_neg he, hla]
        rfl
      | some p =>
        obtain ⟨q1, q2, q3⟩ := lget_last hla (by omega) ([], (((0 : UInt8), (false, false)), []))
        have hin : inb (w64 (isub (len a) 1)) (len a) = true := by rw [q2]; exact inb_t (by simp only [len]; omega)
        have hp := last_tot hla
        rw [if_pos (show ilt (0 : Int) (len a) = true from ilt_t (by simp only [len]; omega)), grd_t hin, q3, grd_t hin, grd_t hin, grd_t (show catOk (iadd (len p.1) (len l[i].1)) = true from decide_eq_true (by simp only [iadd, len]; omega)), grd_t hin, q2]
        simp only [band_tt, ieq_tt, beqb_t, n8_eq, ← sty_eq]
        simp only [snoc, if_neg he, hla, alikeP]
        have : toN ((a.length - 1 : Nat) : Int) = a.length - 1 := by simp [toN]
        rw [this, lset_last hla]
        by_cases h1 : p.2.1 = l[i].2.1
        · by_cases h2 : p.2.2 = []
          · by_cases h3 : l[i].2.2 = []
            · simp only [h1, h2, h3, if_true, and_self]; rfl
            · simp only [h1, h2, h3, if_true, and_false, if_false]; rfl
          · simp only [h1, h2, if_true, false_and, and_false, if_false]; rfl
        · simp only [h1, false_and, if_false]; rfl
  · simp only
    rw [cnd_f (ilt_f (by simp only [len]; omega))]
  · rw [List.drop_zero, itI_fold]
    rfl
end Go.Mo
end

section
/-
  Plain facts: the bytes of rows.
-/
namespace Go.Mo
open Go Go.W Go.Lib
set_option maxRecDepth 100000
noncomputable section

theorem chkL_ok : ∀ (l : List Run) (p : Option Run), chkL p l = 0 → ∀ x ∈ l, vld x.1 = true ∧ x.1 ≠ [] ∧ n8 x.2.1.1 ≤ 6 ∧ vld x.2.2 = true
  | [], _, _, x, hx => by cases hx
  | y :: l, p, h, x, hx => by
    simp only [chkL] at h
    split at h
    · rename_i hc; exact absurd h hc
    · rename_i hc
      rcases List.mem_cons.1 hx with rfl | hx
      · have hc : runChk p x = 0 := by simpa using hc
        unfold runChk at hc
        split at hc
        · cases hc
        · split at hc
          · cases hc
          · split at hc
            · cases hc
            · split at hc
              · cases hc
              · rename_i h1 h2 h3 h4
                exact ⟨by simpa using h1, h2, by omega, by simpa using h4⟩
      · exact chkL_ok l _ h x hx
theorem rowChk_ok {l : Row} (h : rowChk l = 0) : l.length ≤ 16 ∧ ∀ x ∈ l, vld x.1 = true ∧ x.1 ≠ [] ∧ n8 x.2.1.1 ≤ 6 ∧ vld x.2.2 = true := by
  unfold rowChk at h
  split at h
  · cases h
  · exact ⟨by omega, chkL_ok l _ h⟩

def cost : Row → Nat
  | [] => 0
  | x :: r => 3 + x.1.length + cost r
theorem cost_eq (l : Row) : cost l = 3 * l.length + tot l := by
  induction l with
  | nil => rfl
  | cons x l ih => simp only [cost, tot, List.length_cons, ih]; omega
def shortL (l : List Row) : Prop := ∀ r ∈ l, shortR r
end
end Go.Mo
end

section
/-
  Plain facts: rows that are read from bytes, on both sides.
-/
namespace Go.Mo
open Go Go.W Go.Lib
set_option maxRecDepth 100000
noncomputable section

theorem enc_len4 {r : Int} (h : inRep r = true) : (enc r).length ≤ 4 := enc_len h
end
end Go.Mo
end

section
/-
  Plain facts: rows that are read by the reference; equality of rows; StlTexts returns true.
-/
namespace Go.Mo
open Go Go.W Go.Lib
set_option maxRecDepth 100000
noncomputable section

theorem run_eq {a b : Run} : (a = b) = (a.1 = b.1 ∧ a.2.1 = b.2.1 ∧ a.2.2 = b.2.2) := by
  obtain ⟨a1, a2, a3⟩ := a; obtain ⟨b1, b2, b3⟩ := b; simp
/-- a loop that compares -/
theorem same_fold {α : Type} : ∀ (l m : List α) [DecidableEq α], l.length = m.length → ∀ i, itI (fun i (x : α) (_ : Unit) => if some x = m[i]? then (.inr () : Option Bool ⊕ Unit) else .inl (some false)) (fun _ => some true) i (l.drop i) () = some (decide (l.drop i = m.drop i)) := by
  intro l m _ hl i
  generalize hr : l.drop i = r
  induction r generalizing i with
  | nil =>
    have h1 : l.length ≤ i := by have := congrArg List.length hr; simp at this; omega
    have : m.drop i = [] := by rw [List.drop_eq_nil_iff]; omega
    rw [this]; simp [itI]
  | cons x r ih =>
    have hx : l[i]? = some x := by rw [← List.head?_drop, hr]; rfl
    have hi := (List.getElem?_eq_some_iff.1 hx).1
    have hr' : l.drop (i + 1) = r := by rw [← List.drop_drop, hr]; rfl
    have hm : m.drop i = m[i] :: m.drop (i + 1) := List.drop_eq_getElem_cons (by omega)
    rw [hm]
    simp only [itI]
    by_cases h : some x = m[i]?
    · rw [if_pos h]
      simp only
      rw [ih (i + 1) hr']
      rw [List.getElem?_eq_getElem (by omega)] at h
      injection h with h
      exact congrArg some (decide_eq_decide.2 ⟨fun e => by rw [h, e], fun e => by injection e⟩)
    · rw [if_neg h]
      rw [List.getElem?_eq_getElem (by omega)] at h
      have : x ≠ m[i] := fun e => h (by rw [e])
      exact congrArg some (decide_eq_false fun e => this (by injection e)).symm
theorem eqRuns (a b : Row) (hl : a.length ≤ 4000000) : slices_Equal_Lapi_Run_api_Run fuelH (a, b) = some (decide (a = b)) := by
  unfold slices_Equal_Lapi_Run_api_Run
  by_cases h : a.length = b.length
  · rw [cnd_f (ine_f (by simp only [len]; omega)), jn_e]
    refine Eq.trans (lst_it (l := a) (fun (_ : Unit) (p : Nat) => (p : Int)) (fun i (x : Run) (_ : Unit) => if some x = b[i]? then .inr () else .inl (some false)) (fun _ => some true) (fun _ _ => True) (fun self _ i hi _ => ?_) (fun self _ _ => ?_) fuelH 0 () (Nat.zero_le _) (by have := fuelH_eq; omega) trivial) ?_
    · have hb : i < b.length := by omega
      have e : cnd (ilt (i : Int) (len a)) (grd (inb (i : Int) (len a)) (grd (inb (i : Int) (len b)) (cnd (bnot (band (seq (lget a (toN (i : Int)) ([], (((0 : UInt8), (false, false)), []))).1 (lget b (toN (i : Int)) ([], (((0 : UInt8), (false, false)), []))).1) (band (band (ieq (n8 (lget a (toN (i : Int)) ([], (((0 : UInt8), (false, false)), []))).2.1.1) (n8 (lget b (toN (i : Int)) ([], (((0 : UInt8), (false, false)), []))).2.1.1)) (band (beqb (lget a (toN (i : Int)) ([], (((0 : UInt8), (false, false)), []))).2.1.2.1 (lget b (toN (i : Int)) ([], (((0 : UInt8), (false, false)), []))).2.1.2.1) (beqb (lget a (toN (i : Int)) ([], (((0 : UInt8), (false, false)), []))).2.1.2.2 (lget b (toN (i : Int)) ([], (((0 : UInt8), (false, false)), []))).2.1.2.2))) (seq (lget a (toN (i : Int)) ([], (((0 : UInt8), (false, false)), []))).2.2 (lget b (toN (i : Int)) ([], (((0 : UInt8), (false, false)), []))).2.2)))) (some false) (self (w64 (iadd (i : Int) 1)))))) (some true) = if a[i] = b[i] then self ((i + 1 : Nat) : Int) else some false := by
        rw [cnd_t (ilt_t (by simp only [len]; omega)), grd_t (inb_t (by simp only [len]; omega)), grd_t (inb_t (by simp only [len]; omega)), lget_i hi, lget_i hb, w64_succ hi (by omega), cnd_ite]
        simp only [bnot_t, Bool.eq_false_iff, ne_eq, band_tt, seq_t, ieq_tt, beqb_t, n8_eq, ← sty_eq, ← run_eq]
        by_cases hc : a[i] = b[i]
        · rw [if_neg (by simpa using hc), if_pos hc]
        · rw [if_pos hc, if_neg hc]
      rw [List.getElem?_eq_getElem hb]
      by_cases hc : a[i] = b[i]
      · rw [if_pos (by rw [hc])]
        exact ⟨e.trans (if_pos hc), trivial⟩
      · rw [if_neg (fun h => hc (by injection h))]
        exact e.trans (if_neg hc)
    · simp only
      rw [cnd_f (ilt_f (by simp only [len]; omega))]
    · exact same_fold a b h 0
  · rw [cnd_t (ine_t (by simp only [len]; omega))]
    have : a ≠ b := fun e => h (by rw [e])
    simp [this]
theorem same_row (a b : Row) (hl : a.length ≤ 4000000) : style_Same fuelH (a, b) = some (decide (a = b)) := by
  unfold style_Same
  rw [eqRuns a b hl, bnd_some']
theorem same_rows (a b : List Row) (hl : a.length ≤ 4000000) (h : ∀ r ∈ a, r.length ≤ 4000000) : style_SameRows fuelH (a, b) = some (decide (a = b)) := by
  unfold style_SameRows slices_EqualFunc_Lapi_Row_Lapi_Row_api_Row_api_Row
  by_cases hab : a.length = b.length
  · rw [cnd_f (ine_f (by simp only [len]; omega)), jn_e]
    have : ∀ X : Option Bool, (bnd X fun v0 => some v0) = X := fun X => by cases X <;> rfl
    rw [this]
    refine Eq.trans (lst_it (l := a) (fun (_ : Unit) (p : Nat) => (p : Int)) (fun i (x : Row) (_ : Unit) => if some x = b[i]? then .inr () else .inl (some false)) (fun _ => some true) (fun _ _ => True) (fun self _ i hi _ => ?_) (fun self _ _ => ?_) fuelH 0 () (Nat.zero_le _) (by have := fuelH_eq; omega) trivial) ?_
    · have hb : i < b.length := by omega
      have e : cnd (ilt (i : Int) (len a)) (grd (inb (i : Int) (len a)) (grd (inb (i : Int) (len b)) (bnd (style_Same fuelH (lget a (toN (i : Int)) [], lget b (toN (i : Int)) [])) fun v4 => cnd (bnot v4) (some false) (self (w64 (iadd (i : Int) 1)))))) (some true) = if a[i] = b[i] then self ((i + 1 : Nat) : Int) else some false := by
        rw [cnd_t (ilt_t (by simp only [len]; omega)), grd_t (inb_t (by simp only [len]; omega)), grd_t (inb_t (by simp only [len]; omega)), lget_i hi, lget_i hb, w64_succ hi (by omega), same_row _ _ (h _ (List.getElem_mem hi)), bnd_some', cnd_bnot]
      rw [List.getElem?_eq_getElem hb]
      by_cases hc : a[i] = b[i]
      · rw [if_pos (by rw [hc])]
        exact ⟨e.trans (if_pos hc), trivial⟩
      · rw [if_neg (fun h => hc (by injection h))]
        exact e.trans (if_neg hc)
    · simp only
      rw [cnd_f (ilt_f (by simp only [len]; omega))]
    · exact same_fold a b hab 0
  · rw [cnd_t (ine_t (by simp only [len]; omega))]
    have : a ≠ b := fun e => hab (by rw [e])
    simp [this, bnd_some']
end
end Go.Mo
end

section
/-
  Plain facts: StlTexts returns true.
-/
namespace Go.Mo
open Go Go.W Go.Lib
set_option maxRecDepth 100000
noncomputable section
theorem loop_inv {V R σ : Type} {F : (V → Option R) → V → Option R} {n : Nat} (st : σ → Nat → V) (I : Nat → σ → Prop) (r : Option R)
    (hstep : ∀ self a i, i < n → I i a → ∃ a', F self (st a i) = self (st a' (i + 1)) ∧ I (i + 1) a') (hend : ∀ self a, I n a → F self (st a n) = r) : ∀ (fuel i : Nat) (a : σ), i ≤ n → n - i < fuel → I i a → fixN F fuel (st a i) = r
  | 0, i, a, _, h, _ => by omega
  | fuel + 1, i, a, hi, h, hI => by
    rw [fixN_s]
    by_cases hl : i < n
    · obtain ⟨a', h1, h2⟩ := hstep (fixN F fuel) a i hl hI
      rw [h1]
      exact loop_inv st I r hstep hend fuel (i + 1) a' (by omega) (by omega) h2
    · obtain rfl : i = n := by omega
      exact hend _ _ hI

theorem bk_mem {α : Type} {f : α → Nat} {l : List α} {x : α} (h : x ∈ l) : f x ≤ bkL f l := by
  induction l with
  | nil => cases h
  | cons y l ih =>
    simp only [bkL]
    rcases List.mem_cons.1 h with rfl | h
    · omega
    · have := ih h; omega
theorem bk_len {α : Type} {f : α → Nat} (hf : ∀ x, 1 ≤ f x) (l : List α) : l.length ≤ bkL f l := by
  induction l with
  | nil => exact Nat.le_refl _
  | cons y l ih => have := hf y; simp only [bkL, List.length_cons]; omega
def wtU (x : Run) : Nat := x.1.length + 1 + (1 + (1 + 1) + (x.2.2.length + 1))
def wtR (r : Row) : Nat := bkL wtU r + 1
theorem cost_wt (r : Row) : cost r ≤ bkL wtU r := by
  induction r with
  | nil => exact Nat.le_refl _
  | cons x r ih => simp only [cost, bkL, wtU]; omega
theorem short_wt {l : List Row} {B : Nat} (h : bkL wtR l ≤ B) (hB : B ≤ 4000000) : shortL l := fun r hr x hx => by
  have h1 : bkL wtU r + 1 ≤ bkL wtR l := bk_mem (f := wtR) hr
  have h2 : x.1.length + 1 + (1 + (1 + 1) + (x.2.2.length + 1)) ≤ bkL wtU r := bk_mem (f := wtU) hx
  omega

theorem min_take {α : Type} (l : List α) (n : Nat) : ltake (toN (imin (len l) (n : Int))) l = l.take n ∧ in2 (imin (len l) (n : Int)) (len l) = true := by
  have e : toN (imin (len l) (n : Int)) = min l.length n := by simp only [toN, imin, len]; omega
  refine ⟨?_, in2_t (by simp only [imin, len]; omega)⟩
  rw [e]
  unfold ltake
  by_cases h : l.length ≤ n
  · rw [Nat.min_eq_left h, List.take_length, List.take_of_length_le h]
  · rw [Nat.min_eq_right (by omega)]
theorem fold_len : ∀ (l out : Row), (l.foldl snoc out).length ≤ out.length + l.length
  | [], out => Nat.le_refl _
  | x :: l, out => by
    have h1 := snoc_len out x
    have h2 := fold_len l (snoc out x)
    simp only [List.foldl_cons, List.length_cons]
    omega
theorem normR_len (l : Row) : (normR l).length ≤ l.length := by
  have := fold_len l []
  simpa [normR] using this
end
end Go.Mo
end

section
/-
  Plain facts: StlReturns returns true.
-/
namespace Go.Mo
open Go Go.W Go.Lib
set_option maxRecDepth 100000
noncomputable section

theorem tot_cost (l : Row) : tot l ≤ cost l := by rw [cost_eq]; omega
end
end Go.Mo
end

section
/-
  Plain facts: regions, their check, a region by its name, the places of rows.
-/
namespace Go.Mo
open Go Go.W Go.Lib
set_option maxRecDepth 100000
noncomputable section
abbrev Reg := List UInt8 × Int × Int × Int × Int × UInt8 × Bool
abbrev Spot := Int × Int × Int

theorem from_eq (N : Nat) (a b c : Int) : region_from N (a, b, c) = some (decide (b ≤ a ∧ a ≤ c)) := by
  unfold region_from
  rw [cnd_ile]
  by_cases h : b ≤ a
  · simp [h, ile]
  · simp [h]
def regChk (r : Reg) : Int :=
  if nm r.1 = false then 5 else
  if ¬ (0 ≤ r.2.1 ∧ r.2.1 ≤ 14) then 2 else
  if ¬ (1 ≤ r.2.2.1 ∧ r.2.2.1 ≤ 15 - r.2.1) then 2 else
  if ¬ (0 ≤ r.2.2.2.1 ∧ r.2.2.2.1 ≤ 31) then 2 else
  if ¬ (1 ≤ r.2.2.2.2.1 ∧ r.2.2.2.2.1 ≤ 32 - r.2.2.2.1) then 2 else
  if ¬ (1 ≤ n8 r.2.2.2.2.2.1 ∧ n8 r.2.2.2.2.2.1 ≤ 3) then 3 else 0
theorem dec_f {p : Prop} [Decidable p] : (decide p = false) = ¬ p := by by_cases h : p <;> simp [h]
theorem region_check (r : Reg) : region_Check fuelH r = some (regChk r) := by
  unfold region_Check regChk
  rw [lines_name, bnd_some']
  simp only [from_eq, bnd_some', cnd_ite, bnot_t, dec_f, ilt_tt]
  have e1 : n8 (1 : UInt8) = 1 := rfl
  have e3 : n8 (3 : UInt8) = 3 := rfl
  rw [e1, e3]
  by_cases h0 : nm r.1 = false
  · rw [if_pos h0, if_pos h0]
  rw [if_neg h0, if_neg h0]
  by_cases h1 : 0 ≤ r.2.1 ∧ r.2.1 ≤ 14
  · rw [if_neg (not_not_intro h1), if_neg (not_not_intro h1)]
    have w1 : w64 (isub 15 r.2.1) = 15 - r.2.1 := by unfold isub; rw [w64_id (by omega)]
    rw [w1]
    by_cases h2 : 1 ≤ r.2.2.1 ∧ r.2.2.1 ≤ 15 - r.2.1
    · rw [if_neg (not_not_intro h2), if_neg (not_not_intro h2)]
      by_cases h3 : 0 ≤ r.2.2.2.1 ∧ r.2.2.2.1 ≤ 31
      · rw [if_neg (not_not_intro h3), if_neg (not_not_intro h3)]
        have w2 : w64 (isub 32 r.2.2.2.1) = 32 - r.2.2.2.1 := by unfold isub; rw [w64_id (by omega)]
        rw [w2]
        by_cases h4 : 1 ≤ r.2.2.2.2.1 ∧ r.2.2.2.2.1 ≤ 32 - r.2.2.2.1
        · rw [if_neg (not_not_intro h4), if_neg (not_not_intro h4)]
          by_cases h5 : n8 r.2.2.2.2.2.1 < 1
          · rw [if_pos h5, if_pos (by omega)]
          · rw [if_neg h5]
            by_cases h6 : 3 < n8 r.2.2.2.2.2.1
            · rw [if_pos h6, if_pos (by omega)]
            · rw [if_neg h6, if_neg (by omega)]
        · rw [if_pos h4, if_pos h4]
      · rw [if_pos h3, if_pos h3]
    · rw [if_pos h2, if_pos h2]
  · rw [if_pos h1, if_pos h1]
theorem r10_check (r : Reg) : r10_Check fuelH r = some (regChk r) := by
  unfold r10_Check regChk
  rw [r07_name, bnd_some']
  simp only [cnd_ite, bnot_t, ilt_tt, ine_tt]
  by_cases h0 : nm r.1 = false
  · rw [if_pos h0, if_pos h0]
  rw [if_neg h0, if_neg h0]
  by_cases h1 : 0 ≤ r.2.1 ∧ r.2.1 ≤ 14
  · rw [if_neg (by omega), if_neg (by omega), if_neg (not_not_intro h1)]
    have w1 : w64 (isub 15 r.2.1) = 15 - r.2.1 := by unfold isub; rw [w64_id (by omega)]
    rw [w1]
    by_cases h2 : 1 ≤ r.2.2.1 ∧ r.2.2.1 ≤ 15 - r.2.1
    · rw [if_neg (by omega), if_neg (by omega), if_neg (not_not_intro h2)]
      by_cases h3 : 0 ≤ r.2.2.2.1 ∧ r.2.2.2.1 ≤ 31
      · rw [if_neg (by omega), if_neg (by omega), if_neg (not_not_intro h3)]
        have w2 : w64 (isub 32 r.2.2.2.1) = 32 - r.2.2.2.1 := by unfold isub; rw [w64_id (by omega)]
        rw [w2]
        by_cases h4 : 1 ≤ r.2.2.2.2.1 ∧ r.2.2.2.2.1 ≤ 32 - r.2.2.2.1
        · rw [if_neg (by omega), if_neg (by omega), if_neg (not_not_intro h4)]
          have e1 : n8 (1 : UInt8) = 1 := rfl
          have e2 : n8 (2 : UInt8) = 2 := rfl
          have e3 : n8 (3 : UInt8) = 3 := rfl
          rw [e1, e2, e3]
          by_cases c1 : n8 r.2.2.2.2.2.1 = 1
          · rw [if_neg (not_not_intro c1), if_neg (by omega)]
          rw [if_pos c1]
          by_cases c2 : n8 r.2.2.2.2.2.1 = 2
          · rw [if_neg (not_not_intro c2), if_neg (by omega)]
          rw [if_pos c2]
          by_cases c3 : n8 r.2.2.2.2.2.1 = 3
          · rw [if_neg (not_not_intro c3), if_neg (by omega)]
          · rw [if_pos c3, if_pos (by omega)]
        · rw [if_pos h4]
          by_cases h : r.2.2.2.2.1 < 1
          · rw [if_pos h]
          · rw [if_neg h, if_pos (by omega)]
      · rw [if_pos h3]
        by_cases h : r.2.2.2.1 < 0
        · rw [if_pos h]
        · rw [if_neg h, if_pos (by omega)]
    · rw [if_pos h2]
      by_cases h : r.2.2.1 < 1
      · rw [if_pos h]
      · rw [if_neg h, if_pos (by omega)]
  · rw [if_pos h1]
    by_cases h : r.2.1 < 0
    · rw [if_pos h]
    · rw [if_neg h, if_pos (by omega)]

def chkRegs : Option Reg → List Reg → Int
  | _, [] => 0
  | p, r :: l => if regChk r ≠ 0 then regChk r else match p with
    | none => chkRegs (some r) l
    | some q => if r.1 = q.1 then 7 else if slt r.1 q.1 = true then 8 else chkRegs (some r) l
def regsChk (l : List Reg) : Int := if 16 < l.length then 9 else chkRegs none l
/-- one round of the check -/
def regRnd (p : Option Reg) (r : Reg) : Option Int ⊕ Unit := if regChk r ≠ 0 then .inl (some (regChk r)) else match p with
    | none => .inr ()
    | some q => if r.1 = q.1 then .inl (some 7) else if slt r.1 q.1 = true then .inl (some 8) else .inr ()
theorem itI_regs (l : List Reg) : ∀ (r : List Reg) (i : Nat), l.drop i = r → i ≤ l.length → itI (fun i x (_ : Unit) => regRnd (before l i) x) (fun _ => some (0 : Int)) i r () = some (chkRegs (before l i) r)
  | [], i, _, _ => rfl
  | x :: r, i, h, hi => by
    have hx : l[i]? = some x := by rw [← List.head?_drop, h]; rfl
    have hr : l.drop (i + 1) = r := by rw [← List.drop_drop, h]; rfl
    have hl : i < l.length := (List.getElem?_eq_some_iff.1 hx).1
    simp only [itI, chkRegs, regRnd]
    have e : before l (i + 1) = some x := hx
    have ih := itI_regs l r (i + 1) hr (by omega)
    rw [e] at ih
    by_cases hc : regChk x ≠ 0
    · rw [if_pos hc, if_pos hc]
    · rw [if_neg hc, if_neg hc]
      cases before l i with
      | none => exact ih
      | some q =>
        simp only
        by_cases h7 : x.1 = q.1
        · rw [if_pos h7, if_pos h7]
        · rw [if_neg h7, if_neg h7]
          by_cases h8 : slt x.1 q.1 = true
          · rw [if_pos h8, if_pos h8]
          · rw [if_neg h8, if_neg h8]
            exact ih
theorem region_list (l : List Reg) : region_CheckList fuelH l = some (regsChk l) := by
  unfold region_CheckList
  by_cases h : 16 < l.length
  · rw [cnd_t (ilt_t (by simp only [len]; omega))]; simp [regsChk, h]
  · rw [cnd_f (ilt_f (by simp only [len]; omega)), jn_e]
    refine Eq.trans (lst_it (l := l) (fun (_ : Unit) (p : Nat) => (p : Int)) (fun i x (_ : Unit) => regRnd (before l i) x) (fun _ => some (0 : Int)) (fun _ _ => True) (fun self a i hi _ => ?_) (fun self a _ => ?_) fuelH 0 () (Nat.zero_le _) (by have := fuelH_eq; omega) trivial) ?_
    · rw [cnd_t (ilt_t (by simp only [len]; omega)), grd_t (inb_t (by simp only [len]; omega)), lget_i hi, bnd_s (region_check _)]
      unfold regRnd
      by_cases hc : regChk l[i] ≠ 0
      · rw [if_pos hc, cnd_t (ine_t hc)]; rfl
      · rw [if_neg hc, cnd_f (ine_f (by simpa using hc)), jn_e, w64_succ hi (by omega)]
        cases i with
        | zero =>
          rw [cnd_f (by rfl), cnd_f (by rfl)]
          exact ⟨rfl, trivial⟩
        | succ i =>
          have e0 : before l (i + 1) = some l[i] := by simp only [before]; exact List.getElem?_eq_getElem (by omega)
          have hin : inb ((i : Nat) : Int) (len l) = true := inb_t (by simp only [len]; omega)
          have hp : ilt (0 : Int) ((i + 1 : Nat) : Int) = true := ilt_t (by omega)
          rw [e0, cnd_t hp, w64_back (by omega), grd_t hin, lget_i (show i < l.length by omega), cnd_t hp, grd_t hin]
          simp only
          by_cases h7 : l[i + 1].1 = l[i].1
          · rw [if_pos h7, cnd_t (by rw [seq_t]; exact h7)]; rfl
          · rw [if_neg h7, cnd_f (by rw [← Bool.not_eq_true, seq_t]; exact h7)]
            by_cases h8 : slt l[i + 1].1 l[i].1 = true
            · rw [if_pos h8, cnd_t h8]; rfl
            · rw [if_neg h8, cnd_f (by simpa using h8)]
              exact ⟨rfl, trivial⟩
    · rw [cnd_f (ilt_f (by simp only [len]; omega))]
    · rw [List.drop_zero, itI_regs l l 0 rfl (Nat.zero_le _)]
      simp [regsChk, h, before]
theorem r10_list (l : List Reg) : r10_CheckList fuelH l = some (regsChk l) := by
  rw [← region_list]
  have e : r10_Check fuelH = region_Check fuelH := funext fun r => by rw [r10_check, region_check]
  unfold r10_CheckList region_CheckList
  rw [e]

def defR : Reg := ([], 11, 4, 0, 32, 2, true)
def noR : Reg := ([], 0, 0, 0, 0, 0, false)
def findR (l : List Reg) (n : List UInt8) : Option Reg := if n = [] then some defR else l.find? fun r => decide (r.1 = n)
def findP (l : List Reg) (n : List UInt8) : Reg × Bool := match findR l n with
  | some r => (r, true)
  | none => (noR, false)
theorem itI_find (n : List UInt8) : ∀ (l : List Reg) (i : Nat), itI (fun _ (x : Reg) (_ : Unit) => if x.1 = n then (.inl (some (x, true)) : Option (Reg × Bool) ⊕ Unit) else .inr ()) (fun _ => some (noR, false)) i l () = some (match l.find? fun r => decide (r.1 = n) with | some r => (r, true) | none => (noR, false))
  | [], _ => rfl
  | x :: l, i => by
    simp only [itI, List.find?_cons]
    by_cases h : x.1 = n
    · rw [if_pos h, decide_eq_true h]
    · rw [if_neg h, decide_eq_false h]
      exact itI_find n l (i + 1)
theorem region_find (l : List Reg) (hl : l.length ≤ 4000000) (n : List UInt8) : region_Find fuelH (l, n) = some (findP l n) := by
  unfold region_Find findP findR
  simp only
  by_cases h : n = []
  · rw [cnd_t (by rw [seq_t]; exact h), if_pos h]; rfl
  · rw [cnd_f (by rw [← Bool.not_eq_true, seq_t]; exact h), if_neg h, jn_e]
    refine Eq.trans (lst_it (l := l) (fun (_ : Unit) (p : Nat) => (p : Int)) (fun _ (x : Reg) (_ : Unit) => if x.1 = n then .inl (some (x, true)) else .inr ()) (fun _ => some (noR, false)) (fun _ _ => True) (fun self a i hi _ => ?_) (fun self a _ => ?_) fuelH 0 () (Nat.zero_le _) (by have := fuelH_eq; omega) trivial) (itI_find n l 0)
    · have hin : inb (i : Int) (len l) = true := inb_t (by simp only [len]; omega)
      rw [cnd_t (ilt_t (by simp only [len]; omega)), grd_t hin, lget_i hi]
      by_cases hc : l[i].1 = n
      · rw [if_pos hc, cnd_t (by rw [seq_t]; exact hc)]; rfl
      · rw [if_neg hc, cnd_f (by rw [← Bool.not_eq_true, seq_t]; exact hc), w64_succ hi (by omega)]
        exact ⟨rfl, trivial⟩
    · rw [cnd_f (ilt_f (by simp only [len]; omega))]
      rfl
theorem r10_find : r10_Find fuelH = region_Find fuelH := by kernel_rfl
end
end Go.Mo
end

section
/-
  Plain facts: the places of rows.
-/
namespace Go.Mo
open Go Go.W Go.Lib
set_option maxRecDepth 100000
noncomputable section

def usableR (r : Reg) : Prop := r = defR ∨ regChk r = 0
instance (r : Reg) : Decidable (usableR r) := by unfold usableR; infer_instance
theorem reg_eq {a b : Reg} : (a = b) = (a.1 = b.1 ∧ a.2.1 = b.2.1 ∧ a.2.2.1 = b.2.2.1 ∧ a.2.2.2.1 = b.2.2.2.1 ∧ a.2.2.2.2.1 = b.2.2.2.2.1 ∧ a.2.2.2.2.2.1 = b.2.2.2.2.2.1 ∧ a.2.2.2.2.2.2 = b.2.2.2.2.2.2) := by
  obtain ⟨a1, a2, a3, a4, a5, a6, a7⟩ := a; obtain ⟨b1, b2, b3, b4, b5, b6, b7⟩ := b; simp
theorem def_band (x : Reg) : (band (seq x.1 defR.1) (band (ieq x.2.1 defR.2.1) (band (ieq x.2.2.1 defR.2.2.1) (band (ieq x.2.2.2.1 defR.2.2.2.1) (band (ieq x.2.2.2.2.1 defR.2.2.2.2.1) (band (ieq (n8 x.2.2.2.2.2.1) (n8 defR.2.2.2.2.2.1)) (beqb x.2.2.2.2.2.2 defR.2.2.2.2.2.2)))))) = true) = (x = defR) := by
  simp only [band_tt, seq_t, ieq_tt, beqb_t, n8_eq]
  exact reg_eq.symm
theorem region_usable_eq (r : Reg) : region_usable fuelH r = some (decide (usableR r)) := by
  unfold region_usable
  rw [bnd_s (show region_Default fuelH () = some defR from rfl), region_check, bnd_some']
  by_cases h : r = defR
  · rw [cnd_t ((def_band r).mpr h), @decide_eq_true (usableR r) _ (.inl h)]
  · rw [cnd_f (by rw [← Bool.not_eq_true]; exact fun k => h ((def_band r).mp k))]
    congr 1
    by_cases h2 : regChk r = 0
    · rw [ieq_t h2, @decide_eq_true (usableR r) _ (.inr h2)]
    · rw [ieq_f h2, @decide_eq_false (usableR r) _ (fun k => k.elim h h2)]
theorem r10_usable_eq (r : Reg) : r10_usable fuelH r = some (decide (usableR r)) := by
  unfold r10_usable
  rw [bnd_s (show r10_Default fuelH () = some defR from rfl), r10_check, bnd_some']
  by_cases h2 : regChk r = 0
  · rw [cnd_t (ieq_t h2), @decide_eq_true (usableR r) _ (.inr h2)]
  · rw [cnd_f (ieq_f h2)]
    congr 1
    have hd := def_band r
    by_cases h : r = defR
    · rw [@decide_eq_true (usableR r) _ (.inl h)]
      exact hd.mpr h
    · rw [@decide_eq_false (usableR r) _ (fun k => k.elim h h2), ← Bool.not_eq_true]
      exact fun k => h (hd.mp k)
theorem usable_bd {r : Reg} (h : usableR r) : 0 ≤ r.2.1 ∧ 1 ≤ r.2.2.1 ∧ r.2.1 + r.2.2.1 ≤ 15 ∧ 0 ≤ r.2.2.2.1 ∧ 1 ≤ r.2.2.2.2.1 ∧ r.2.2.2.1 + r.2.2.2.2.1 ≤ 32 ∧ 1 ≤ n8 r.2.2.2.2.2.1 ∧ n8 r.2.2.2.2.2.1 ≤ 3 := by
  rcases h with rfl | h
  · decide
  · unfold regChk at h
    split at h
    · cases h
    split at h
    · cases h
    split at h
    · cases h
    split at h
    · cases h
    split at h
    · cases h
    split at h
    · cases h
    omega

def colOf (r : Reg) (n : Int) : Int := if n8 r.2.2.2.2.2.1 = 3 then r.2.2.2.1 + (r.2.2.2.2.1 - n) else if n8 r.2.2.2.2.2.1 = 2 then r.2.2.2.1 + (r.2.2.2.2.1 - n).tdiv 2 else r.2.2.2.1
def topOf (r : Reg) (k : Nat) : Int := if r.2.2.2.2.2.2 = true then r.2.1 + (r.2.2.1 - (k : Int)) else r.2.1
def plRnd (r : Reg) (k : Nat) (i : Nat) (n : Int) (out : List Spot) : Option (List Spot × Int) ⊕ List Spot :=
  if n < 0 then .inl (some ([], 2)) else if r.2.2.2.2.1 < n then .inl (some ([], 11)) else .inr (out ++ [(topOf r k + (i : Int), colOf r n, n)])
def placeL (r : Reg) (k : Nat) : Nat → List Int → List Spot → List Spot × Int
  | _, [], out => (out, 0)
  | i, n :: l, out => if n < 0 then ([], 2) else if r.2.2.2.2.1 < n then ([], 11) else placeL r k (i + 1) l (out ++ [(topOf r k + (i : Int), colOf r n, n)])
def placeS (r : Reg) (l : List Int) : List Spot × Int := if ¬ usableR r then ([], 1) else if r.2.2.1 < (l.length : Int) then ([], 9) else placeL r l.length 0 l []
theorem itI_place (r : Reg) (k : Nat) : ∀ (l : List Int) (i : Nat) (out : List Spot), itI (plRnd r k) (fun a => some (a, (0 : Int))) i l out = some (placeL r k i l out)
  | [], i, out => rfl
  | n :: l, i, out => by
    simp only [itI, placeL, plRnd]
    by_cases h1 : n < 0
    · rw [if_pos h1, if_pos h1]
    · rw [if_neg h1, if_neg h1]
      by_cases h2 : r.2.2.2.2.1 < n
      · rw [if_pos h2, if_pos h2]
      · rw [if_neg h2, if_neg h2]
        exact itI_place r k l (i + 1) _
theorem jn_cnd {α β : Type} (K : α → Option β) (b : Bool) (x y : α) : jn K (fun v => cnd b (v x) (v y)) = K (if b = true then x else y) := by
  rw [jn_e]; cases b <;> rfl
theorem half_bd {x : Int} (h : 0 ≤ x) : 0 ≤ x.tdiv 2 ∧ x.tdiv 2 ≤ x := by
  rw [Int.tdiv_eq_ediv_of_nonneg h]; omega
/-- the numbers of one place do not wrap -/
theorem spot_w {r : Reg} (hu : usableR r) {k i : Nat} {n : Int} (hk : (k : Int) ≤ r.2.2.1) (hi : i < k) (h0 : 0 ≤ n) (hn : n ≤ r.2.2.2.2.1) :
    w64 (iadd (topOf r k) (i : Int)) = topOf r k + (i : Int) ∧ w64 (isub r.2.2.2.2.1 n) = r.2.2.2.2.1 - n ∧ w64 (iadd r.2.2.2.1 (r.2.2.2.2.1 - n)) = r.2.2.2.1 + (r.2.2.2.2.1 - n) ∧ w64 (idiv (r.2.2.2.2.1 - n) 2) = (r.2.2.2.2.1 - n).tdiv 2 ∧ w64 (iadd r.2.2.2.1 ((r.2.2.2.2.1 - n).tdiv 2)) = r.2.2.2.1 + (r.2.2.2.2.1 - n).tdiv 2 := by
  have hb := usable_bd hu
  have hd := half_bd (x := r.2.2.2.2.1 - n) (by omega)
  refine ⟨?_, ?_, ?_, ?_, ?_⟩
  · unfold iadd topOf
    rw [w64_id]
    split <;> omega
  · unfold isub; rw [w64_id (by omega)]
  · unfold iadd; rw [w64_id (by omega)]
  · unfold idiv; rw [w64_id (by omega)]
  · unfold iadd; rw [w64_id (by omega)]
theorem region_place (r : Reg) (l : List Int) : region_Place fuelH (r, l) = some (placeS r l) := by
  unfold region_Place placeS
  simp only
  rw [region_usable_eq, bnd_some', cnd_bnot]
  by_cases hu : usableR r
  · rw [if_pos hu, if_neg (not_not_intro hu)]
    have hb := usable_bd hu
    by_cases hk : r.2.2.1 < (l.length : Int)
    · rw [cnd_t (ilt_t (show r.2.2.1 < len l from hk)), if_pos hk]
    · rw [cnd_f (ilt_f (show ¬ r.2.2.1 < len l from hk)), if_neg hk, jn_cnd]
      have et : (if r.2.2.2.2.2.2 = true then w64 (iadd r.2.1 (w64 (isub r.2.2.1 (len l)))) else r.2.1) = topOf r l.length := by
        unfold topOf
        have e1 : w64 (isub r.2.2.1 (len l)) = r.2.2.1 - (l.length : Int) := by unfold isub len; rw [w64_id (by omega)]
        rw [e1]
        unfold iadd
        rw [w64_id (by omega)]
      rw [et, jn_e]
      refine Eq.trans (lst_it (l := l) (fun (a : List Spot) (p : Nat) => (a, (p : Int))) (plRnd r l.length) (fun a => some (a, (0 : Int))) (fun i a => a.length ≤ i) (fun self a i hi ha => ?_) (fun self a _ => ?_) fuelH 0 [] (Nat.zero_le _) (by have := fuelH_eq; omega) (Nat.le_refl _)) (itI_place r l.length l 0 [])
      · have hin : inb (i : Int) (len l) = true := inb_t (by simp only [len]; omega)
        simp only
        rw [cnd_t (ilt_t (by simp only [len]; omega)), grd_t hin, lget_i hi, w64_succ hi (by omega)]
        unfold plRnd
        by_cases h1 : l[i] < 0
        · rw [if_pos h1, cnd_t (ilt_t h1)]; rfl
        · rw [if_neg h1, cnd_f (ilt_f h1)]
          by_cases h2 : r.2.2.2.2.1 < l[i]
          · rw [if_pos h2, cnd_t (ilt_t h2)]; rfl
          · rw [if_neg h2, cnd_f (ilt_f h2)]
            obtain ⟨q1, q2, q3, q4, q5⟩ := spot_w hu (k := l.length) (i := i) (n := l[i]) (by omega) hi (by omega) (by omega)
            have hroom : ∀ s : Spot, room (iadd (len a) (len [s])) 24 = true := fun s => room_t (by simp only [iadd, len, List.length_singleton]; omega)
            rw [q1, q2, q3, q4, q5]
            rw [grd_t (hroom _), grd_t (hroom _), grd_t (hroom _)]
            refine ⟨?_, by simp only [List.length_append, List.length_singleton]; omega⟩
            unfold colOf
            have e3 : n8 (3 : UInt8) = 3 := rfl
            have e2 : n8 (2 : UInt8) = 2 := rfl
            rw [cnd_ieq, cnd_ieq, e3, e2]
            by_cases c3 : n8 r.2.2.2.2.2.1 = 3
            · rw [if_pos c3, if_pos c3]; rfl
            · rw [if_neg c3, if_neg c3]
              by_cases c2 : n8 r.2.2.2.2.2.1 = 2
              · rw [if_pos c2, if_pos c2]; rfl
              · rw [if_neg c2, if_neg c2]; rfl
      · simp only
        rw [cnd_f (ilt_f (by simp only [len]; omega))]
  · rw [if_neg hu, if_pos hu]
theorem r10_place (r : Reg) (l : List Int) : r10_Place fuelH (r, l) = some (placeS r l) := by
  unfold r10_Place placeS
  simp only
  rw [r10_usable_eq, bnd_some', cnd_bnot]
  by_cases hu : usableR r
  · rw [if_pos hu, if_neg (not_not_intro hu)]
    have hb := usable_bd hu
    by_cases hk : r.2.2.1 < (l.length : Int)
    · rw [cnd_t (ilt_t (show r.2.2.1 < len l from hk)), if_pos hk]
    · rw [cnd_f (ilt_f (show ¬ r.2.2.1 < len l from hk)), if_neg hk, jn_e]
      refine Eq.trans (lst_it (l := l) (fun (a : List Spot) (p : Nat) => (a, (p : Int))) (plRnd r l.length) (fun a => some (a, (0 : Int))) (fun i a => a.length ≤ i) (fun self a i hi ha => ?_) (fun self a _ => ?_) fuelH 0 [] (Nat.zero_le _) (by have := fuelH_eq; omega) (Nat.le_refl _)) (itI_place r l.length l 0 [])
      · have hin : inb (i : Int) (len l) = true := inb_t (by simp only [len]; omega)
        simp only
        rw [cnd_t (ilt_t (by simp only [len]; omega)), grd_t hin, lget_i hi, w64_succ hi (by omega)]
        unfold plRnd
        by_cases h1 : l[i] < 0
        · rw [if_pos h1, cnd_t (ilt_t h1)]; rfl
        · rw [if_neg h1, cnd_f (ilt_f h1)]
          by_cases h2 : r.2.2.2.2.1 < l[i]
          · rw [if_pos h2, cnd_t (ilt_t h2)]; rfl
          · rw [if_neg h2, cnd_f (ilt_f h2), jn_cnd]
            obtain ⟨q1, q2, q3, q4, q5⟩ := spot_w hu (k := l.length) (i := i) (n := l[i]) (by omega) hi (by omega) (by omega)
            have et : (if r.2.2.2.2.2.2 = true then (w64 (iadd (w64 (iadd r.2.1 (i : Int))) (w64 (isub r.2.2.1 (len l)))), r.2.2.2.1, l[i]) else (w64 (iadd r.2.1 (i : Int)), r.2.2.2.1, l[i])) = ((topOf r l.length + (i : Int), r.2.2.2.1, l[i]) : Spot) := by
              have e1 : w64 (isub r.2.2.1 (len l)) = r.2.2.1 - (l.length : Int) := by unfold isub len; rw [w64_id (by omega)]
              have e2 : w64 (iadd r.2.1 (i : Int)) = r.2.1 + (i : Int) := by unfold iadd; rw [w64_id (by omega)]
              have e3 : w64 (iadd (r.2.1 + (i : Int)) (r.2.2.1 - (l.length : Int))) = r.2.1 + (r.2.2.1 - (l.length : Int)) + (i : Int) := by unfold iadd; rw [w64_id (by omega)]; omega
              rw [e1, e2, e3]
              unfold topOf
              split <;> rfl
            rw [et]
            simp only
            have hroom : ∀ s : Spot, room (iadd (len a) (len [s])) 24 = true := fun s => room_t (by simp only [iadd, len, List.length_singleton]; omega)
            rw [q2, q3, q4, q5]
            rw [grd_t (hroom _), grd_t (hroom _), grd_t (hroom _)]
            refine ⟨?_, by simp only [List.length_append, List.length_singleton]; omega⟩
            unfold colOf
            have e3 : n8 (3 : UInt8) = 3 := rfl
            have e2 : n8 (2 : UInt8) = 2 := rfl
            rw [cnd_ieq, cnd_ieq, e3, e2]
            by_cases c3 : n8 r.2.2.2.2.2.1 = 3
            · rw [if_pos c3, if_pos c3]; rfl
            · rw [if_neg c3, if_neg c3]
              by_cases c2 : n8 r.2.2.2.2.2.1 = 2
              · rw [if_pos c2, if_pos c2]; rfl
              · rw [if_neg c2, if_neg c2]; rfl
      · simp only
        rw [cnd_f (ilt_f (by simp only [len]; omega))]
  · rw [if_neg hu, if_pos hu]
end
end Go.Mo
end

section
/-
  Plain facts: the text and the length of a row; events and their check.
-/
namespace Go.Mo
open Go Go.W Go.Lib
set_option maxRecDepth 100000
noncomputable section
abbrev Ev := Int × (Int × Int) × List UInt8 × UInt8 × List UInt8 × List Row

theorem rune_count {s : List UInt8} (hs : s.length ≤ 4000000) : utf8_RuneCountInString fuelH s = some ((rns s).length : Int) := by
  unfold utf8_RuneCountInString
  rw [jn_e]
  have hf : ∀ (l : List Int) (n : Nat), n + l.length ≤ 100000000 → foldR (fun (_ : Int) (a : Int) self => self (w64 (iadd a 1))) (fun a => some a) l (n : Int) = some ((n + l.length : Nat) : Int) := by
    intro l
    induction l with
    | nil => intro n _; rfl
    | cons r l ih =>
      intro n hn
      simp only [List.length_cons] at hn
      simp only [foldR]
      rw [w64_succ (show n < n + 1 by omega) (by omega), ih (n + 1) (by omega)]
      simp only [List.length_cons]
      congr 2
      omega
  refine (str_loop (s := s) (fun (a : Int) (p : Nat) => (a, s, ofN p)) (fun _ a self => self (w64 (iadd a 1))) (fun a => some a) (fun self a p hp => ?_) (fun self a p hp => ?_) fuelH 0 (0 : Int) (by have := fuelH_eq; omega)).trans ?_
  · simp only [toN_ofN]
    rw [cnd_t (nlt_t (show p < nlen s from hp))]
    rfl
  · simp only [toN_ofN]
    rw [cnd_f (nlt_f (show ¬ p < nlen s by unfold nlen; omega))]
  · have := rns_len _ s (Nat.le_refl _)
    have h := hf (rns s) 0 (by omega)
    rw [List.drop_zero]
    simpa using h
theorem ch_len {s : List UInt8} (hs : s.length ≤ 4000000) (hv : vld s = true) : charset_Len fuelH s = some ((rns s).length : Int) := by
  unfold charset_Len
  rw [ch_valid _ hs, bnd_some', hv, cnd_f (by rfl), rune_count hs]
  rfl
theorem r08_len {s : List UInt8} (hs : s.length ≤ 4000000) (hv : vld s = true) : r08_Len fuelH s = some ((rns s).length : Int) := by
  unfold r08_Len
  rw [r08_valid _ hs, bnd_some', hv, cnd_f (by rfl), r08_runes_eq hs]
  rfl
def lenT : Row → Nat
  | [] => 0
  | x :: l => (rns x.1).length + lenT l
def plainT (l : Row) : List UInt8 := l.flatMap (·.1)
/-- a row whose check says yes, of texts that are not too long -/
def okR (l : Row) : Prop := l.length ≤ 16 ∧ (∀ x ∈ l, vld x.1 = true ∧ x.1.length ≤ 4000000) ∧ tot l ≤ 4000000
def smallR (l : Row) : Prop := shortR l ∧ tot l ≤ 4000000
def smallL (l : List Row) : Prop := ∀ r ∈ l, smallR r
theorem okR_of {l : Row} (hs : smallR l) (h : rowChk l = 0) : okR l := by
  obtain ⟨h1, h2⟩ := rowChk_ok h
  exact ⟨h1, fun x hx => ⟨(h2 x hx).1, (hs.1 x hx).1⟩, hs.2⟩
theorem lenT_le : ∀ (l : Row), (∀ x ∈ l, x.1.length ≤ 4000000) → lenT l ≤ 4000000 * l.length
  | [], _ => Nat.le_refl _
  | x :: l, h => by
    have h1 := rns_len _ x.1 (Nat.le_refl _)
    have h2 := h x List.mem_cons_self
    have h3 := lenT_le l fun y hy => h y (List.mem_cons_of_mem _ hy)
    simp only [lenT, List.length_cons]
    omega
theorem lenT_take : ∀ (l : Row) (i : Nat) (h : i < l.length), lenT (l.take (i + 1)) = lenT (l.take i) + (rns l[i].1).length
  | x :: l, 0, _ => by simp [lenT]
  | x :: l, i + 1, h => by
    have := lenT_take l i (by simpa using h)
    simp only [List.take_succ_cons, lenT, this, List.getElem_cons_succ]
    omega
theorem lenT_take_le (l : Row) (i : Nat) : lenT (l.take i) ≤ lenT l := by
  induction l generalizing i with
  | nil => simp [lenT]
  | cons x l ih => cases i with
    | zero => simp [lenT]
    | succ i => simp only [List.take_succ_cons, lenT]; have := ih i; omega
theorem len_loop {l : Row} (h : okR l) (L : List UInt8 → Option Int) (hL : ∀ s : List UInt8, s.length ≤ 4000000 → vld s = true → L s = some ((rns s).length : Int)) :
    fixN (fun (v2 : Int × Int → Option Int) (v3 : Int × Int) =>
    cnd (ilt v3.2 (len l))
      (grd (inb v3.2 (len l))
        (bnd (L (lget l (toN v3.2) ([], (((0 : UInt8), (false, false)), []))).1) fun v4 =>
        cnd (ilt v4 (0 : Int))
          (some (-1 : Int))
          (v2 (w64 (iadd v3.1 v4), w64 (iadd v3.2 (1 : Int))))))
      (some v3.1)) fuelH ((0 : Int), (0 : Int)) = some (lenT l : Int) := by
  have hb := lenT_le l fun x hx => (h.2.1 x hx).2
  have hl := h.1
  refine loop_inv (n := l.length) (fun (a : Nat) (i : Nat) => ((a : Int), (i : Int))) (fun i a => a = lenT (l.take i)) _ (fun self a i hi hI => ?_) (fun self a hI => ?_) fuelH 0 0 (Nat.zero_le _) (by have := fuelH_eq; omega) rfl
  · refine ⟨a + (rns l[i].1).length, ?_, ?_⟩
    · have ht := lenT_take l i hi
      have ht2 := lenT_take_le l (i + 1)
      simp only
      rw [cnd_t (ilt_t (by simp only [len]; omega)), grd_t (inb_t (by simp only [len]; omega)), lget_i hi, hL _ (h.2.1 _ (List.getElem_mem hi)).2 (h.2.1 _ (List.getElem_mem hi)).1, bnd_some', cnd_f (ilt_f (by omega)), w64_succ hi (by omega)]
      have e : w64 (iadd (a : Int) ((rns l[i].1).length : Int)) = ((a + (rns l[i].1).length : Nat) : Int) := by
        unfold iadd; rw [w64_id (by omega)]; omega
      rw [e]
    · rw [lenT_take l i hi, hI]
  · simp only
    rw [cnd_f (ilt_f (by simp only [len]; omega)), hI, List.take_length]
theorem style_len {l : Row} (h : okR l) : style_Len fuelH l = some (lenT l : Int) := by
  unfold style_Len
  rw [jn_e]
  exact len_loop h (charset_Len fuelH) fun s => ch_len
theorem r09_len {l : Row} (h : okR l) : r09_Len fuelH l = some (lenT l : Int) := by
  unfold r09_Len
  rw [jn_e]
  exact len_loop h (r08_Len fuelH) fun s => r08_len

theorem plainT_take (l : Row) (i : Nat) (h : i < l.length) : plainT (l.take (i + 1)) = plainT (l.take i) ++ l[i].1 := by
  unfold plainT
  rw [List.take_succ_eq_append_getElem h, List.flatMap_append]
  simp
theorem plainT_len : ∀ (l : Row), (plainT l).length = tot l
  | [] => rfl
  | x :: l => by
    have h3 := plainT_len l
    unfold plainT at h3 ⊢
    simp only [List.flatMap_cons, List.length_append, tot, h3]
theorem tot_take (l : Row) (i : Nat) : tot (l.take i) ≤ tot l := by
  have h := tot_app (l.take i) (l.drop i)
  rw [List.take_append_drop] at h
  omega
theorem plainT_le {l : Row} (h : okR l) (i : Nat) : (plainT (l.take i)).length ≤ 4000000 := by
  rw [plainT_len]
  have := tot_take l i
  have := h.2.2
  omega
theorem write_str {N : Nat} {a b : List UInt8} (h : a.length + b.length ≤ 100000000) : strings_Builder_WriteString N (((), a), b) = some ((b.length : Int), (), (), a ++ b) := by
  unfold strings_Builder_WriteString
  show (grd (room (iadd (len a) (len b)) 1) (some (len b, (), (), lapp a b))) = _
  rw [grd_t (room_t (by simp only [iadd, len]; omega))]
  rfl
theorem style_plain {l : Row} (h : okR l) : style_Plain fuelH l = some (plainT l) := by
  unfold style_Plain
  rw [jn_e]
  have hl := h.1
  refine loop_inv (n := l.length) (fun (a : List UInt8) (i : Nat) => ((i : Int), (), a)) (fun i a => a = plainT (l.take i)) _ (fun self a i hi hI => ?_) (fun self a hI => ?_) fuelH 0 [] (Nat.zero_le _) (by have := fuelH_eq; omega) rfl
  · refine ⟨a ++ l[i].1, ?_, ?_⟩
    · have h1 := plainT_le h i
      have h2 := (h.2.1 _ (List.getElem_mem hi)).2
      simp only
      rw [cnd_t (ilt_t (by simp only [len]; omega)), grd_t (inb_t (by simp only [len]; omega)), lget_i hi, write_str (by rw [hI]; omega), bnd_some', w64_succ hi (by omega)]
    · rw [plainT_take l i hi, hI]
  · simp only
    rw [cnd_f (ilt_f (by simp only [len]; omega)), hI, List.take_length]
theorem r09_plain {l : Row} (h : okR l) : r09_Plain fuelH l = some (plainT l) := by
  unfold r09_Plain
  rw [jn_e]
  have hl := h.1
  refine loop_inv (n := l.length) (fun (a : List UInt8) (i : Nat) => (a, (i : Int))) (fun i a => a = plainT (l.take i)) _ (fun self a i hi hI => ?_) (fun self a hI => ?_) fuelH 0 [] (Nat.zero_le _) (by have := fuelH_eq; omega) rfl
  · refine ⟨a ++ l[i].1, ?_, ?_⟩
    · have h1 := plainT_le h i
      have h2 := (h.2.1 _ (List.getElem_mem hi)).2
      simp only
      rw [cnd_t (ilt_t (by simp only [len]; omega)), grd_t (inb_t (by simp only [len]; omega)), lget_i hi, grd_t (catOk_t (by rw [hI]; simp only [iadd, len]; omega)), w64_succ hi (by omega)]
      rfl
    · rw [plainT_take l i hi, hI]
  · simp only
    rw [cnd_f (ilt_f (by simp only [len]; omega)), hI, List.take_length]

def sp2 : List UInt8 → Bool
  | [] => false
  | [_] => false
  | a :: b :: t => ([32, 32] : List UInt8).isPrefixOf (a :: b :: t) || sp2 (b :: t)
theorem sp2_index : ∀ t : List UInt8, decide (0 ≤ index t [32, 32]) = sp2 t
  | [] => rfl
  | [a] => by
    have e : index [a] [32, 32] = if ([32, 32] : List UInt8).isPrefixOf [a] = true then 0 else if (index [] [32, 32] == -1) = true then -1 else index [] [32, 32] + 1 := rfl
    have hp : ([32, 32] : List UInt8).isPrefixOf [a] = false := by cases h : ((32 : UInt8) == a) <;> simp [List.isPrefixOf, h]
    rw [e, hp]
    rfl
  | a :: b :: t => by
    have ih := sp2_index (b :: t)
    have hg := index_ge (b :: t) [32, 32]
    have e : index (a :: b :: t) [32, 32] = if ([32, 32] : List UInt8).isPrefixOf (a :: b :: t) = true then 0 else if (index (b :: t) [32, 32] == -1) = true then -1 else index (b :: t) [32, 32] + 1 := rfl
    have e2 : sp2 (a :: b :: t) = (([32, 32] : List UInt8).isPrefixOf (a :: b :: t) || sp2 (b :: t)) := rfl
    rw [e, e2, ← ih]
    generalize index (b :: t) [32, 32] = m at hg ⊢
    cases ([32, 32] : List UInt8).isPrefixOf (a :: b :: t) with
    | true => rfl
    | false =>
      rw [if_neg (by decide), Bool.false_or]
      by_cases h1 : m = -1
      · subst h1; rfl
      · rw [if_neg (by simpa using h1), decide_eq_true (by omega), decide_eq_true (by omega)]
theorem sp2_contains (t : List UInt8) : contains t [32, 32] = sp2 t := sp2_index t
def neatT (t : List UInt8) : Bool := if t = [] then false else if n8 (lget t (toN (0 : Int)) 0) = n8 (32 : UInt8) then false else if n8 (lget t (toN (w64 (isub (len t) 1))) 0) = n8 (32 : UInt8) then false else !sp2 t
theorem sp2_step {t : List UInt8} {i : Nat} (h : i + 1 < t.length) : sp2 (t.drop i) = (((32 == t[i]) && ((32 == t[i + 1]) && true)) || sp2 (t.drop (i + 1))) := by
  rw [List.drop_eq_getElem_cons (show i < t.length by omega), List.drop_eq_getElem_cons h]
  rfl
theorem beq_n {a : UInt8} (h : ¬ n8 a = n8 (32 : UInt8)) : ((32 : UInt8) == a) = false := by
  rw [beq_eq_false_iff_ne]; intro e; exact h (by rw [← e])
theorem beq_y {a : UInt8} (h : n8 a = n8 (32 : UInt8)) : ((32 : UInt8) == a) = true := by
  rw [n8_inj h]; rfl
theorem neat_loop {t : List UInt8} (ht : t.length ≤ 100000000) : ∀ (fuel i : Nat), t.length - (i + 1) < fuel → i + 1 ≤ t.length →
    fixN (fun (v2 : Int → Option Bool) (v3 : Int) =>
              cnd (ilt v3 (len t))
                (grd (inb v3 (len t))
                  (cnd (ieq (n8 (lget t (toN v3) (0 : UInt8))) (n8 (32 : UInt8)))
                    (grd (inb (w64 (isub v3 (1 : Int))) (len t))
                      (cnd (ieq (n8 (lget t (toN (w64 (isub v3 (1 : Int)))) (0 : UInt8))) (n8 (32 : UInt8)))
                        (some false)
                        (v2 (w64 (iadd v3 (1 : Int))))))
                    (v2 (w64 (iadd v3 (1 : Int))))))
                (some true)) fuel ((i + 1 : Nat) : Int) = some (!sp2 (t.drop i))
  | 0, i, h, _ => by omega
  | fuel + 1, i, h, hi => by
    rw [fixN_s]
    by_cases hl : i + 1 < t.length
    · have h0 : inb ((i : Nat) : Int) (len t) = true := inb_t (by simp only [len]; omega)
      rw [cnd_t (ilt_t (by simp only [len]; omega)), grd_t (inb_t (by simp only [len]; omega)), lget_i hl, w64_succ hl (by omega), w64_back (by omega), grd_t h0, lget_i (show i < t.length by omega), sp2_step hl, neat_loop ht fuel (i + 1) (by omega) (by omega), cnd_ieq, cnd_ieq]
      by_cases c1 : n8 t[i + 1] = n8 (32 : UInt8)
      · rw [if_pos c1, beq_y c1]
        by_cases c2 : n8 t[i] = n8 (32 : UInt8)
        · rw [if_pos c2, beq_y c2]; rfl
        · rw [if_neg c2, beq_n c2]; rfl
      · rw [if_neg c1, beq_n c1]; simp
    · rw [cnd_f (ilt_f (by simp only [len]; omega))]
      have : t.drop i = [t[i]] := by
        rw [List.drop_eq_getElem_cons (show i < t.length by omega), List.drop_eq_nil_of_le (by omega)]
      rw [this]
      rfl
theorem r11_neat_eq {t : List UInt8} (ht : t.length ≤ 4000000) : r11_neat fuelH t = some (neatT t) := by
  unfold r11_neat neatT
  by_cases h0 : t = []
  · rw [cnd_t (by rw [seq_t]; exact h0), if_pos h0]
  · have hl : 0 < t.length := List.length_pos_iff.2 h0
    have e1 : w64 (isub (len t) 1) = ((t.length - 1 : Nat) : Int) := w64_pred hl (by omega)
    have hin : inb (w64 (isub (len t) 1)) (len t) = true := by rw [e1]; exact inb_t (by simp only [len]; omega)
    rw [cnd_f (by rw [← Bool.not_eq_true, seq_t]; exact h0), if_neg h0, grd_t (inb_t (by simp only [len]; omega)), cnd_ieq]
    by_cases h1 : n8 (lget t (toN (0 : Int)) 0) = n8 (32 : UInt8)
    · rw [if_pos h1, if_pos h1]
    · rw [if_neg h1, if_neg h1, grd_t hin, cnd_ieq]
      by_cases h2 : n8 (lget t (toN (w64 (isub (len t) 1))) 0) = n8 (32 : UInt8)
      · rw [if_pos h2, if_pos h2]
      · rw [if_neg h2, if_neg h2, jn_e]
        exact neat_loop (by omega) fuelH 0 (by have := fuelH_eq; omega) hl
def rowE (l : Row) : Int := if rowChk l ≠ 0 then rowChk l else if neatT (plainT l) = false then 4 else if 32 < lenT l then 11 else 0
theorem event_row_eq {l : Row} (hs : smallR l) : event_row fuelH l = some (rowE l) := by
  unfold event_row rowE
  rw [bnd_s (style_check hs.1)]
  by_cases hk : rowChk l ≠ 0
  · rw [cnd_t (ine_t hk), if_pos hk]
  · rw [cnd_f (ine_f (by simpa using hk)), if_neg hk]
    have hr := okR_of hs (by simpa using hk)
    have hp := plainT_le hr l.length
    rw [List.take_length] at hp
    rw [bnd_s (style_plain hr)]
    generalize plainT l = t at hp ⊢
    unfold neatT
    by_cases h0 : t = []
    · rw [cnd_t (by rw [seq_t]; exact h0), if_pos h0, if_pos rfl]
    · have hl : 0 < t.length := List.length_pos_iff.2 h0
      have e1 : w64 (isub (len t) 1) = ((t.length - 1 : Nat) : Int) := w64_pred hl (by omega)
      have hin : inb (w64 (isub (len t) 1)) (len t) = true := by rw [e1]; exact inb_t (by simp only [len]; omega)
      rw [cnd_f (by rw [← Bool.not_eq_true, seq_t]; exact h0), if_neg h0, grd_t (inb_t (by simp only [len]; omega)), cnd_ieq]
      by_cases h1 : n8 (lget t (toN (0 : Int)) 0) = n8 (32 : UInt8)
      · rw [if_pos h1, if_pos h1, if_pos rfl]
      · rw [if_neg h1, if_neg h1, grd_t hin, cnd_ieq]
        by_cases h2 : n8 (lget t (toN (w64 (isub (len t) 1))) 0) = n8 (32 : UInt8)
        · rw [if_pos h2, if_pos h2, if_pos rfl]
        · rw [if_neg h2, if_neg h2]
          have hc : strings_Contains fuelH (t, [32, 32]) = some (sp2 t) := by
            show grd (decide (t.length < 4294967281)) (some (contains t [32, 32])) = _
            rw [grd_t (decide_eq_true (by omega)), sp2_contains]
          rw [bnd_s hc]
          by_cases h3 : sp2 t = true
          · rw [cnd_t h3, h3, if_pos (by decide)]
          · rw [cnd_f (by simpa using h3), Bool.eq_false_iff.2 h3, if_neg (by simp), bnd_s (style_len hr), cnd_ilt]
            by_cases h4 : 32 < lenT l
            · rw [if_pos (by omega), if_pos h4]
            · rw [if_neg (by omega), if_neg h4]
end
end Go.Mo
end

section
/-
  Plain facts: the check of an event, on both sides; spots; the length of an event.
-/
namespace Go.Mo
open Go Go.W Go.Lib
set_option maxRecDepth 100000
noncomputable section

theorem spans_eq (N : Nat) (s : Int × Int) : event_spans N s = some (decide (0 ≤ s.1 ∧ s.1 < s.2 ∧ s.2 ≤ 5184000)) := by
  unfold event_spans
  rw [cnd_ile, cnd_ilt]
  by_cases h1 : 0 ≤ s.1
  · rw [if_pos h1]
    by_cases h2 : s.1 < s.2
    · rw [if_pos h2]; simp [h1, h2, ile]
    · rw [if_neg h2]; simp [h2]
  · rw [if_neg h1]; simp [h1]
theorem spanned_eq (N : Nat) (s : Int × Int) : r11_spanned N s = some (decide (0 ≤ s.1 ∧ s.1 < s.2 ∧ s.2 ≤ 5184000)) := spans_eq N s
def kindP (k : UInt8) : Bool := match event_KindName fuelH k with
  | some s => decide (seq s [] = decide (¬ (1 ≤ n8 k ∧ n8 k ≤ 4)))
  | none => false
theorem kind_tab (k : UInt8) : ∃ s, event_KindName fuelH k = some s ∧ seq s [] = decide (¬ (1 ≤ n8 k ∧ n8 k ≤ 4)) := by
  have h : kindP k = true := all_u8 (P := kindP) (by kernel_rfl) k
  unfold kindP at h
  split at h
  · rename_i s hs
    exact ⟨s, hs, of_decide_eq_true h⟩
  · cases h
theorem jn_sp {β : Type} (K : Bool → Option β) (s : List UInt8) (X : Option Bool) (hX : X = some (nm s)) : jn K (fun v => cnd (sne s ([] : List UInt8)) (bnd X fun w => v (bnot w)) (v false)) = K (decide (s ≠ [] ∧ nm s = false)) := by
  rw [jn_e, hX, bnd_some']
  by_cases h : s = []
  · subst h; rfl
  · rw [cnd_t (by simp [sne, h])]
    congr 1
    cases hn : nm s <;> simp [bnot, h]
def rowsE : List Row → Int → Int
  | [], k => k
  | l :: r, k => if rowE l ≠ 0 then rowE l else rowsE r k
def lens (l : List Row) : List Int := l.map fun r => (lenT r : Int)
def evChk (x : Ev) (rs : List Reg) : Int :=
  if x.1 < 1 then 2 else if 1099511627776 < x.1 then 2 else
  if ¬ (0 ≤ x.2.1.1 ∧ x.2.1.1 < x.2.1.2 ∧ x.2.1.2 ≤ 5184000) then 2 else
  match findR rs x.2.2.1 with
  | none => 6
  | some r =>
    if ¬ (1 ≤ n8 x.2.2.2.1 ∧ n8 x.2.2.2.1 ≤ 4) then 3 else
    if x.2.2.2.2.1 ≠ [] ∧ nm x.2.2.2.2.1 = false then 5 else
    if x.2.2.2.2.2.length = 0 then 9 else if 4 < x.2.2.2.2.2.length then 9 else
    rowsE x.2.2.2.2.2 (placeS r (lens x.2.2.2.2.2)).2
theorem rowE_ok {l : Row} (hs : smallR l) (h : rowE l = 0) : okR l := by
  unfold rowE at h
  split at h
  · rename_i hc; exact absurd h hc
  · rename_i hc; exact okR_of hs (by simpa using hc)
theorem event_lens_eq {x : Ev} (h : ∀ l ∈ x.2.2.2.2.2, okR l) (hl : x.2.2.2.2.2.length ≤ 1000000) : event_lens fuelH x = some (lens x.2.2.2.2.2) := by
  unfold event_lens
  rw [jn_e]
  generalize x.2.2.2.2.2 = l at h hl ⊢
  refine loop_inv (n := l.length) (fun (a : List Int) (i : Nat) => (a, (i : Int))) (fun i a => a = lens (l.take i)) _ (fun self a i hi hI => ?_) (fun self a hI => ?_) fuelH 0 [] (Nat.zero_le _) (by have := fuelH_eq; omega) rfl
  · refine ⟨a ++ [(lenT l[i] : Int)], ?_, ?_⟩
    · have ha : a.length ≤ i := by rw [hI]; unfold lens; rw [List.length_map, List.length_take]; omega
      simp only
      rw [cnd_t (ilt_t (by simp only [len]; omega)), grd_t (inb_t (by simp only [len]; omega)), lget_i hi, style_len (h _ (List.getElem_mem hi)), bnd_some', grd_t (room_t (by simp only [iadd, len, List.length_singleton]; omega)), w64_succ hi (by omega)]
      rfl
    · rw [hI]; unfold lens; rw [List.take_succ_eq_append_getElem hi, List.map_append]; rfl
  · simp only
    rw [cnd_f (ilt_f (by simp only [len]; omega)), hI, List.take_length]
theorem itI_rows (K : Option Int) (k : Int) : ∀ (l : List Row) (i : Nat), ((∀ r ∈ l, rowE r = 0) → K = some k) → itI (fun _ (r : Row) (_ : Unit) => if rowE r ≠ 0 then (.inl (some (rowE r)) : Option Int ⊕ Unit) else .inr ()) (fun _ => K) i l () = some (rowsE l k)
  | [], i, h => h fun r hr => by cases hr
  | r :: l, i, h => by
    simp only [itI, rowsE]
    by_cases hc : rowE r ≠ 0
    · rw [if_pos hc, if_pos hc]
    · rw [if_neg hc, if_neg hc]
      refine itI_rows K k l (i + 1) fun hl => h fun q hq => ?_
      rcases List.mem_cons.1 hq with rfl | hq
      · simpa using hc
      · exact hl q hq
theorem itI_rows2 (K : List Int → Option Int) (k : List Int → Int) (hK : ∀ a, K a = some (k a)) : ∀ (l : List Row) (i : Nat) (a : List Int), itI (fun _ (r : Row) (a : List Int) => if rowE r ≠ 0 then (.inl (some (rowE r)) : Option Int ⊕ List Int) else .inr (a ++ [(lenT r : Int)])) K i l a = some (rowsE l (k (a ++ lens l)))
  | [], i, a => by simp [itI, hK, rowsE, lens]
  | r :: l, i, a => by
    simp only [itI, rowsE]
    by_cases hc : rowE r ≠ 0
    · rw [if_pos hc, if_pos hc]
    · rw [if_neg hc, if_neg hc]
      simp only
      rw [itI_rows2 K k hK l (i + 1)]
      simp [lens]
theorem event_check_eq {x : Ev} {rs : List Reg} (hs : smallL x.2.2.2.2.2) (hr : rs.length ≤ 4000000) : event_Check fuelH (x, rs) = some (evChk x rs) := by
  unfold event_Check evChk
  simp only
  rw [region_find _ hr, bnd_some', cnd_ilt]
  by_cases c1 : x.1 < 1
  · rw [if_pos c1, if_pos c1]
  rw [if_neg c1, if_neg c1, cnd_ilt]
  by_cases c2 : 1099511627776 < x.1
  · rw [if_pos c2, if_pos c2]
  rw [if_neg c2, if_neg c2, spans_eq, bnd_some', cnd_bnot]
  by_cases c3 : 0 ≤ x.2.1.1 ∧ x.2.1.1 < x.2.1.2 ∧ x.2.1.2 ≤ 5184000
  · rw [if_pos c3, if_neg (not_not_intro c3)]
    unfold findP
    cases hf : findR rs x.2.2.1 with
    | none => rfl
    | some r =>
      simp only
      rw [cnd_f (by rfl)]
      obtain ⟨s, k1, k2⟩ := kind_tab x.2.2.2.1
      rw [bnd_s k1, k2, cnd_dec]
      by_cases c4 : 1 ≤ n8 x.2.2.2.1 ∧ n8 x.2.2.2.1 ≤ 4
      · rw [if_neg (not_not_intro c4), if_neg (not_not_intro c4), jn_sp _ _ _ (lines_name _), cnd_dec]
        by_cases c5 : x.2.2.2.2.1 ≠ [] ∧ nm x.2.2.2.2.1 = false
        · rw [if_pos c5, if_pos c5]
        rw [if_neg c5, if_neg c5]
        by_cases c6 : x.2.2.2.2.2.length = 0
        · rw [cnd_t (ieq_t (by simp only [len]; omega)), if_pos c6]
        rw [cnd_f (ieq_f (by simp only [len]; omega)), if_neg c6]
        by_cases c7 : 4 < x.2.2.2.2.2.length
        · rw [cnd_t (ilt_t (by simp only [len]; omega)), if_pos c7]
        rw [cnd_f (ilt_f (by simp only [len]; omega)), if_neg c7, jn_e]
        have hlen := @event_lens_eq x
        generalize x.2.2.2.2.2 = l at hs c6 c7 hlen ⊢
        refine Eq.trans (lst_it (l := l) (fun (_ : Unit) (p : Nat) => (p : Int)) (fun _ (r : Row) (_ : Unit) => if rowE r ≠ 0 then .inl (some (rowE r)) else .inr ()) (fun _ => bnd (event_lens fuelH x) fun v5 => bnd (region_Place fuelH (r, v5)) fun v6 => some v6.2) (fun _ _ => True) (fun self a i hi _ => ?_) (fun self a _ => ?_) fuelH 0 () (Nat.zero_le _) (by have := fuelH_eq; omega) trivial) (itI_rows _ _ l 0 fun hl => ?_)
        · rw [cnd_t (ilt_t (by simp only [len]; omega)), grd_t (inb_t (by simp only [len]; omega)), lget_i hi, bnd_s (event_row_eq (hs _ (List.getElem_mem hi))), w64_succ hi (by omega)]
          by_cases hc : rowE l[i] ≠ 0
          · rw [if_pos hc, cnd_t (ine_t hc)]; rfl
          · rw [if_neg hc, cnd_f (ine_f (by simpa using hc))]
            exact ⟨rfl, trivial⟩
        · rw [cnd_f (ilt_f (by simp only [len]; omega))]
        · rw [bnd_s (hlen (fun q hq => rowE_ok (hs q hq) (hl q hq)) (by omega)), bnd_s (region_place _ _)]
      · rw [if_pos c4, if_pos c4]
  · rw [if_neg c3, if_pos c3]
theorem r11_check_eq {x : Ev} {rs : List Reg} (hs : smallL x.2.2.2.2.2) (hr : rs.length ≤ 4000000) : r11_Check fuelH (x, rs) = some (evChk x rs) := by
  unfold r11_Check evChk
  simp only
  rw [cnd_ilt]
  by_cases c1 : x.1 < 1
  · rw [if_pos c1, if_pos c1]
  rw [if_neg c1, if_neg c1, cnd_ilt]
  by_cases c2 : 1099511627776 < x.1
  · rw [if_pos c2, if_pos c2]
  rw [if_neg c2, if_neg c2, spanned_eq, bnd_some', cnd_bnot]
  by_cases c3 : 0 ≤ x.2.1.1 ∧ x.2.1.1 < x.2.1.2 ∧ x.2.1.2 ≤ 5184000
  · rw [if_pos c3, if_neg (not_not_intro c3), r10_find, region_find _ hr, bnd_some']
    unfold findP
    cases hf : findR rs x.2.2.1 with
    | none => rfl
    | some r =>
      simp only
      rw [cnd_f (by rfl)]
      have e1 : n8 (1 : UInt8) = 1 := rfl
      have e4 : n8 (4 : UInt8) = 4 := rfl
      rw [cnd_ilt, cnd_ilt, e1, e4]
      by_cases c4 : 1 ≤ n8 x.2.2.2.1 ∧ n8 x.2.2.2.1 ≤ 4
      · rw [if_neg (by omega), if_neg (by omega), if_neg (not_not_intro c4), jn_sp _ _ _ (r07_name _), cnd_dec]
        by_cases c5 : x.2.2.2.2.1 ≠ [] ∧ nm x.2.2.2.2.1 = false
        · rw [if_pos c5, if_pos c5]
        rw [if_neg c5, if_neg c5]
        by_cases c6 : x.2.2.2.2.2.length = 0
        · rw [cnd_t (ieq_t (by simp only [len]; omega)), if_pos c6]
        rw [cnd_f (ieq_f (by simp only [len]; omega)), if_neg c6]
        by_cases c7 : 4 < x.2.2.2.2.2.length
        · rw [cnd_t (ilt_t (by simp only [len]; omega)), if_pos c7]
        rw [cnd_f (ilt_f (by simp only [len]; omega)), if_neg c7, jn_e]
        generalize x.2.2.2.2.2 = l at hs c6 c7 ⊢
        refine Eq.trans (lst_it (l := l) (fun (a : List Int) (p : Nat) => (a, (p : Int))) (fun _ (r : Row) (a : List Int) => if rowE r ≠ 0 then .inl (some (rowE r)) else .inr (a ++ [(lenT r : Int)])) (fun a => bnd (r10_Place fuelH (r, a)) fun v4 => some v4.2) (fun i a => a.length ≤ i) (fun self a i hi ha => ?_) (fun self a _ => ?_) fuelH 0 [] (Nat.zero_le _) (by have := fuelH_eq; omega) (Nat.le_refl _)) (itI_rows2 _ (fun a => (placeS r a).2) (fun a => by rw [r10_place]; rfl) l 0 [])
        · have hsr := hs _ (List.getElem_mem hi)
          have hin : inb (i : Int) (len l) = true := inb_t (by simp only [len]; omega)
          simp only
          rw [cnd_t (ilt_t (by simp only [len]; omega)), grd_t hin, lget_i hi, bnd_s (r09_check hsr.1), w64_succ hi (by omega)]
          generalize l[i] = q at hsr ⊢
          unfold rowE
          by_cases hk : rowChk q ≠ 0
          · rw [if_pos hk, if_pos hk, cnd_t (ine_t hk)]; rfl
          · have hok := okR_of hsr (by simpa using hk)
            have hp := plainT_le hok q.length
            rw [List.take_length] at hp
            rw [if_neg hk, cnd_f (ine_f (by simpa using hk)), bnd_s (r09_plain hok), bnd_s (r11_neat_eq hp), cnd_ite]
            by_cases hn : neatT (plainT q) = false
            · rw [if_pos (by rw [hn]; rfl), if_pos hn, if_pos (by decide)]; rfl
            · rw [if_neg (by rw [bnot_t]; exact hn), if_neg hn, bnd_s (r09_len hok), cnd_ilt]
              by_cases h4 : 32 < lenT q
              · rw [if_pos (by omega), if_pos h4, if_pos (by decide)]; rfl
              · rw [if_neg (by omega), if_neg h4, if_neg (by decide), bnd_s (r09_len hok), grd_t (room_t (by simp only [iadd, len, List.length_singleton]; omega))]
                exact ⟨rfl, by simp only [List.length_append, List.length_singleton]; omega⟩
        · simp only
          rw [cnd_f (ilt_f (by simp only [len]; omega))]
      · rw [if_pos c4]
        by_cases h : n8 x.2.2.2.1 < 1
        · rw [if_pos h]
        · rw [if_neg h, if_pos (by omega)]
  · rw [if_neg c3, if_pos c3]
end
end Go.Mo
end

section
/-
  Plain facts: the header of a document; events by their number; the length of an event.
-/
namespace Go.Mo
open Go Go.W Go.Lib
set_option maxRecDepth 100000
noncomputable section
abbrev Cmt := Int × Int × Int × Int × List UInt8 × List UInt8 × Bool × Bool
abbrev Doc := List UInt8 × List UInt8 × UInt8 × Bool × Int × List Reg × List Ev × List Cmt

def tvB (r : UInt8) : Bool := (timebase_Valid fuelH r).getD false
def cdB (r : UInt8) : Bool := (timebase_CanDrop fuelH r).getD false
theorem tv_eq (r : UInt8) : timebase_Valid fuelH r = some (tvB r) ∧ timebase_CanDrop fuelH r = some (cdB r) :=
  of_decide_eq_true (all_u8 (P := fun r => decide (timebase_Valid fuelH r = some (tvB r) ∧ timebase_CanDrop fuelH r = some (cdB r))) (by kernel_rfl) r)
theorem r02_eq (r : UInt8) : r02_Valid fuelH r = some (tvB r) ∧ r02_CanDrop fuelH r = some (cdB r) := by
  obtain ⟨h1, h2, _⟩ := rate_eq fuelH r
  rw [← h1, ← h2]
  exact tv_eq r
def rateBad (r : UInt8) (drop : Bool) : Prop := tvB r = false ∨ (drop = true ∧ cdB r = false)
instance (r : UInt8) (drop : Bool) : Decidable (rateBad r drop) := by unfold rateBad; infer_instance
def headChk (d : Doc) : Int :=
  if vld d.1 = false then 10 else if 400 < d.1.length then 9 else if d.2.1 ≠ [] ∧ nm d.2.1 = false then 5 else
  if rateBad d.2.2.1 d.2.2.2.1 then 13 else if d.2.2.2.2.1 < 0 then 2 else if 1099511627776 < d.2.2.2.2.1 then 2 else 0
theorem rate_chk (r : UInt8) (b : Bool) : document_rate fuelH (r, b) = some (if rateBad r b then 13 else 0) := by
  unfold document_rate
  obtain ⟨h1, h2⟩ := tv_eq r
  simp only
  rw [h1, bnd_some']
  by_cases c1 : tvB r = false
  · rw [cnd_t (by rw [c1]; rfl), if_pos (show rateBad r b from .inl c1)]
  · rw [cnd_f (by rw [← Bool.not_eq_true, bnot_t]; exact c1)]
    cases b with
    | false =>
      rw [cnd_f rfl, if_neg]
      rintro (h | h)
      · exact c1 h
      · cases h.1
    | true =>
      rw [cnd_t rfl, h2, bnd_some']
      by_cases c2 : cdB r = false
      · rw [cnd_t (by rw [c2]; rfl), if_pos (show rateBad r true from .inr ⟨rfl, c2⟩)]
      · rw [cnd_f (by rw [← Bool.not_eq_true, bnot_t]; exact c2), if_neg]
        rintro (h | h)
        · exact c1 h
        · exact c2 h.2
theorem header_eq {d : Doc} (hd : d.1.length ≤ 4000000) : document_header fuelH d = some (headChk d) := by
  unfold document_header headChk
  rw [jn_e, ch_valid _ hd, bnd_some']
  by_cases c1 : vld d.1 = false
  · rw [cnd_t (by rw [c1]; rfl), if_pos c1]
  rw [cnd_f (by rw [← Bool.not_eq_true, bnot_t]; exact c1), if_neg c1]
  by_cases c2 : 400 < d.1.length
  · rw [cnd_t (ilt_t (by simp only [len]; omega)), if_pos c2]
  rw [cnd_f (ilt_f (by simp only [len]; omega)), if_neg c2, lines_name, bnd_some', rate_chk, bnd_some']
  have hrest : cnd (ine (if rateBad d.2.2.1 d.2.2.2.1 then (13 : Int) else 0) 0) (some (if rateBad d.2.2.1 d.2.2.2.1 then (13 : Int) else 0)) (cnd (ilt d.2.2.2.2.1 0) (some (2 : Int)) (cnd (ilt 1099511627776 d.2.2.2.2.1) (some 2) (some 0))) = some (if rateBad d.2.2.1 d.2.2.2.1 then 13 else if d.2.2.2.2.1 < 0 then 2 else if 1099511627776 < d.2.2.2.2.1 then 2 else 0) := by
    by_cases c4 : rateBad d.2.2.1 d.2.2.2.1
    · rw [if_pos c4, if_pos c4]; rfl
    · rw [if_neg c4, if_neg c4, cnd_f (by rfl), cnd_ilt, cnd_ilt]
      by_cases c5 : d.2.2.2.2.1 < 0
      · rw [if_pos c5, if_pos c5]
      rw [if_neg c5, if_neg c5]
      by_cases c6 : 1099511627776 < d.2.2.2.2.1
      · rw [if_pos c6, if_pos c6]
      · rw [if_neg c6, if_neg c6]
  rw [hrest]
  generalize (if rateBad d.2.2.1 d.2.2.2.1 then (13 : Int) else if d.2.2.2.2.1 < 0 then 2 else if 1099511627776 < d.2.2.2.2.1 then 2 else 0) = R
  by_cases c3 : d.2.1 = []
  · rw [cnd_f (by simp [sne, c3]), if_neg fun h => h.1 c3]
  · rw [cnd_t (by simp [sne, c3])]
    by_cases c4 : nm d.2.1 = false
    · rw [cnd_t (by rw [c4]; rfl), if_pos ⟨c3, c4⟩]
    · rw [cnd_f (by rw [← Bool.not_eq_true, bnot_t]; exact c4), if_neg fun h => c4 h.2]
theorem checkHead_eq {d : Doc} (hd : d.1.length ≤ 4000000) : r12_checkHead fuelH d = some (headChk d) := by
  unfold r12_checkHead headChk
  rw [r08_valid _ hd, bnd_some']
  by_cases c1 : vld d.1 = false
  · rw [cnd_t (by rw [c1]; rfl), if_pos c1]
  rw [cnd_f (by rw [← Bool.not_eq_true, bnot_t]; exact c1), if_neg c1]
  by_cases c2 : 400 < d.1.length
  · rw [cnd_t (ilt_t (by simp only [len]; omega)), if_pos c2]
  rw [cnd_f (ilt_f (by simp only [len]; omega)), if_neg c2, jn_sp _ _ _ (r07_name _), cnd_dec]
  by_cases c3 : d.2.1 ≠ [] ∧ nm d.2.1 = false
  · rw [if_pos c3, if_pos c3]
  rw [if_neg c3, if_neg c3, jn_e]
  obtain ⟨h1, h2⟩ := r02_eq d.2.2.1
  rw [h1, bnd_some', h2, bnd_some']
  have hrest : ∀ b : Bool, b = decide (rateBad d.2.2.1 d.2.2.2.1) → cnd b (some (13 : Int)) (cnd (ilt d.2.2.2.2.1 0) (some (2 : Int)) (cnd (ilt 1099511627776 d.2.2.2.2.1) (some 2) (some 0))) = some (if rateBad d.2.2.1 d.2.2.2.1 then 13 else if d.2.2.2.2.1 < 0 then 2 else if 1099511627776 < d.2.2.2.2.1 then 2 else 0) := by
    rintro b rfl
    rw [cnd_dec, cnd_ilt, cnd_ilt]
    by_cases c4 : rateBad d.2.2.1 d.2.2.2.1
    · rw [if_pos c4, if_pos c4]
    rw [if_neg c4, if_neg c4]
    by_cases c5 : d.2.2.2.2.1 < 0
    · rw [if_pos c5, if_pos c5]
    rw [if_neg c5, if_neg c5]
    by_cases c6 : 1099511627776 < d.2.2.2.2.1
    · rw [if_pos c6, if_pos c6]
    · rw [if_neg c6, if_neg c6]
  by_cases c1 : tvB d.2.2.1 = false
  · rw [cnd_t (by rw [c1]; rfl)]
    exact hrest true (decide_eq_true (show rateBad _ _ from .inl c1)).symm
  · rw [cnd_f (by rw [← Bool.not_eq_true, bnot_t]; exact c1)]
    cases hb : d.2.2.2.1 with
    | false =>
      rw [cnd_f rfl]
      rw [hb] at hrest
      refine hrest false (decide_eq_false ?_).symm
      rintro (h | h)
      · exact c1 h
      · cases h.1
    | true =>
      rw [cnd_t rfl]
      rw [hb] at hrest
      refine hrest _ ?_
      cases hc : cdB d.2.2.1 with
      | false => exact (decide_eq_true (show rateBad _ _ from .inr ⟨rfl, hc⟩)).symm
      | true =>
        refine (decide_eq_false ?_).symm
        rintro (h | h)
        · exact c1 h
        · rw [hc] at h; cases h.2

/-- the events' numbers with their places -/
def mapE : Nat → List Ev → List (Int × Int)
  | _, [] => []
  | i, x :: l => (x.1, (i : Int)) :: mapE (i + 1) l
def findE : Nat → List Ev → Int → Int
  | _, [], _ => -1
  | i, x :: l, k => if x.1 = k then (i : Int) else findE (i + 1) l k
def hasE (l : List Ev) (k : Int) : Prop := ∃ x ∈ l, x.1 = k
instance (l : List Ev) (k : Int) : Decidable (hasE l k) := by unfold hasE; infer_instance
theorem mapE_app : ∀ (a b : List Ev) (i : Nat), mapE i (a ++ b) = mapE i a ++ mapE (i + a.length) b
  | [], b, i => by simp [mapE]
  | x :: a, b, i => by
    simp only [List.cons_append, mapE, mapE_app a b (i + 1), List.length_cons]
    congr 3; omega
theorem mhas_mapE : ∀ (l : List Ev) (i : Nat) (k : Int), mhas ieq (mapE i l) k = decide (hasE l k)
  | [], i, k => by simp [mapE, mhas, hasE]
  | x :: l, i, k => by
    simp only [mapE, mhas, mhas_mapE l (i + 1) k]
    by_cases h : k = x.1
    · rw [ieq_t h, decide_eq_true (show hasE (x :: l) k from ⟨x, List.mem_cons_self, h.symm⟩)]; rfl
    · rw [ieq_f h]
      show (false || _) = _
      rw [Bool.false_or]
      exact decide_eq_decide.2 ⟨fun ⟨y, h1, h2⟩ => ⟨y, List.mem_cons_of_mem _ h1, h2⟩, fun ⟨y, h1, h2⟩ => by
        rcases List.mem_cons.1 h1 with rfl | h1
        · exact absurd h2.symm h
        · exact ⟨y, h1, h2⟩⟩
theorem mput_new {k v : Int} : ∀ (m : List (Int × Int)), mhas ieq m k = false → mput ieq m k v = m ++ [(k, v)]
  | [], _ => rfl
  | x :: m, h => by
    simp only [mhas, bor, Bool.or_eq_false_iff] at h
    simp only [mput, h.1, mput_new m h.2]
    rfl
theorem mget_mapE : ∀ (l : List Ev) (i : Nat) (k : Int), hasE l k → mget ieq 0 (mapE i l) k = findE i l k
  | [], i, k, h => by obtain ⟨x, h, _⟩ := h; cases h
  | x :: l, i, k, h => by
    simp only [mapE, mget, findE]
    by_cases hc : x.1 = k
    · rw [ieq_t hc.symm, if_pos hc]; rfl
    · rw [ieq_f (fun e => hc e.symm), if_neg hc]
      obtain ⟨y, h1, h2⟩ := h
      rcases List.mem_cons.1 h1 with rfl | h1
      · exact absurd h2 hc
      · exact mget_mapE l (i + 1) k ⟨y, h1, h2⟩
theorem findE_no : ∀ (l : List Ev) (i : Nat) (k : Int), ¬ hasE l k → findE i l k = -1
  | [], i, k, _ => rfl
  | x :: l, i, k, h => by
    simp only [findE]
    rw [if_neg fun e => h ⟨x, List.mem_cons_self, e⟩]
    exact findE_no l (i + 1) k fun ⟨y, h1, h2⟩ => h ⟨y, List.mem_cons_of_mem _ h1, h2⟩
theorem findE_yes : ∀ (l : List Ev) (i : Nat) (k : Int), hasE l k → ∃ j, ∃ h : j < l.length, findE i l k = ((i + j : Nat) : Int) ∧ l[j].1 = k ∧ ¬ hasE (l.take j) k
  | [], i, k, h => by obtain ⟨x, h, _⟩ := h; cases h
  | x :: l, i, k, h => by
    simp only [findE]
    by_cases hc : x.1 = k
    · exact ⟨0, by simp, by rw [if_pos hc]; rfl, hc, fun ⟨y, h1, _⟩ => by cases h1⟩
    · obtain ⟨y, h1, h2⟩ := h
      rcases List.mem_cons.1 h1 with rfl | h1
      · exact absurd h2 hc
      · obtain ⟨j, hj, e1, e2, e3⟩ := findE_yes l (i + 1) k ⟨y, h1, h2⟩
        refine ⟨j + 1, by simpa using hj, ?_, by simpa using e2, ?_⟩
        · rw [if_neg hc, e1]; congr 1; omega
        · rintro ⟨z, h3, h4⟩
          rw [List.take_succ_cons] at h3
          rcases List.mem_cons.1 h3 with rfl | h3
          · exact hc h4
          · exact e3 ⟨z, h3, h4⟩
/-- the element at place i is found there just if none ahead has its number -/
theorem findE_at {l : List Ev} {i : Nat} (hi : i < l.length) : findE 0 l l[i].1 = (i : Int) ↔ ¬ hasE (l.take i) l[i].1 := by
  obtain ⟨j, hj, e1, e2, e3⟩ := findE_yes l 0 l[i].1 ⟨l[i], List.getElem_mem hi, rfl⟩
  rw [e1]
  constructor
  · intro h
    have : j = i := by omega
    subst this
    exact e3
  · intro h
    have h1 : ¬ j < i := fun hji => h ⟨l[j], by rw [List.mem_take_iff_getElem]; exact ⟨j, by omega, rfl⟩, e2⟩
    have h2 : ¬ i < j := fun hij => e3 ⟨l[i], by rw [List.mem_take_iff_getElem]; exact ⟨i, by omega, rfl⟩, rfl⟩
    congr 1; omega
theorem find_eq {d : Doc} (h : d.2.2.2.2.2.2.1.length ≤ 4000000) (k : Int) : r12_Find fuelH (d, k) = some (findE 0 d.2.2.2.2.2.2.1 k) := by
  unfold r12_Find
  rw [jn_e]
  simp only
  generalize d.2.2.2.2.2.2.1 = l at h ⊢
  have hit : ∀ (r : List Ev) (i : Nat), itI (fun i (x : Ev) (_ : Unit) => if x.1 = k then (.inl (some (i : Int)) : Option Int ⊕ Unit) else .inr ()) (fun _ => some (-1 : Int)) i r () = some (findE i r k) := by
    intro r
    induction r with
    | nil => intro i; rfl
    | cons x r ih =>
      intro i
      simp only [itI, findE]
      by_cases hc : x.1 = k
      · rw [if_pos hc, if_pos hc]
      · rw [if_neg hc, if_neg hc]; exact ih (i + 1)
  refine Eq.trans (lst_it (l := l) (fun (_ : Unit) (p : Nat) => (p : Int)) (fun i (x : Ev) (_ : Unit) => if x.1 = k then .inl (some (i : Int)) else .inr ()) (fun _ => some (-1 : Int)) (fun _ _ => True) (fun self a i hi _ => ?_) (fun self a _ => ?_) fuelH 0 () (Nat.zero_le _) (by have := fuelH_eq; omega) trivial) (hit l 0)
  · rw [cnd_t (ilt_t (by simp only [len]; omega)), grd_t (inb_t (by simp only [len]; omega)), lget_i hi, w64_succ hi (by omega)]
    by_cases hc : l[i].1 = k
    · rw [if_pos hc, cnd_t (ieq_t hc)]; rfl
    · rw [if_neg hc, cnd_f (ieq_f hc)]
      exact ⟨rfl, trivial⟩
  · rw [cnd_f (ilt_f (by simp only [len]; omega))]

def lessE (a b : Ev) : Prop := a.2.1.1 < b.2.1.1 ∨ (a.2.1.1 = b.2.1.1 ∧ a.1 < b.1)
instance (a b : Ev) : Decidable (lessE a b) := by unfold lessE; infer_instance
theorem r11_less (N : Nat) (a b : Ev) : r11_Less N (a, b) = some (decide (lessE a b)) := by
  unfold r11_Less lessE
  simp only
  rw [cnd_ilt, cnd_ieq]
  by_cases h1 : a.2.1.1 < b.2.1.1
  · rw [if_pos h1]; simp [h1]
  · rw [if_neg h1]
    by_cases h2 : a.2.1.1 = b.2.1.1
    · rw [if_pos h2]; simp [h2, ilt]
    · rw [if_neg h2]; simp [h1, h2]
theorem cmp_eq (N : Nat) (a b : Int) : cmp_Compare_int64 N (a, b) = some (if a < b then -1 else if b < a then 1 else 0) := by
  unfold cmp_Compare_int64
  have h : ∀ x : Int, cmp_isNaN_int64 N x = some false := fun x => by
    show some (ine x x) = _
    rw [ine_f rfl]
  simp only
  rw [h, h, bnd_some', bnd_some', cnd_f rfl, cnd_f rfl, cnd_ilt, cnd_ilt]
  by_cases h1 : a < b
  · rw [if_pos h1, if_pos h1]
  · rw [if_neg h1, if_neg h1]
    by_cases h2 : b < a
    · rw [if_pos h2, if_pos h2]
    · rw [if_neg h2, if_neg h2]
theorem or_eq (a b : Int) : cmp_Or_int fuelH [a, b] = some (if a ≠ 0 then a else b) := by
  have h : cmp_Or_int fuelH [a, b] = cnd (ine a 0) (some a) (cnd (ine b 0) (some b) (some 0)) := by kernel_rfl
  rw [h, cnd_ine, cnd_ine]
  by_cases h1 : a ≠ 0
  · rw [if_pos h1, if_pos h1]
  · rw [if_neg h1, if_neg h1]
    by_cases h2 : b ≠ 0
    · rw [if_pos h2]
    · rw [if_neg h2]; congr 1; omega
theorem event_less (a b : Ev) : event_Less fuelH (a, b) = some (decide (lessE a b)) := by
  unfold event_Less
  simp only
  rw [cmp_eq, bnd_some', cmp_eq, bnd_some', or_eq, bnd_some']
  congr 1
  by_cases h1 : a.2.1.1 < b.2.1.1
  · rw [if_pos h1, if_pos (by decide), @decide_eq_true (lessE a b) _ (.inl h1)]; rfl
  · rw [if_neg h1]
    by_cases h2 : b.2.1.1 < a.2.1.1
    · rw [if_pos h2, if_pos (by decide), @decide_eq_false (lessE a b) _ (by unfold lessE; omega)]; rfl
    · rw [if_neg h2, if_neg (by decide)]
      by_cases h3 : a.1 < b.1
      · rw [if_pos h3, @decide_eq_true (lessE a b) _ (by unfold lessE; omega)]; rfl
      · rw [if_neg h3, @decide_eq_false (lessE a b) _ (by unfold lessE; omega)]
        split <;> rfl
end
end Go.Mo
end

section
/-
  Plain facts: the events of a document, checked one after the other; the length of an event.
-/
namespace Go.Mo
open Go Go.W Go.Lib
set_option maxRecDepth 100000
noncomputable section

def errL {α : Type} (R : List α → α → Int) : List α → List α → Int
  | _, [] => 0
  | pre, x :: l => if R pre x ≠ 0 then R pre x else errL R (pre ++ [x]) l
theorem errL_zero {α : Type} {R : List α → α → Int} : ∀ (l pre : List α), errL R pre l = 0 → ∀ j (h : j < l.length), R (pre ++ l.take j) l[j] = 0
  | [], _, _, j, h => by simp at h
  | x :: l, pre, h0, j, h => by
    simp only [errL] at h0
    split at h0
    · rename_i hc; exact absurd h0 hc
    · rename_i hc
      cases j with
      | zero => simpa using hc
      | succ j =>
        have := errL_zero l (pre ++ [x]) h0 j (by simpa using h)
        simpa using this
theorem loop_err {V σ α ρ : Type} {F : (V → Option ρ) → V → Option ρ} {l : List α} (st : σ → Nat → V) (g : List α → σ) (R : List α → α → Int) (w : Int → ρ) (K : Option ρ)
    (hstep : ∀ self i (h : i < l.length), F self (st (g (l.take i)) i) = if R (l.take i) l[i] ≠ 0 then some (w (R (l.take i) l[i])) else self (st (g (l.take (i + 1))) (i + 1)))
    (hend : (∀ j (h : j < l.length), R (l.take j) l[j] = 0) → ∀ self, F self (st (g l) l.length) = K) :
    ∀ (fuel i : Nat), i ≤ l.length → l.length - i < fuel → (∀ j (h : j < l.length), j < i → R (l.take j) l[j] = 0) →
    fixN F fuel (st (g (l.take i)) i) = if errL R (l.take i) (l.drop i) ≠ 0 then some (w (errL R (l.take i) (l.drop i))) else K
  | 0, i, _, h, _ => by omega
  | fuel + 1, i, hi, h, hp => by
    rw [fixN_s]
    by_cases hl : i < l.length
    · rw [hstep _ i hl, List.drop_eq_getElem_cons hl, errL]
      by_cases hc : R (l.take i) l[i] ≠ 0
      · rw [if_pos hc, if_pos hc, if_pos hc]
      · rw [if_neg hc, if_neg hc]
        have ih := loop_err st g R w K hstep hend fuel (i + 1) (by omega) (by omega) (fun j hj hji => by
          by_cases e : j = i
          · subst e; simpa using hc
          · exact hp j hj (by omega))
        rw [ih, List.take_succ_eq_append_getElem hl]
    · obtain rfl : i = l.length := by omega
      rw [List.take_length, hend (fun j hj => hp j hj hj), List.drop_length]
      rfl

def sumT : List Row → Nat
  | [] => 0
  | r :: l => lenT r + sumT l
def evLen (x : Ev) : Int := ((x.2.2.2.2.2.length - 1 + sumT x.2.2.2.2.2 : Nat) : Int)
theorem sumT_take : ∀ (l : List Row) (i : Nat) (h : i < l.length), sumT (l.take (i + 1)) = sumT (l.take i) + lenT l[i]
  | x :: l, 0, _ => by simp [sumT]
  | x :: l, i + 1, h => by
    have := sumT_take l i (by simpa using h)
    simp only [List.take_succ_cons, sumT, this, List.getElem_cons_succ]
    omega
theorem lenT_tot {l : Row} (h : okR l) : lenT l ≤ 64000000 := by
  have h1 := lenT_le l fun x hx => (h.2.1 x hx).2
  have h2 := h.1
  omega
theorem sumT_le : ∀ (l : List Row), (∀ r ∈ l, okR r) → sumT l ≤ 64000000 * l.length
  | [], _ => Nat.le_refl _
  | r :: l, h => by
    have h1 := lenT_tot (h r List.mem_cons_self)
    have h2 := sumT_le l fun q hq => h q (List.mem_cons_of_mem _ hq)
    simp only [sumT, List.length_cons]
    omega
theorem sumT_take_le (l : List Row) (h : ∀ r ∈ l, okR r) (i : Nat) : sumT (l.take i) ≤ 64000000 * l.length := by
  have h1 := sumT_le (l.take i) fun r hr => h r (List.mem_of_mem_take hr)
  have : (l.take i).length ≤ l.length := by rw [List.length_take]; omega
  omega
theorem event_len_eq {x : Ev} (h : ∀ l ∈ x.2.2.2.2.2, okR l) (hl : x.2.2.2.2.2.length ≤ 1000) : event_Len fuelH x = some (evLen x) := by
  unfold event_Len evLen
  rw [jn_e, bnd_s (event_lens_eq h (by omega))]
  generalize x.2.2.2.2.2 = l at h hl ⊢
  have hll : (lens l).length = l.length := by unfold lens; rw [List.length_map]
  have e0 : imax (w64 (isub (len l) 1)) 0 = ((l.length - 1 : Nat) : Int) := by
    simp only [isub, imax, len]
    rw [w64_id (by omega)]
    omega
  rw [e0]
  refine loop_inv (n := l.length) (fun (a : Nat) (i : Nat) => ((a : Int), (i : Int))) (fun i a => a = l.length - 1 + sumT (l.take i)) _ (fun self a i hi hI => ?_) (fun self a hI => ?_) fuelH 0 (l.length - 1) (Nat.zero_le _) (by have := fuelH_eq; omega) (by simp [sumT])
  · refine ⟨a + lenT l[i], ?_, ?_⟩
    · have ht := sumT_take_le l h i
      have hb := lenT_tot (h _ (List.getElem_mem hi))
      have hin : inb (i : Int) (len (lens l)) = true := inb_t (by simp only [len, hll]; omega)
      have hg : lget (lens l) (toN (i : Int)) (0 : Int) = (lenT l[i] : Int) := by
        rw [lget_i (by omega)]
        simp [lens]
      simp only
      rw [cnd_t (ilt_t (by simp only [len, hll]; omega)), grd_t hin, hg, cnd_f (ilt_f (by omega)), w64_succ hi (by omega)]
      have e : w64 (iadd (a : Int) (lenT l[i] : Int)) = ((a + lenT l[i] : Nat) : Int) := by
        unfold iadd; rw [w64_id (by omega)]; omega
      rw [e]
    · rw [sumT_take l i hi, hI]; omega
  · simp only
    rw [cnd_f (ilt_f (by simp only [len, hll]; omega)), hI, List.take_length]
theorem r11_len_eq {x : Ev} (h : ∀ l ∈ x.2.2.2.2.2, okR l) (hl : x.2.2.2.2.2.length ≤ 1000) : r11_Len fuelH x = some (evLen x) := by
  unfold r11_Len evLen
  rw [jn_e]
  generalize x.2.2.2.2.2 = l at h hl ⊢
  refine loop_inv (n := l.length) (fun (a : Nat) (i : Nat) => ((a : Int), (i : Int))) (fun i a => a = i - 1 + sumT (l.take i)) _ (fun self a i hi hI => ?_) (fun self a hI => ?_) fuelH 0 0 (Nat.zero_le _) (by have := fuelH_eq; omega) (by simp [sumT])
  · refine ⟨i + sumT (l.take i) + lenT l[i], ?_, ?_⟩
    · have ht := sumT_take_le l h i
      have hb := lenT_tot (h _ (List.getElem_mem hi))
      simp only
      rw [cnd_t (ilt_t (by simp only [len]; omega)), grd_t (inb_t (by simp only [len]; omega)), lget_i hi, r09_len (h _ (List.getElem_mem hi)), bnd_some', cnd_f (ilt_f (by omega)), w64_succ hi (by omega)]
      by_cases h0 : i = 0
      · subst h0
        rw [cnd_f (ilt_f (by omega))]
        have e : w64 (iadd (a : Int) (lenT l[0] : Int)) = ((0 + sumT (l.take 0) + lenT l[0] : Nat) : Int) := by
          unfold iadd; rw [w64_id (by omega)]; omega
        rw [e]
      · rw [cnd_t (ilt_t (by omega))]
        have e1 : w64 (iadd (a : Int) 1) = ((a + 1 : Nat) : Int) := by unfold iadd; rw [w64_id (by omega)]; omega
        have e : w64 (iadd ((a + 1 : Nat) : Int) (lenT l[i] : Int)) = ((i + sumT (l.take i) + lenT l[i] : Nat) : Int) := by
          unfold iadd; rw [w64_id (by omega)]; omega
        rw [e1, e]
    · rw [sumT_take l i hi]; omega
  · simp only
    rw [cnd_f (ilt_f (by simp only [len]; omega)), hI, List.take_length]

theorem rowsE_zero : ∀ (l : List Row) (k : Int), rowsE l k = 0 → (∀ r ∈ l, rowE r = 0) ∧ k = 0
  | [], k, h => ⟨fun r hr => (by cases hr), h⟩
  | r :: l, k, h => by
    simp only [rowsE] at h
    split at h
    · rename_i hc; exact absurd h hc
    · rename_i hc
      obtain ⟨h1, h2⟩ := rowsE_zero l k h
      refine ⟨fun q hq => ?_, h2⟩
      rcases List.mem_cons.1 hq with rfl | hq
      · simpa using hc
      · exact h1 q hq
theorem ev_ok {x : Ev} {rs : List Reg} (h : evChk x rs = 0) : 1 ≤ x.1 ∧ x.1 ≤ 1099511627776 ∧ (0 ≤ x.2.1.1 ∧ x.2.1.1 < x.2.1.2 ∧ x.2.1.2 ≤ 5184000) ∧ 0 < x.2.2.2.2.2.length ∧ x.2.2.2.2.2.length ≤ 4 ∧ (∀ r ∈ x.2.2.2.2.2, rowE r = 0) ∧ ∃ r, findR rs x.2.2.1 = some r ∧ (placeS r (lens x.2.2.2.2.2)).2 = 0 := by
  unfold evChk at h
  split at h
  · cases h
  split at h
  · cases h
  split at h
  · cases h
  rename_i c1 c2 c3
  split at h
  · cases h
  rename_i r hr
  split at h
  · cases h
  split at h
  · cases h
  split at h
  · cases h
  split at h
  · cases h
  rename_i c6 c7
  obtain ⟨h1, h2⟩ := rowsE_zero _ _ h
  exact ⟨by omega, by omega, by omega, by omega, by omega, h1, r, hr, h2⟩

def ordB (p : Option Ev) (x : Ev) : Bool := match p with
  | some q => decide (lessE q x)
  | none => true
def evRnd (rs : List Reg) (last : Int) (pre : List Ev) (x : Ev) : Int :=
  if evChk x rs ≠ 0 then evChk x rs else if last < x.1 then 2 else if ordB pre.getLast? x = false then 8 else if hasE pre x.1 then 7 else 0
def evsChk (d : Doc) : Int := errL (evRnd d.2.2.2.2.2.1 d.2.2.2.2.1) [] d.2.2.2.2.2.2.1
theorem evRnd_ok {rs : List Reg} {last : Int} {pre : List Ev} {x : Ev} (h : evRnd rs last pre x = 0) : evChk x rs = 0 ∧ x.1 ≤ last ∧ ordB pre.getLast? x = true ∧ ¬ hasE pre x.1 := by
  unfold evRnd at h
  split at h
  · rename_i hc; exact absurd h hc
  rename_i c1
  split at h
  · cases h
  rename_i c2
  split at h
  · cases h
  rename_i c3
  split at h
  · cases h
  rename_i c4
  exact ⟨by simpa using c1, by omega, by simpa using c3, c4⟩
theorem last_take {α : Type} {l : List α} {i : Nat} (h : i < l.length) : (l.take (i + 1)).getLast? = some l[i] := by
  rw [List.take_succ_eq_append_getElem h, List.getLast?_concat]
end
end Go.Mo
end

section
/-
  Plain facts: the comments of a document, on both sides.
-/
namespace Go.Mo
open Go Go.W Go.Lib
set_option maxRecDepth 100000
noncomputable section

theorem jn_u {α : Type} {K : Unit → Option α} {X : Option α} (h : K () = X) (T : (Unit → Option α) → Option α) : jn K T = T fun _ => X := by
  rw [jn_e, show K = fun _ => X from funext fun _ => h]
def cOrd (p : Option Cmt) (c : Cmt) : Bool := match p with
  | some q => decide (q.1 < c.1)
  | none => true
def evZ : Ev := (0, (0, 0), [], 0, [], [])
def evAt (l : List Ev) (k : Int) : Ev := lget l (toN (findE 0 l k)) evZ
def ancE (d : Doc) (c : Cmt) : Int :=
  if c.2.1 < 1 then 2 else if d.2.2.2.2.1 < c.2.1 then 2 else
  if c.2.2.2.2.2.2.2 = true then (if c.2.2.1 ≠ 0 then 2 else if c.2.2.2.1 ≠ 0 then 2 else 0) else
  if ¬ hasE d.2.2.2.2.2.2.1 c.2.1 then 6 else if c.2.2.1 < 0 then 2 else if c.2.2.2.1 ≤ c.2.2.1 then 2 else
  if evLen (evAt d.2.2.2.2.2.2.1 c.2.1) < c.2.2.2.1 then 2 else 0
def endE (c : Cmt) : Int := if nm c.2.2.2.2.1 = false then 5 else if vld c.2.2.2.2.2.1 = false then 10 else if c.2.2.2.2.2.1 = [] then 4 else if 400 < c.2.2.2.2.2.1.length then 9 else 0
def tailE (d : Doc) (c : Cmt) : Int := if ancE d c ≠ 0 then ancE d c else endE c
def cmtRnd (d : Doc) (pre : List Cmt) (c : Cmt) : Int :=
  if c.1 < 1 then 2 else if d.2.2.2.2.1 < c.1 then 2 else if cOrd pre.getLast? c = false then 8 else if hasE d.2.2.2.2.2.2.1 c.1 then 7 else tailE d c
def cmtsChk (d : Doc) : Int := if 64 < d.2.2.2.2.2.2.2.length then 9 else errL (cmtRnd d) [] d.2.2.2.2.2.2.2
/-- the events are good, the texts of comments not too long -/
def goodD (d : Doc) : Prop := (∀ x ∈ d.2.2.2.2.2.2.1, (∀ r ∈ x.2.2.2.2.2, okR r) ∧ x.2.2.2.2.2.length ≤ 4) ∧ d.2.2.2.2.2.2.1.length ≤ 400 ∧ ∀ c ∈ d.2.2.2.2.2.2.2, c.2.2.2.2.2.1.length ≤ 4000000
theorem evAt_lenS {d : Doc} (hg : goodD d) {k : Int} (h : hasE d.2.2.2.2.2.2.1 k) : inb (findE 0 d.2.2.2.2.2.2.1 k) (len d.2.2.2.2.2.2.1) = true ∧ 0 ≤ findE 0 d.2.2.2.2.2.2.1 k ∧ event_Len fuelH (evAt d.2.2.2.2.2.2.1 k) = some (evLen (evAt d.2.2.2.2.2.2.1 k)) := by
  obtain ⟨j, hj, e1, e2, e3⟩ := findE_yes _ 0 k h
  have he : evAt d.2.2.2.2.2.2.1 k = d.2.2.2.2.2.2.1[j] := by
    unfold evAt
    rw [e1, Nat.zero_add, lget_i hj]
  obtain ⟨h1, h2⟩ := hg.1 _ (List.getElem_mem hj)
  rw [he]
  refine ⟨by rw [e1]; exact inb_t (by simp only [len]; omega), by omega, event_len_eq h1 (by omega)⟩
theorem evAt_len {d : Doc} (hg : goodD d) {k : Int} (h : hasE d.2.2.2.2.2.2.1 k) : inb (findE 0 d.2.2.2.2.2.2.1 k) (len d.2.2.2.2.2.2.1) = true ∧ 0 ≤ findE 0 d.2.2.2.2.2.2.1 k ∧ event_Len fuelH (evAt d.2.2.2.2.2.2.1 k) = some (evLen (evAt d.2.2.2.2.2.2.1 k)) ∧ r11_Len fuelH (evAt d.2.2.2.2.2.2.1 k) = some (evLen (evAt d.2.2.2.2.2.2.1 k)) := by
  obtain ⟨q1, q2, q3⟩ := evAt_lenS hg h
  obtain ⟨j, hj, e1, e2, e3⟩ := findE_yes _ 0 k h
  have he : evAt d.2.2.2.2.2.2.1 k = d.2.2.2.2.2.2.1[j] := by
    unfold evAt
    rw [e1, Nat.zero_add, lget_i hj]
  obtain ⟨h1, h2⟩ := hg.1 _ (List.getElem_mem hj)
  exact ⟨q1, q2, q3, by rw [he]; exact r11_len_eq h1 (by omega)⟩
theorem anchored_eq {d : Doc} (hg : goodD d) (c : Cmt) : document_anchored fuelH (d, c, mapE 0 d.2.2.2.2.2.2.1) = some (ancE d c, mapE 0 d.2.2.2.2.2.2.1) := by
  unfold document_anchored ancE
  simp only
  rw [cnd_ilt]
  by_cases c1 : c.2.1 < 1
  · rw [if_pos c1, if_pos c1]
  rw [if_neg c1, if_neg c1, cnd_ilt]
  by_cases c2 : d.2.2.2.2.1 < c.2.1
  · rw [if_pos c2, if_pos c2]
  rw [if_neg c2, if_neg c2]
  by_cases c3 : c.2.2.2.2.2.2.2 = true
  · rw [cnd_t c3, if_pos c3, cnd_ine, cnd_ine]
    by_cases c4 : c.2.2.1 ≠ 0
    · rw [if_pos c4, if_pos c4]
    rw [if_neg c4, if_neg c4]
    by_cases c5 : c.2.2.2.1 ≠ 0
    · rw [if_pos c5, if_pos c5]
    · rw [if_neg c5, if_neg c5]
  · rw [cnd_f (by simpa using c3), if_neg c3, mhas_mapE, cnd_bnot]
    by_cases c4 : hasE d.2.2.2.2.2.2.1 c.2.1
    · rw [if_pos c4, if_neg (not_not_intro c4), cnd_ilt]
      by_cases c5 : c.2.2.1 < 0
      · rw [if_pos c5, if_pos c5]
      rw [if_neg c5, if_neg c5, cnd_ile]
      by_cases c6 : c.2.2.2.1 ≤ c.2.2.1
      · rw [if_pos c6, if_pos c6]
      obtain ⟨q1, q2, q3⟩ := evAt_lenS hg c4
      have hm : mget ieq (0 : Int) (mapE 0 d.2.2.2.2.2.2.1) c.2.1 = findE 0 d.2.2.2.2.2.2.1 c.2.1 := mget_mapE _ _ _ c4
      rw [if_neg c6, if_neg c6, hm, grd_t q1]
      refine Eq.trans (bnd_s (show event_Len fuelH (lget d.2.2.2.2.2.2.1 (toN (findE 0 d.2.2.2.2.2.2.1 c.2.1)) evZ) = _ from q3)) ?_
      rw [cnd_ilt]
      by_cases c7 : evLen (evAt d.2.2.2.2.2.2.1 c.2.1) < c.2.2.2.1
      · rw [if_pos c7, if_pos c7]
      · rw [if_neg c7, if_neg c7]
    · rw [if_neg c4, if_pos c4]
theorem comments_eq {d : Doc} (hg : goodD d) : document_comments fuelH (d, mapE 0 d.2.2.2.2.2.2.1) = some (cmtsChk d, mapE 0 d.2.2.2.2.2.2.1) := by
  unfold document_comments cmtsChk
  simp only
  by_cases h : 64 < d.2.2.2.2.2.2.2.length
  · rw [cnd_t (ilt_t (by simp only [len]; omega)), if_pos h]
  rw [cnd_f (ilt_f (by simp only [len]; omega)), if_neg h, jn_e]
  have hanc := fun c => anchored_eq hg c
  have hvl := hg.2.2
  generalize hm : mapE 0 d.2.2.2.2.2.2.1 = m at hanc ⊢
  have hmh : ∀ k, mhas ieq m k = decide (hasE d.2.2.2.2.2.2.1 k) := fun k => by rw [← hm]; exact mhas_mapE _ _ _
  generalize hl : d.2.2.2.2.2.2.2 = l at h hvl ⊢
  refine Eq.trans (loop_err (l := l) (fun (_ : Unit) (p : Nat) => ((p : Int), m)) (fun _ => ()) (cmtRnd d) (fun e => (e, m)) (some (0, m)) (fun self i hi => ?_) (fun _ self => ?_) fuelH 0 (Nat.zero_le _) (by have := fuelH_eq; omega) (fun j _ hj => by omega)) ?_
  · have hin : inb (i : Int) (len l) = true := inb_t (by simp only [len]; omega)
    have hv := hvl _ (List.getElem_mem hi)
    simp only
    rw [cnd_t (ilt_t (by simp only [len]; omega)), grd_t hin, lget_i hi]
    refine Eq.trans (jn_u (X := if tailE d l[i] ≠ 0 then some (tailE d l[i], m) else self (((i + 1 : Nat) : Int), m)) ?_ _) ?_
    · skip
      rw [hanc, bnd_some']
      unfold tailE
      by_cases c1 : ancE d l[i] ≠ 0
      · rw [if_pos c1, if_pos c1, cnd_t (ine_t c1)]
      · rw [if_neg c1, cnd_f (ine_f (by simpa using c1)), lines_name, bnd_some']
        unfold endE
        by_cases c2 : nm l[i].2.2.2.2.1 = false
        · rw [cnd_t (by rw [c2]; rfl), if_pos c2, if_pos (by decide)]
        rw [cnd_f (by rw [← Bool.not_eq_true, bnot_t]; exact c2), if_neg c2, ch_valid _ hv, bnd_some']
        by_cases c3 : vld l[i].2.2.2.2.2.1 = false
        · rw [cnd_t (by rw [c3]; rfl), if_pos c3, if_pos (by decide)]
        rw [cnd_f (by rw [← Bool.not_eq_true, bnot_t]; exact c3), if_neg c3]
        by_cases c4 : l[i].2.2.2.2.2.1 = []
        · rw [cnd_t (by rw [seq_t]; exact c4), if_pos c4, if_pos (by decide)]
        rw [cnd_f (by rw [← Bool.not_eq_true, seq_t]; exact c4), if_neg c4]
        by_cases c5 : 400 < l[i].2.2.2.2.2.1.length
        · rw [cnd_t (ilt_t (by simp only [len]; omega)), if_pos c5, if_pos (by decide)]
        · rw [cnd_f (ilt_f (by simp only [len]; omega)), if_neg c5, if_neg (by decide), w64_succ hi (by omega)]
    · simp only
      rw [cnd_ilt, cnd_ilt]
      unfold cmtRnd
      by_cases c1 : l[i].1 < 1
      · rw [if_pos c1, if_pos c1, if_pos (by decide)]
      rw [if_neg c1, if_neg c1]
      by_cases c2 : d.2.2.2.2.1 < l[i].1
      · rw [if_pos c2, if_pos c2, if_pos (by decide)]
      rw [if_neg c2, if_neg c2, hmh]
      cases i with
      | zero =>
        rw [cnd_f (by rfl)]
        have e0 : cOrd (l.take 0).getLast? l[0] = true := rfl
        rw [e0, if_neg (show ¬ true = false by decide), cnd_dec]
        by_cases c3 : hasE d.2.2.2.2.2.2.1 l[0].1
        · rw [if_pos c3, if_pos c3, if_pos (by decide)]
        · rw [if_neg c3, if_neg c3]
      | succ i =>
        rw [cnd_t (ilt_t (by omega)), w64_back (by omega), grd_t (inb_t (by simp only [len]; omega)), lget_i (show i < l.length by omega), cnd_ile, cnd_dec]
        have e0 : cOrd (l.take (i + 1)).getLast? l[i + 1] = decide (l[i].1 < l[i + 1].1) := by rw [last_take (show i < l.length by omega)]; rfl
        rw [e0]
        by_cases c4 : l[i + 1].1 ≤ l[i].1
        · rw [if_pos c4, decide_eq_false (by omega), if_pos rfl, if_pos (by decide)]
        rw [if_neg c4, decide_eq_true (by omega), if_neg (show ¬ true = false by decide)]
        by_cases c3 : hasE d.2.2.2.2.2.2.1 l[i + 1].1
        · rw [if_pos c3, if_pos c3, if_pos (by decide)]
        · rw [if_neg c3, if_neg c3]
  · simp only
    rw [cnd_f (ilt_f (by simp only [len]; omega))]
  · rw [List.take_zero, List.drop_zero]
    by_cases hc : errL (cmtRnd d) [] l ≠ 0
    · rw [if_pos hc]
    · rw [if_neg hc]
      have hc : errL (cmtRnd d) [] l = 0 := by simpa using hc
      rw [hc]
theorem comment_eq {d : Doc} (hg : goodD d) (h64 : d.2.2.2.2.2.2.2.length ≤ 64) {i : Nat} (hi : i < d.2.2.2.2.2.2.2.length) : r12_checkComment fuelH (d, (i : Int)) = some (cmtRnd d (d.2.2.2.2.2.2.2.take i) d.2.2.2.2.2.2.2[i]) := by
  unfold r12_checkComment
  simp only
  have hfind := fun k => find_eq (d := d) (by have := hg.2.1; omega) k
  have hv := hg.2.2 _ (List.getElem_mem hi)
  have hlen := fun k => evAt_len (k := k) hg
  rw [grd_t (inb_t (by simp only [len]; omega)), lget_i hi]
  generalize hl : d.2.2.2.2.2.2.2 = l at hi hv h64 ⊢
  rw [cnd_ilt, cnd_ilt]
  unfold cmtRnd
  by_cases c1 : l[i].1 < 1
  · rw [if_pos c1, if_pos c1]
  rw [if_neg c1, if_neg c1]
  by_cases c2 : d.2.2.2.2.1 < l[i].1
  · rw [if_pos c2, if_pos c2]
  rw [if_neg c2, if_neg c2]
  refine Eq.trans (jn_u (X := some (if hasE d.2.2.2.2.2.2.1 l[i].1 then 7 else tailE d l[i])) ?_ _) ?_
  · skip
    rw [hfind, bnd_some', cnd_ile]
    by_cases c3 : hasE d.2.2.2.2.2.2.1 l[i].1
    · rw [if_pos (hlen _ c3).2.1, if_pos c3]
    rw [if_neg (by rw [findE_no _ _ _ c3]; decide), if_neg c3]
    unfold tailE ancE
    rw [cnd_ilt, cnd_ilt]
    by_cases a1 : l[i].2.1 < 1
    · rw [if_pos a1, if_pos a1, if_pos (by decide)]
    rw [if_neg a1, if_neg a1]
    by_cases a2 : d.2.2.2.2.1 < l[i].2.1
    · rw [if_pos a2, if_pos a2, if_pos (by decide)]
    rw [if_neg a2, if_neg a2]
    refine Eq.trans (jn_u (X := some (endE l[i])) ?_ _) ?_
    · skip
      rw [r07_name, bnd_some']
      unfold endE
      by_cases c2 : nm l[i].2.2.2.2.1 = false
      · rw [cnd_t (by rw [c2]; rfl), if_pos c2]
      rw [cnd_f (by rw [← Bool.not_eq_true, bnot_t]; exact c2), if_neg c2, r08_valid _ hv, bnd_some']
      by_cases c3 : vld l[i].2.2.2.2.2.1 = false
      · rw [cnd_t (by rw [c3]; rfl), if_pos c3]
      rw [cnd_f (by rw [← Bool.not_eq_true, bnot_t]; exact c3), if_neg c3]
      by_cases c4 : l[i].2.2.2.2.2.1 = []
      · rw [cnd_t (by rw [seq_t]; exact c4), if_pos c4]
      rw [cnd_f (by rw [← Bool.not_eq_true, seq_t]; exact c4), if_neg c4]
      by_cases c5 : 400 < l[i].2.2.2.2.2.1.length
      · rw [cnd_t (ilt_t (by simp only [len]; omega)), if_pos c5]
      · rw [cnd_f (ilt_f (by simp only [len]; omega)), if_neg c5]
    · simp only
      by_cases c3 : l[i].2.2.2.2.2.2.2 = true
      · rw [cnd_t c3, if_pos c3, cnd_ine, cnd_ine]
        by_cases c4 : l[i].2.2.1 ≠ 0
        · rw [if_pos c4, if_pos c4, if_pos (by decide)]
        rw [if_neg c4, if_neg c4]
        by_cases c5 : l[i].2.2.2.1 ≠ 0
        · rw [if_pos c5, if_pos c5, if_pos (by decide)]
        · rw [if_neg c5, if_neg c5, if_neg (by decide)]
      · rw [cnd_f (by simpa using c3), if_neg c3, hfind, bnd_some', cnd_ilt]
        by_cases c4 : hasE d.2.2.2.2.2.2.1 l[i].2.1
        · obtain ⟨q1, q2, q3, q4⟩ := hlen _ c4
          rw [if_neg (by omega), if_neg (not_not_intro c4), cnd_ilt]
          by_cases c5 : l[i].2.2.1 < 0
          · rw [if_pos c5, if_pos c5, if_pos (by decide)]
          rw [if_neg c5, if_neg c5, cnd_ile]
          by_cases c6 : l[i].2.2.2.1 ≤ l[i].2.2.1
          · rw [if_pos c6, if_pos c6, if_pos (by decide)]
          rw [if_neg c6, if_neg c6, grd_t q1]
          refine Eq.trans (bnd_s (show r11_Len fuelH (lget d.2.2.2.2.2.2.1 (toN (findE 0 d.2.2.2.2.2.2.1 l[i].2.1)) evZ) = _ from q4)) ?_
          rw [cnd_ilt]
          by_cases c7 : evLen (evAt d.2.2.2.2.2.2.1 l[i].2.1) < l[i].2.2.2.1
          · rw [if_pos c7, if_pos c7, if_pos (by decide)]
          · rw [if_neg c7, if_neg c7, if_neg (by decide)]
        · rw [if_pos (by rw [findE_no _ _ _ c4]; decide), if_pos c4, if_pos (by decide)]
  · simp only
    cases i with
    | zero =>
      rw [cnd_f (by rfl)]
      have e0 : cOrd (l.take 0).getLast? l[0] = true := rfl
      rw [e0, if_neg (show ¬ true = false by decide)]
    | succ i =>
      rw [cnd_t (ilt_t (by omega)), w64_back (by omega), grd_t (inb_t (by simp only [len]; omega)), lget_i (show i < l.length by omega), cnd_ile]
      have e0 : cOrd (l.take (i + 1)).getLast? l[i + 1] = decide (l[i].1 < l[i + 1].1) := by rw [last_take (show i < l.length by omega)]; rfl
      rw [e0]
      by_cases c4 : l[i + 1].1 ≤ l[i].1
      · rw [if_pos c4, decide_eq_false (by omega), if_pos rfl]
      · rw [if_neg c4, decide_eq_true (by omega), if_neg (show ¬ true = false by decide)]
end
end Go.Mo
end

section
/-
  Plain facts: the check of a document is the specified one.
-/
namespace Go.Mo
open Go Go.W Go.Lib
set_option maxRecDepth 100000
noncomputable section

def docChk (d : Doc) : Int :=
  if headChk d ≠ 0 then headChk d else if regsChk d.2.2.2.2.2.1 ≠ 0 then regsChk d.2.2.2.2.2.1 else
  if 400 < d.2.2.2.2.2.2.1.length then 9 else if evsChk d ≠ 0 then evsChk d else cmtsChk d
def smallD (d : Doc) : Prop := d.1.length ≤ 4000000 ∧ d.2.2.2.2.2.1.length ≤ 4000000 ∧ (∀ x ∈ d.2.2.2.2.2.2.1, smallL x.2.2.2.2.2) ∧ ∀ c ∈ d.2.2.2.2.2.2.2, c.2.2.2.2.2.1.length ≤ 4000000
theorem good_of {d : Doc} (hs : smallD d) (hn : d.2.2.2.2.2.2.1.length ≤ 400) (h : ∀ j (h : j < d.2.2.2.2.2.2.1.length), evRnd d.2.2.2.2.2.1 d.2.2.2.2.1 (d.2.2.2.2.2.2.1.take j) d.2.2.2.2.2.2.1[j] = 0) : goodD d := by
  refine ⟨fun x hx => ?_, hn, hs.2.2.2⟩
  obtain ⟨j, hj, rfl⟩ := List.mem_iff_getElem.1 hx
  obtain ⟨h1, _⟩ := evRnd_ok (h j hj)
  obtain ⟨_, _, _, _, h4, h5, _⟩ := ev_ok h1
  exact ⟨fun r hr => rowE_ok (hs.2.2.1 _ hx r hr) (h5 r hr), h4⟩
theorem mput_take {l : List Ev} {i : Nat} (hi : i < l.length) (hn : ¬ hasE (l.take i) l[i].1) : mput ieq (mapE 0 (l.take i)) l[i].1 (i : Int) = mapE 0 (l.take (i + 1)) := by
  rw [mput_new _ (by rw [mhas_mapE, decide_eq_false hn]), List.take_succ_eq_append_getElem hi, mapE_app]
  have : (l.take i).length = i := by rw [List.length_take]; omega
  rw [this, Nat.zero_add]
  rfl
theorem document_check {d : Doc} (hs : smallD d) : document_Check fuelH d = some (docChk d) := by
  unfold document_Check docChk
  rw [bnd_s (header_eq hs.1)]
  by_cases c1 : headChk d ≠ 0
  · rw [cnd_t (ine_t c1), if_pos c1]
  rw [cnd_f (ine_f (by simpa using c1)), if_neg c1, bnd_s (region_list _)]
  by_cases c2 : regsChk d.2.2.2.2.2.1 ≠ 0
  · rw [cnd_t (ine_t c2), if_pos c2]
  rw [cnd_f (ine_f (by simpa using c2)), if_neg c2]
  by_cases c3 : 400 < d.2.2.2.2.2.2.1.length
  · rw [cnd_t (ilt_t (by simp only [len]; omega)), if_pos c3]
  rw [cnd_f (ilt_f (by simp only [len]; omega)), if_neg c3, jn_e]
  have hgood := @good_of d hs (by omega)
  have hcm := @comments_eq d
  unfold evsChk
  have hev := hs.2.2.1
  generalize hl : d.2.2.2.2.2.2.1 = l at c3 hgood hcm hev ⊢
  refine Eq.trans (loop_err (l := l) (fun (a : List (Int × Int)) (p : Nat) => ((p : Int), a)) (fun pre => mapE 0 pre) (evRnd d.2.2.2.2.2.1 d.2.2.2.2.1) (fun e => e) (some (cmtsChk d)) (fun self i hi => ?_) (fun hz self => ?_) fuelH 0 (Nat.zero_le _) (by have := fuelH_eq; omega) (fun j _ hj => by omega)) ?_
  · have hin : inb (i : Int) (len l) = true := inb_t (by simp only [len]; omega)
    have hx := hev _ (List.getElem_mem hi)
    simp only
    rw [cnd_t (ilt_t (by simp only [len]; omega)), grd_t hin, lget_i hi, bnd_s (event_check_eq hx hs.2.1), cnd_ilt, w64_succ hi (by omega)]
    unfold evRnd
    by_cases e1 : evChk l[i] d.2.2.2.2.2.1 ≠ 0
    · rw [if_pos e1, if_pos e1, cnd_t (ine_t e1)]
    rw [if_neg e1, cnd_f (ine_f (by simpa using e1))]
    by_cases e2 : d.2.2.2.2.1 < l[i].1
    · rw [if_pos e2, if_pos e2, if_pos (by decide)]
    rw [if_neg e2, if_neg e2]
    have hput := fun h => mput_take hi h
    cases i with
    | zero =>
      rw [cnd_f (by rfl), mhas_mapE, cnd_dec]
      have e0 : ordB (l.take 0).getLast? l[0] = true := rfl
      rw [e0, if_neg (show ¬ true = false by decide)]
      by_cases e3 : hasE (l.take 0) l[0].1
      · rw [if_pos e3, if_pos e3, if_pos (by decide)]
      · rw [if_neg e3, if_neg e3, hput e3, if_neg (by decide)]
    | succ i =>
      rw [cnd_t (ilt_t (by omega)), w64_back (by omega), grd_t (inb_t (by simp only [len]; omega)), lget_i (show i < l.length by omega), bnd_s (event_less _ _), mhas_mapE, cnd_dec, cnd_bnot]
      have e0 : ordB (l.take (i + 1)).getLast? l[i + 1] = decide (lessE l[i] l[i + 1]) := by rw [last_take (show i < l.length by omega)]; rfl
      rw [e0]
      by_cases e4 : lessE l[i] l[i + 1]
      · rw [if_pos e4, decide_eq_true e4, if_neg (show ¬ true = false by decide)]
        by_cases e3 : hasE (l.take (i + 1)) l[i + 1].1
        · rw [if_pos e3, if_pos e3, if_pos (by decide)]
        · rw [if_neg e3, if_neg e3, hput e3, if_neg (by decide)]
      · rw [if_neg e4, decide_eq_false e4, if_pos rfl, if_pos (by decide)]
  · simp only
    rw [cnd_f (ilt_f (by simp only [len]; omega)), bnd_s (hcm (hgood hz))]
  · rw [List.take_zero, List.drop_zero]
    split <;> rfl
theorem r12_check {d : Doc} (hs : smallD d) : r12_Check fuelH d = some (docChk d) := by
  unfold r12_Check docChk
  rw [bnd_s (checkHead_eq hs.1)]
  by_cases c1 : headChk d ≠ 0
  · rw [cnd_t (ine_t c1), if_pos c1]
  rw [cnd_f (ine_f (by simpa using c1)), if_neg c1, bnd_s (r10_list _)]
  by_cases c2 : regsChk d.2.2.2.2.2.1 ≠ 0
  · rw [cnd_t (ine_t c2), if_pos c2]
  rw [cnd_f (ine_f (by simpa using c2)), if_neg c2]
  by_cases c3 : 400 < d.2.2.2.2.2.2.1.length
  · rw [cnd_t (ilt_t (by simp only [len]; omega)), if_pos c3]
  rw [cnd_f (ilt_f (by simp only [len]; omega)), if_neg c3, jn_e]
  have hgood := @good_of d hs (by omega)
  have hcm := @comment_eq d
  have hfind := fun k => find_eq (d := d) (by omega) k
  unfold evsChk
  have hev := hs.2.2.1
  generalize hl : d.2.2.2.2.2.2.1 = l at c3 hgood hfind hev ⊢
  refine Eq.trans (loop_err (l := l) (fun (_ : Unit) (p : Nat) => (p : Int)) (fun _ => ()) (evRnd d.2.2.2.2.2.1 d.2.2.2.2.1) (fun e => e) (some (cmtsChk d)) (fun self i hi => ?_) (fun hz self => ?_) fuelH 0 (Nat.zero_le _) (by have := fuelH_eq; omega) (fun j _ hj => by omega)) ?_
  · have hin : inb (i : Int) (len l) = true := inb_t (by simp only [len]; omega)
    have hx := hev _ (List.getElem_mem hi)
    have hat := findE_at hi
    rw [cnd_t (ilt_t (by simp only [len]; omega)), grd_t hin, lget_i hi, bnd_s (r11_check_eq hx hs.2.1), cnd_ilt, w64_succ hi (by omega)]
    unfold evRnd
    by_cases e1 : evChk l[i] d.2.2.2.2.2.1 ≠ 0
    · rw [if_pos e1, if_pos e1, cnd_t (ine_t e1)]
    rw [if_neg e1, cnd_f (ine_f (by simpa using e1))]
    by_cases e2 : d.2.2.2.2.1 < l[i].1
    · rw [if_pos e2, if_pos e2, if_pos (by decide)]
    rw [if_neg e2, if_neg e2]
    cases i with
    | zero =>
      rw [cnd_f (by rfl), hfind, bnd_some', cnd_ine]
      have e0 : ordB (l.take 0).getLast? l[0] = true := rfl
      rw [e0, if_neg (show ¬ true = false by decide)]
      by_cases e3 : hasE (l.take 0) l[0].1
      · rw [if_pos (fun e => hat.1 e e3), if_pos e3, if_pos (by decide)]
      · rw [if_neg (not_not_intro (hat.2 e3)), if_neg e3, if_neg (by decide)]
    | succ i =>
      rw [cnd_t (ilt_t (by omega)), w64_back (by omega), grd_t (inb_t (by simp only [len]; omega)), lget_i (show i < l.length by omega), bnd_s (r11_less _ _ _), hfind, bnd_some', cnd_ine, cnd_bnot]
      have e0 : ordB (l.take (i + 1)).getLast? l[i + 1] = decide (lessE l[i] l[i + 1]) := by rw [last_take (show i < l.length by omega)]; rfl
      rw [e0]
      by_cases e4 : lessE l[i] l[i + 1]
      · rw [if_pos e4, decide_eq_true e4, if_neg (show ¬ true = false by decide)]
        by_cases e3 : hasE (l.take (i + 1)) l[i + 1].1
        · rw [if_pos (fun e => hat.1 e e3), if_pos e3, if_pos (by decide)]
        · rw [if_neg (not_not_intro (hat.2 e3)), if_neg e3, if_neg (by decide)]
      · rw [if_neg e4, decide_eq_false e4, if_pos rfl, if_pos (by decide)]
  · rw [cnd_f (ilt_f (by simp only [len]; omega))]
    have hg := hgood hz
    unfold cmtsChk
    by_cases h64 : 64 < d.2.2.2.2.2.2.2.length
    · rw [cnd_t (ilt_t (by simp only [len]; omega)), if_pos h64]
    rw [cnd_f (ilt_f (by simp only [len]; omega)), if_neg h64, jn_e]
    have hcm := @hcm hg (by omega)
    generalize hm : d.2.2.2.2.2.2.2 = m at h64 hcm ⊢
    refine Eq.trans (loop_err (l := m) (fun (_ : Unit) (p : Nat) => (p : Int)) (fun _ => ()) (cmtRnd d) (fun e => e) (some 0) (fun self i hi => ?_) (fun _ self => ?_) fuelH 0 (Nat.zero_le _) (by have := fuelH_eq; omega) (fun j _ hj => by omega)) ?_
    · rw [cnd_t (ilt_t (by simp only [len]; omega)), hcm hi, bnd_some', cnd_ine, w64_succ hi (by omega)]
    · rw [cnd_f (ilt_f (by simp only [len]; omega))]
    · rw [List.take_zero, List.drop_zero]
      by_cases hc : errL (cmtRnd d) [] m ≠ 0
      · rw [if_pos hc]
      · rw [if_neg hc]
        have hc : errL (cmtRnd d) [] m = 0 := by simpa using hc
        rw [hc]
  · rw [List.take_zero, List.drop_zero]
    split <;> rfl
end
end Go.Mo
end

section
/-
  Plain facts: the place of a good event, and its region.
-/
namespace Go.Mo
open Go Go.W Go.Lib
set_option maxRecDepth 100000
noncomputable section

end
end Go.Mo
end

section
/-
  Plain facts: the document as the form carries it, on both sides.
-/
namespace Go.Mo
open Go Go.W Go.Lib
set_option maxRecDepth 100000
noncomputable section

end
end Go.Mo
end

section
/-
  Plain facts: a document is the same as itself; StlAccepts returns true.
-/
namespace Go.Mo
open Go Go.W Go.Lib
set_option maxRecDepth 100000
noncomputable section

theorem regs_self {l : List Reg} (hl : l.length ≤ 1000000) : slices_Equal_Lapi_Region_api_Region fuelH (l, l) = some true := by
  unfold slices_Equal_Lapi_Region_api_Region
  simp only
  rw [cnd_f (ine_f rfl), jn_e]
  refine loop_inv (n := l.length) (fun (_ : Unit) (i : Nat) => (i : Int)) (fun _ _ => True) _ (fun self a i hi _ => ⟨(), ?_, trivial⟩) (fun self a _ => ?_) fuelH 0 () (Nat.zero_le _) (by have := fuelH_eq; omega) trivial
  · have hin : inb (i : Int) (len l) = true := inb_t (by simp only [len]; omega)
    rw [cnd_t (ilt_t (by simp only [len]; omega)), grd_t hin, grd_t hin, lget_i hi, w64_succ hi (by omega), cnd_f]
    rw [← Bool.not_eq_true, bnot_t, Bool.eq_false_iff]
    intro h
    refine h ?_
    simp only [band_tt, seq_t, ieq_tt, beqb_t]
    simp
  · rw [cnd_f (ilt_f (by simp only [len]; omega))]
theorem ev_self {x : Ev} (h1 : x.2.2.2.2.2.length ≤ 4000000) (h2 : ∀ r ∈ x.2.2.2.2.2, r.length ≤ 4000000) : event_Same fuelH (x, x) = some true := by
  unfold event_Same
  simp only
  rw [cnd_t (ieq_t rfl), cnd_t (by simp [band_tt, ieq_tt]), cnd_t (by rw [seq_t]), cnd_t (ieq_t rfl), cnd_t (by rw [seq_t]), same_rows _ _ h1 h2, bnd_some']
  simp
theorem evs_self {l : List Ev} (hl : l.length ≤ 1000000) (h : ∀ x ∈ l, x.2.2.2.2.2.length ≤ 4000000 ∧ ∀ r ∈ x.2.2.2.2.2, r.length ≤ 4000000) : slices_EqualFunc_Lapi_Event_Lapi_Event_api_Event_api_Event fuelH (l, l) = some true := by
  unfold slices_EqualFunc_Lapi_Event_Lapi_Event_api_Event_api_Event
  simp only
  rw [cnd_f (ine_f rfl), jn_e]
  refine loop_inv (n := l.length) (fun (_ : Unit) (i : Nat) => (i : Int)) (fun _ _ => True) _ (fun self a i hi _ => ⟨(), ?_, trivial⟩) (fun self a _ => ?_) fuelH 0 () (Nat.zero_le _) (by have := fuelH_eq; omega) trivial
  · have hin : inb (i : Int) (len l) = true := inb_t (by simp only [len]; omega)
    obtain ⟨h1, h2⟩ := h _ (List.getElem_mem hi)
    rw [cnd_t (ilt_t (by simp only [len]; omega)), grd_t hin, grd_t hin, lget_i hi, w64_succ hi (by omega), bnd_s (ev_self h1 h2), cnd_f (by rfl)]
  · rw [cnd_f (ilt_f (by simp only [len]; omega))]
theorem doc_self {d : Doc} (h1 : d.2.2.2.2.2.1.length ≤ 1000000) (h2 : d.2.2.2.2.2.2.1.length ≤ 1000000) (h3 : ∀ x ∈ d.2.2.2.2.2.2.1, x.2.2.2.2.2.length ≤ 4000000 ∧ ∀ r ∈ x.2.2.2.2.2, r.length ≤ 4000000) (h4 : d.2.2.2.2.2.2.2 = []) : document_Same fuelH (d, d) = some true := by
  unfold document_Same
  have hh : document_Head fuelH d = some (d.1, d.2.1, d.2.2.1, d.2.2.2.1, d.2.2.2.2.1) := rfl
  simp only
  rw [hh, bnd_some', bnd_some', cnd_t (by simp [band_tt, ieq_tt, seq_t, beqb_t]), regs_self h1, bnd_some', cnd_t rfl, evs_self h2 h3, bnd_some', cnd_t rfl, h4]
  have : slices_Equal_Lapi_Comment_api_Comment fuelH ([], []) = some true := by kernel_rfl
  rw [this]
  rfl

end
end Go.Mo
end

section
/-
  Plain facts: StlAccepts returns true.
-/
namespace Go.Mo
open Go Go.W Go.Lib
set_option maxRecDepth 100000
noncomputable section

def wtG (r : Reg) : Nat := r.1.length + 1 + (1 + (1 + (1 + (1 + (1 + 1)))))
def wtX (x : Ev) : Nat := 1 + (1 + 1 + (x.2.2.1.length + 1 + (1 + (x.2.2.2.2.1.length + 1 + (bkL wtR x.2.2.2.2.2 + 1)))))
def wtC (c : Cmt) : Nat := 1 + (1 + (1 + (1 + (c.2.2.2.2.1.length + 1 + (c.2.2.2.2.2.1.length + 1 + (1 + 1))))))
def wtD (d : Doc) : Nat := d.1.length + 1 + (d.2.1.length + 1 + (1 + (1 + (1 + (bkL wtG d.2.2.2.2.2.1 + 1 + (bkL wtX d.2.2.2.2.2.2.1 + 1 + (bkL wtC d.2.2.2.2.2.2.2 + 1)))))))
end
end Go.Mo
end

section
/-
  Plain facts: texts that are joined; the normal form of a row that is good.
-/
namespace Go.Mo
open Go Go.W Go.Lib
set_option maxRecDepth 100000
noncomputable section

def decP (t : List UInt8) (r : Int) : Bool := ieq ((decodeL (enc r ++ t)).1 : Int) r && decide ((decodeL (enc r ++ t)).2 = (enc r).length)
theorem dec_tab (t : List UInt8) : ((loRunes ++ hiRunes).all (decP t)) = true := by kernel_rfl
theorem dec_enc {r : Int} (hr : inRep r = true) (t : List UInt8) : ((decodeL (enc r ++ t)).1 : Int) = r ∧ (decodeL (enc r ++ t)).2 = (enc r).length := by
  have h : decP t r = true := all_rep (dec_tab t) hr
  unfold decP at h
  rw [Bool.and_eq_true, ieq_tt, decide_eq_true_eq] at h
  exact h
theorem enc_ne2 {r : Int} (hr : inRep r = true) : enc r ≠ [] := by
  have h := all_rep (P := fun r => !(enc r).isEmpty) (by kernel_rfl) hr
  intro e
  simp [e] at h
theorem vld_ofR : ∀ (l : List Int) (t : List UInt8), l.all inRep = true → vld (ofR l ++ t) = vld t
  | [], t, _ => rfl
  | r :: l, t, h => by
    rw [List.all_cons, Bool.and_eq_true] at h
    have e : ofR (r :: l) ++ t = enc r ++ (ofR l ++ t) := by unfold ofR; rw [List.flatMap_cons, List.append_assoc]
    obtain ⟨d1, d2⟩ := dec_enc h.1 (ofR l ++ t)
    rw [e, vld_step _ (by simp [enc_ne2 h.1]), d1, d2, List.drop_left, if_pos h.1, vld_ofR l t h.2]
theorem vld_cat {a : List UInt8} (h : vld a = true) (b : List UInt8) : vld (a ++ b) = vld b := by
  conv => lhs; rw [← ofR_rns h]
  exact vld_ofR _ _ (rns_ok h)

theorem plainT_app (a b : Row) : plainT (a ++ b) = plainT a ++ plainT b := by unfold plainT; rw [List.flatMap_append]
theorem plainT_one (x : Run) : plainT [x] = x.1 := by unfold plainT; simp
theorem snoc_plain (out : Row) (x : Run) : plainT (snoc out x) = plainT out ++ x.1 := by
  unfold snoc
  split
  · rename_i h; rw [h, List.append_nil]
  · split
    · rename_i p hp
      split
      · rw [plainT_app, plainT_one]
        conv => rhs; rw [last_eq hp, plainT_app, plainT_one]
        simp
      · rw [plainT_app, plainT_one]
    · rw [plainT_app, plainT_one]
theorem fold_plain : ∀ (l out : Row), plainT (l.foldl snoc out) = plainT out ++ plainT l
  | [], out => by simp [plainT]
  | x :: l, out => by
    rw [List.foldl_cons, fold_plain l, snoc_plain]
    have : plainT (x :: l) = x.1 ++ plainT l := by unfold plainT; rw [List.flatMap_cons]
    rw [this, List.append_assoc]
theorem rowE_zero {l : Row} (h : rowE l = 0) : rowChk l = 0 ∧ neatT (plainT l) = true ∧ lenT l ≤ 32 := by
  unfold rowE at h
  split at h
  · rename_i hc; exact absurd h hc
  split at h
  · cases h
  split at h
  · cases h
  rename_i c1 c2 c3
  exact ⟨by simpa using c1, by simpa using c2, by omega⟩
end
end Go.Mo
end

section
/-
  Plain facts: the regions of a reduced document; its events stand where they stood.
-/
namespace Go.Mo
open Go Go.W Go.Lib
set_option maxRecDepth 100000
noncomputable section

end
end Go.Mo
end

section
/-
  Plain facts: a reduced document is good; StlReduced returns true.
-/
namespace Go.Mo
open Go Go.W Go.Lib
set_option maxRecDepth 100000
noncomputable section

theorem doc_parts {d : Doc} (h : docChk d = 0) : headChk d = 0 ∧ d.2.2.2.2.2.2.1.length ≤ 400 ∧ evsChk d = 0 := by
  unfold docChk at h
  split at h
  · rename_i hc; exact absurd h hc
  rename_i c1
  split at h
  · rename_i hc; exact absurd h hc
  split at h
  · cases h
  rename_i hn
  split at h
  · rename_i hc; exact absurd h hc
  rename_i hc
  exact ⟨by simpa using c1, by omega, by simpa using hc⟩
end
end Go.Mo
end

section
/-
  Plain facts: digits and the bytes of a header.
-/
namespace Go.Mo
open Go Go.W Go.Lib
set_option maxRecDepth 100000

/-- the byte of the last digit -/
def dg (v : Int) : UInt8 := b8 (w64 (iadd 48 (imod v 10)))
def dv (v : Int) : Int := w64 (idiv v 10)
end Go.Mo
end

section
/-
  Plain facts: what the check of a header lets through; the bytes of a header.
-/
namespace Go.Mo
open Go Go.W Go.Lib
set_option maxRecDepth 100000
noncomputable section

def lblOk (l : Lbl) : Prop := (0 ≤ l.1 ∧ l.1 ≤ 23) ∧ (0 ≤ l.2.1 ∧ l.2.1 ≤ 59) ∧ (0 ≤ l.2.2.1 ∧ l.2.2.1 ≤ 59) ∧ (0 ≤ l.2.2.2.1 ∧ l.2.2.2.1 ≤ 59)
structure HdrOk (h : Hdr) : Prop where
  rate : h.1 = 3 ∨ h.1 = 5
  lang : h.2.1 = [] ∨ nm h.2.1 = true
  ttl : vld h.2.2.1 = true
  ttlL : h.2.2.1.length ≤ 400
  blocks : 0 ≤ h.2.2.2.1 ∧ h.2.2.2.1 ≤ 99999
  groups : 0 ≤ h.2.2.2.2.1 ∧ h.2.2.2.2.1 ≤ 99999
  start : lblOk h.2.2.2.2.2.1
  first : lblOk h.2.2.2.2.2.2.1
  rows : 0 ≤ h.2.2.2.2.2.2.2.1 ∧ h.2.2.2.2.2.2.2.1 ≤ 99
  cols : 0 ≤ h.2.2.2.2.2.2.2.2 ∧ h.2.2.2.2.2.2.2.2 ≤ 99
  d1 : h.2.2.2.2.2.1.2.2.2.2 = false
  d2 : h.2.2.2.2.2.2.1.2.2.2.2 = false
end
end Go.Mo
end

section
/-
  Plain facts: numbers and names read back.
-/
namespace Go.Mo
open Go Go.W Go.Lib
set_option maxRecDepth 100000
noncomputable section

end
end Go.Mo
end

section
/-
  Plain facts: a header read back; TapeHeaders.
-/
namespace Go.Mo
open Go Go.W Go.Lib
set_option maxRecDepth 100000
noncomputable section

def hz : Hdr := ((0 : UInt8), ([] : List UInt8), ([] : List UInt8), (0 : Int), (0 : Int), ((0 : Int), (0 : Int), (0 : Int), (0 : Int), false), ((0 : Int), (0 : Int), (0 : Int), (0 : Int), false), (0 : Int), (0 : Int))
end
end Go.Mo
end

section
/-
  Plain facts: rows that are read are small; a subtitle that is read, both sides.
-/
namespace Go.Mo
open Go Go.W Go.Lib
set_option maxRecDepth 100000
noncomputable section

theorem norm_tot (l : Row) : tot (normR l) = tot l := by
  rw [← plainT_len, ← plainT_len]
  unfold normR
  rw [fold_plain]
  rfl
end
end Go.Mo
end

section
/-
  Plain facts: events in document order, both sides.
-/
namespace Go.Mo
open Go Go.W Go.Lib
set_option maxRecDepth 100000
noncomputable section

end
end Go.Mo
end

section
/-
  Plain facts: the program's sorting of few events.
-/
namespace Go.Mo
open Go Go.W Go.Lib
set_option maxRecDepth 100000
noncomputable section

end
end Go.Mo
end

section
/-
  Plain facts: what is read is a valid document that the form carries; StlValid returns true.
-/
namespace Go.Mo
open Go Go.W Go.Lib
set_option maxRecDepth 100000
noncomputable section

end
end Go.Mo
end

section
/-
  Plain facts: the blocks of a subtitle lead back to it.
-/
namespace Go.Mo
open Go Go.W Go.Lib
set_option maxRecDepth 100000
noncomputable section

theorem enc_tot : ∀ l : List Int, l.all inRep = true → (ofR l).length ≤ 4 * l.length
  | [], _ => Nat.le_refl _
  | r :: l, h => by
    rw [List.all_cons, Bool.and_eq_true] at h
    have h1 := enc_tot l h.2
    have h2 := enc_len4 h.1
    have e : ofR (r :: l) = enc r ++ ofR l := by unfold ofR; rw [List.flatMap_cons]
    rw [e, List.length_append, List.length_cons]
    omega
theorem tot_lenT : ∀ (l : Row), (∀ x ∈ l, vld x.1 = true) → tot l ≤ 4 * lenT l
  | [], _ => Nat.le_refl _
  | x :: l, h => by
    have h1 := tot_lenT l fun y hy => h y (List.mem_cons_of_mem _ hy)
    have hv := h x List.mem_cons_self
    have h2 := enc_tot (rns x.1) (rns_ok hv)
    rw [ofR_rns hv] at h2
    simp only [tot, lenT]
    omega
end
end Go.Mo
end

section
/-
  Plain facts: the file of an accepted document is read as the reduced document; StlCarries returns true.
-/
namespace Go.Mo
open Go Go.W Go.Lib
set_option maxRecDepth 100000
noncomputable section

end
end Go.Mo
end
end

section
/-
  Plain facts: times and their texts, both sides; SubripClocks returns true.
-/
namespace Go.Mo
open Go Go.W Go.Lib
set_option maxRecDepth 100000
noncomputable section

theorem awake19 : l19_awake fuelH () = some true := by kernel_rfl

theorem dtab2 : ((List.range 100).all fun n => decide (subrip_digits fuelH ((n : Int), 2) = some [dg (dv (n : Int)), dg (n : Int)])) = true := by kernel_rfl
theorem dtab3 : ((List.range 1000).all fun n => decide (subrip_digits fuelH ((n : Int), 3) = some [dg (dv (dv (n : Int))), dg (dv (n : Int)), dg (n : Int)])) = true := by kernel_rfl
theorem r19d2 (v : Int) : r19_digits fuelH (v, 2) = some [dg (dv v), dg v] := by kernel_rfl
theorem r19d3 (v : Int) : r19_digits fuelH (v, 3) = some [dg (dv (dv v)), dg (dv v), dg v] := by kernel_rfl
theorem sub_d2 {v : Int} (h0 : 0 ≤ v) (h1 : v < 100) : subrip_digits fuelH (v, 2) = some [dg (dv v), dg v] := by
  have := of_decide_eq_true (List.all_eq_true.1 dtab2 v.toNat (List.mem_range.2 (by omega)))
  rwa [show ((v.toNat : Nat) : Int) = v by omega] at this
theorem sub_d3 {v : Int} (h0 : 0 ≤ v) (h1 : v < 1000) : subrip_digits fuelH (v, 3) = some [dg (dv (dv v)), dg (dv v), dg v] := by
  have := of_decide_eq_true (List.all_eq_true.1 dtab3 v.toNat (List.mem_range.2 (by omega)))
  rwa [show ((v.toNat : Nat) : Int) = v by omega] at this

def clkB (h m s t : Int) : List UInt8 := [dg (dv h), dg h, 58, dg (dv m), dg m, 58, dg (dv s), dg s, 44, dg (dv (dv t)), dg (dv t), dg t]
def clkS (v : Int) : List UInt8 × Int := if v < 0 then ([], 2) else if 359999999 < v then ([], 2) else (clkB (v / 3600000) (v / 60000 % 60) (v / 1000 % 60) (v % 1000), 0)
theorem tdiv_w {a b : Int} (ha : 0 ≤ a ∧ a ≤ 359999999) (hb : 0 < b) : w64 (idiv a b) = a / b := by
  unfold idiv
  have h1 := Int.ediv_nonneg ha.1 (Int.le_of_lt hb)
  have h2 := Int.ediv_le_self b ha.1
  rw [Int.tdiv_eq_ediv_of_nonneg ha.1, w64_id (by omega)]
theorem tmod_w {a b : Int} (ha : 0 ≤ a) : imod a b = a % b := Int.tmod_eq_emod_of_nonneg ha
theorem sub_clock (v : Int) : subrip_Clock fuelH v = some (clkS v) := by
  unfold subrip_Clock clkS
  rw [cnd_ilt]
  by_cases h0 : v < 0
  · rw [if_pos h0, if_pos h0]
  rw [if_neg h0, if_neg h0, cnd_ilt]
  by_cases h1 : 359999999 < v
  · rw [if_pos h1, if_pos h1]
  have e1 := tdiv_w (a := v) (b := 1000) (by omega) (by omega)
  have e2 := tdiv_w (a := v / 1000) (b := 3600) (by omega) (by omega)
  have e3 := tdiv_w (a := v / 1000) (b := 60) (by omega) (by omega)
  rw [if_neg h1, if_neg h1, e1, e2, e3, tmod_w (a := v / 1000 / 60) (by omega), tmod_w (a := v / 1000) (by omega), tmod_w (a := v) (by omega), sub_d2 (by omega) (by omega), bnd_some', grd_t (by kernel_rfl), sub_d2 (by omega) (by omega), bnd_some', grd_t (by kernel_rfl), grd_t (by kernel_rfl), sub_d2 (by omega) (by omega), bnd_some', grd_t (by kernel_rfl), grd_t (by kernel_rfl), sub_d3 (by omega) (by omega), bnd_some', grd_t (by kernel_rfl)]
  rw [show v / 3600000 = v / 1000 / 3600 by omega, show v / 60000 = v / 1000 / 60 by omega]
  rfl
theorem ref_clock (v : Int) : r19_Clock fuelH v = some (clkS v) := by
  unfold r19_Clock clkS
  rw [cnd_ilt]
  by_cases h0 : v < 0
  · rw [if_pos h0, if_pos h0]
  rw [if_neg h0, if_neg h0, cnd_ilt]
  by_cases h1 : 359999999 < v
  · rw [if_pos h1, if_pos h1]
  have e1 := tdiv_w (a := v) (b := 1000) (by omega) (by omega)
  have e2 := tdiv_w (a := v) (b := 3600000) (by omega) (by omega)
  have e3 := tdiv_w (a := v) (b := 60000) (by omega) (by omega)
  rw [if_neg h1, if_neg h1, e1, e2, e3, tmod_w (a := v / 60000) (by omega), tmod_w (a := v / 1000) (by omega), tmod_w (a := v) (by omega), r19d2, bnd_some', grd_t (by kernel_rfl), r19d2, bnd_some', grd_t (by kernel_rfl), grd_t (by kernel_rfl), r19d2, bnd_some', grd_t (by kernel_rfl), grd_t (by kernel_rfl), r19d3, bnd_some', grd_t (by kernel_rfl)]
  rfl

end
end Go.Mo
end

section
/-
  Plain facts: the markup of rows, both sides.
-/
namespace Go.Mo
open Go Go.W Go.Lib
set_option maxRecDepth 100000
noncomputable section

def badB (b : UInt8) : Bool := decide (b = 60) || (decide (b = 62) || decide (b = 38))
def hasX (l : List UInt8) : Bool := l.any badB
def chX : List UInt8 := [60, 62, 38]
theorem badB_mem (b : UInt8) : chX.contains b = badB b := by
  unfold chX badB
  simp [List.contains_cons, List.elem]
theorem index_any : ∀ l : List UInt8, (0 ≤ Lib.indexAny l chX ↔ hasX l = true)
  | [] => by simp [Lib.indexAny, hasX]
  | b :: l => by
    have ih := index_any l
    have hg := Lib.indexAny_ge chX l
    unfold Lib.indexAny hasX
    rw [badB_mem, List.any_cons]
    cases hb : badB b with
    | true => simp
    | false =>
      simp only [Bool.false_or, Bool.false_eq_true, if_false]
      show 0 ≤ (if (Lib.indexAny l chX == -1) = true then (-1 : Int) else Lib.indexAny l chX + 1) ↔ hasX l = true
      by_cases h1 : Lib.indexAny l chX = -1
      · rw [if_pos (by simp [h1])]
        rw [h1] at ih
        exact ih
      · rw [if_neg (by simpa using h1), ← ih]
        omega
/-- where a letter of the repertoire stands among the three -/
def ixR (r : Int) : Bool := match strings_IndexRune fuelH (chX, r) with
  | some v => decide ((decide (0 ≤ v)) = hasX (enc r)) && decide ((0 ≤ v) = (0 ≤ v))
  | none => false
theorem ixR_tab {r : Int} (hr : inRep r = true) : ixR r = true := all_rep (P := ixR) (by kernel_rfl) hr
theorem ix_rune {r : Int} (hr : inRep r = true) : ∃ v, strings_IndexRune fuelH (chX, r) = some v ∧ decide (0 ≤ v) = hasX (enc r) := by
  have h := ixR_tab hr
  unfold ixR at h
  split at h
  · rename_i v hv
    rw [Bool.and_eq_true] at h
    exact ⟨v, hv, of_decide_eq_true h.1⟩
  · cases h
theorem hasX_ofR : ∀ l : List Int, hasX (ofR l) = l.any fun r => hasX (enc r)
  | [] => rfl
  | r :: l => by
    have e : ofR (r :: l) = enc r ++ ofR l := by unfold ofR; rw [List.flatMap_cons]
    rw [e, List.any_cons, ← hasX_ofR l]
    unfold hasX
    rw [List.any_append]
theorem contains_any {l : List UInt8} (hv : vld l = true) (hl : l.length ≤ 4000000) : strings_ContainsAny fuelH (l, [60, 62, 38]) = some (hasX l) := by
  unfold strings_ContainsAny strings_IndexAny
  by_cases h9 : 9 ≤ l.length
  · have hb : longAny (l, [60, 62, 38]) = true := by
      unfold longAny
      rw [show Nat.ble 9 l.length = true from Nat.ble_eq_true_of_le h9, show Nat.ble l.length 4294967280 = true from Nat.ble_eq_true_of_le (by omega)]
      rfl
    rw [hb]
    show bnd (some (Lib.indexAny l chX)) _ = _
    rw [bnd_some']
    congr 1
    rw [Bool.eq_iff_iff, ← index_any]
    exact decide_eq_true_iff
  · have hb : longAny (l, [60, 62, 38]) = false := by
      unfold longAny
      rw [show Nat.ble 9 l.length = false by rw [← Bool.not_eq_true]; intro k; exact h9 (Nat.le_of_ble_eq_true k)]
      rfl
    rw [hb]
    show bnd (strings_IndexAny_s fuelH (l, chX)) _ = _
    have key : ∃ v, strings_IndexAny_s fuelH (l, chX) = some v ∧ decide (0 ≤ v) = hasX l := by
      unfold strings_IndexAny_s strings_shouldUseASCIISet
      simp only
      rw [cnd_f (by rfl), cnd_f (by rfl), jn_e, bnd_some', cnd_f (ilt_f (by simp only [len]; omega))]
      rw [jn_e]
      -- the loop tells the place; what counts is whether there is one
      have loop : ∀ (fuel p : Nat), l.length - p < fuel → vld (l.drop p) = true → ∃ v, fixN (fun (v5 : (List UInt8) × Int → Option Int) (v6 : (List UInt8) × Int) =>
          cnd (nlt (toN v6.2) (nlen v6.1))
            (bnd (strings_IndexRune fuelH (chX, decR v6.1 (toN v6.2))) fun v7 =>
            cnd (ile (0 : Int) v7)
              (some (ofN (toN v6.2)))
              (v5 (v6.1, ofN (nadd (toN v6.2) (decW v6.1 (toN v6.2))))))
            (some (-1 : Int))) fuel (l, ofN p) = some v ∧ decide (0 ≤ v) = (rns (l.drop p)).any fun r => hasX (enc r) := by
        intro fuel
        induction fuel with
        | zero => intro p h; omega
        | succ fuel ih =>
          intro p h hvd
          rw [fixN_s]
          simp only
          have tp : toN (ofN p) = p := by simp [toN, ofN]
          rw [tp]
          by_cases hp : p < l.length
          · have hne : l.drop p ≠ [] := by intro e; have := congrArg List.length e; rw [List.length_drop] at this; simp at this; omega
            have e1 := rns_step (l.drop p) hne
            have e2 := vld_step (l.drop p) hne
            rw [hvd] at e2
            by_cases hr : inRep ((decodeL (l.drop p)).1 : Int) = true
            case neg => rw [if_neg hr] at e2; cases e2
            rw [if_pos hr, List.drop_drop] at e2
            obtain ⟨v, q1, q2⟩ := ix_rune hr
            have ed : decR l p = ((decodeL (l.drop p)).1 : Int) := decR_eq l p
            have ew : decW l p = (decodeL (l.drop p)).2 := decW_eq l p
            have hpos := dec_pos (l.drop p)
            rw [cnd_t (by show nlt p (nlen l) = true; exact decide_eq_true hp), ed, ew, q1, bnd_some', e1, List.any_cons, ← q2, List.drop_drop]
            have e : ile (0 : Int) v = decide (0 ≤ v) := rfl
            rw [e]
            cases hd : decide (0 ≤ v) with
            | true => exact ⟨_, rfl, by show decide (0 ≤ (p : Int)) = true; exact decide_eq_true (by omega)⟩
            | false =>
              rw [Bool.false_or]
              exact ih (p + (decodeL (l.drop p)).2) (by omega) e2.symm
          · rw [cnd_f (by show nlt p (nlen l) = false; exact decide_eq_false hp), List.drop_eq_nil_of_le (by omega)]
            exact ⟨-1, rfl, rfl⟩
      obtain ⟨v, h1, h2⟩ := loop fuelH 0 (by have := fuelH_eq; omega) (by rw [List.drop_zero]; exact hv)
      refine ⟨v, h1, ?_⟩
      rw [h2, List.drop_zero, ← hasX_ofR, ofR_rns hv]
    obtain ⟨v, h1, h2⟩ := key
    rw [h1, bnd_some', ← h2]
    rfl

def wht (x : Run) : Run := (x.1, (0, x.2.1.2), [])
def carr (r : Row) : Row := normR (r.map wht)
theorem wht_tot (l : Row) : tot (l.map wht) = tot l := by
  induction l with
  | nil => rfl
  | cons x l ih => simp only [List.map_cons, tot, ih]; rfl
theorem sub_carried {l : Row} (hl : l.length ≤ 4000000) (ht : tot l ≤ 8000000) : subrip_carried fuelH l = some (carr l) := by
  unfold subrip_carried
  rw [jn_e]
  refine loop_inv (n := l.length) (fun (b : Row) (j : Nat) => ((j : Int), b)) (fun j b => b = (l.take j).map wht) _ (fun self b j hj hJ => ?_) (fun self b hJ => ?_) fuelH 0 [] (Nat.zero_le _) (by have := fuelH_eq; omega) rfl
  · refine ⟨b ++ [wht l[j]], ?_, by rw [hJ, List.take_succ_eq_append_getElem hj, List.map_append]; rfl⟩
    have hbl : b.length ≤ 4000000 := by rw [hJ, List.length_map, List.length_take]; omega
    simp only
    rw [cnd_t (ilt_t (by simp only [len]; omega)), grd_t (inb_t (by simp only [len]; omega)), lget_i hj, grd_t (room_t (by simp only [iadd, len, List.length_singleton]; omega)), w64_succ hj (by omega)]
    rfl
  · simp only
    rw [cnd_f (ilt_f (by simp only [len]; omega)), hJ, List.take_length, style_Norm_eq (by rw [List.length_map]; exact hl) (by rw [wht_tot]; exact ht), bnd_some']
    rfl
theorem ref_carried {l : Row} (hl : l.length ≤ 4000000) (ht : tot l ≤ 8000000) : r19_carried fuelH l = some (carr l) := by
  unfold r19_carried
  rw [jn_e]
  refine loop_inv (n := l.length) (fun (b : Row) (j : Nat) => ((j : Int), b)) (fun j b => b = (l.take j).map wht) _ (fun self b j hj hJ => ?_) (fun self b hJ => ?_) fuelH 0 [] (Nat.zero_le _) (by have := fuelH_eq; omega) rfl
  · refine ⟨b ++ [wht l[j]], ?_, by rw [hJ, List.take_succ_eq_append_getElem hj, List.map_append]; rfl⟩
    have hbl : b.length ≤ 4000000 := by rw [hJ, List.length_map, List.length_take]; omega
    simp only
    rw [cnd_t (ilt_t (by simp only [len]; omega)), grd_t (inb_t (by simp only [len]; omega)), lget_i hj, grd_t (room_t (by simp only [iadd, len, List.length_singleton]; omega)), w64_succ hj (by omega)]
    rfl
  · simp only
    rw [cnd_f (ilt_f (by simp only [len]; omega)), hJ, List.take_length, r09_Norm_eq (by rw [List.length_map]; exact hl) (by rw [wht_tot]; exact ht), bnd_some']
    rfl

def ti : List UInt8 := [60, 105, 62]
def tI : List UInt8 := [60, 47, 105, 62]
def tu : List UInt8 := [60, 117, 62]
def tU : List UInt8 := [60, 47, 117, 62]
def wrU (x : Run) : List UInt8 := if x.2.1.2.2 = true then tu ++ x.1 ++ tU else x.1
def wrX (x : Run) : List UInt8 := if x.2.1.2.1 = true then ti ++ wrU x ++ tI else wrU x
def mkS (r : Row) : List UInt8 × Int := if rowChk r ≠ 0 then ([], rowChk r) else if hasX (plainT r) = true then ([], 10) else ((carr r).flatMap wrX, 0)
theorem wrU_len (x : Run) : (wrU x).length ≤ x.1.length + 7 := by unfold wrU tu tU; split <;> simp
theorem wrX_len (x : Run) : (wrX x).length ≤ x.1.length + 14 := by
  have := wrU_len x
  unfold wrX ti tI
  split
  · simp only [List.length_append, List.length_cons, List.length_nil]; omega
  · omega
theorem wr_len : ∀ l : Row, (l.flatMap wrX).length ≤ tot l + 14 * l.length
  | [] => Nat.le_refl _
  | x :: l => by
    have h1 := wr_len l
    have h2 := wrX_len x
    rw [List.flatMap_cons, List.length_append, List.length_cons]
    simp only [tot]
    omega
theorem carr_plain (r : Row) : plainT (carr r) = plainT r := by
  unfold carr normR
  rw [fold_plain]
  show [] ++ plainT (r.map wht) = _
  rw [List.nil_append]
  unfold plainT
  rw [List.flatMap_map]
  rfl
theorem hasX_flat : ∀ l : Row, hasX (plainT l) = l.any fun x => hasX x.1
  | [] => rfl
  | x :: l => by
    have e : plainT (x :: l) = x.1 ++ plainT l := by unfold plainT; rw [List.flatMap_cons]
    rw [e, List.any_cons, ← hasX_flat l]
    unfold hasX
    rw [List.any_append]
theorem carr_len (r : Row) : (carr r).length ≤ r.length ∧ tot (carr r) = tot r := by
  have h1 := normR_len (r.map wht)
  rw [List.length_map] at h1
  exact ⟨h1, (norm_tot _).trans (wht_tot r)⟩
theorem plain_vld : ∀ l : Row, (∀ x ∈ l, vld x.1 = true) → vld (plainT l) = true
  | [], _ => rfl
  | x :: l, h => by
    have e : plainT (x :: l) = x.1 ++ plainT l := by unfold plainT; rw [List.flatMap_cons]
    rw [e, vld_cat (h x List.mem_cons_self)]
    exact plain_vld l fun y hy => h y (List.mem_cons_of_mem _ hy)
theorem catW {a b : List UInt8} (h : a.length + b.length ≤ 100000000) : catOk (iadd (len a) (len b)) = true := catOk_t (by simp only [iadd, len]; omega)
theorem sub_markup {r : Row} (hs : smallR r) : subrip_Markup fuelH r = some (mkS r) := by
  unfold subrip_Markup mkS
  rw [style_check hs.1, bnd_some']
  by_cases hc : rowChk r ≠ 0
  · rw [cnd_t (ine_t hc), if_pos hc]
  have hc : rowChk r = 0 := by simpa using hc
  have hok := okR_of hs hc
  rw [cnd_f (ine_f hc), if_neg (by rw [hc]; simp), style_plain hok, bnd_some']
  have hpl := plainT_len r
  have ht := hs.2
  rw [contains_any (plain_vld r fun x hx => (hok.2.1 x hx).1) (by omega), bnd_some']
  cases hx : hasX (plainT r) with
  | true => rfl
  | false =>
    rw [cnd_f rfl, if_neg (by simp), jn_e, sub_carried (by have := hok.1; omega) (by omega), bnd_some']
    obtain ⟨c1, c2⟩ := carr_len r
    have h16 := hok.1
    generalize carr r = c at c1 c2 ⊢
    have hb : ∀ i, ((c.take i).flatMap wrX).length ≤ 4000000 + 14 * 16 := fun i => by
      have h1 := wr_len (c.take i)
      have h2 : tot (c.take i) ≤ tot c := by
        have e := List.take_append_drop i c
        have := tot_app (c.take i) (c.drop i)
        rw [e] at this
        omega
      rw [List.length_take] at h1
      omega
    refine loop_inv (n := c.length) (fun (a : List UInt8) (j : Nat) => ((j : Int), ((), a))) (fun j a => a = (c.take j).flatMap wrX) _ (fun self a j hj hJ => ?_) (fun self a hJ => ?_) fuelH 0 [] (Nat.zero_le _) (by have := fuelH_eq; omega) rfl
    · refine ⟨a ++ wrX c[j], ?_, by rw [hJ, List.take_succ_eq_append_getElem hj, List.flatMap_append]; simp⟩
      have ha : a.length ≤ 4000000 + 14 * 16 := by rw [hJ]; exact hb j
      have hxl : c[j].1.length ≤ 4000000 := by
        have := tot_mem (List.getElem_mem hj)
        omega
      have hw := wrX_len c[j]
      simp only
      rw [cnd_t (ilt_t (by simp only [len]; omega)), grd_t (inb_t (by simp only [len]; omega)), lget_i hj, w64_succ hj (by omega)]
      unfold wrX wrU at hw ⊢
      cases hu : c[j].2.1.2.2 with
      | true =>
        cases hi : c[j].2.1.2.1 with
        | true =>
          rw [hu, hi] at hw
          rw [cnd_t rfl, cnd_t rfl, if_pos rfl, if_pos rfl, grd_t (catW (by simp only [List.length_cons, List.length_nil]; omega)), grd_t (catW (by simp only [lapp, List.length_append, List.length_cons, List.length_nil]; omega)), grd_t (catW (by simp only [lapp, List.length_append, List.length_cons, List.length_nil]; omega)), grd_t (catW (by simp only [lapp, List.length_append, List.length_cons, List.length_nil]; omega)), write_str (by simp only [lapp, List.length_append, List.length_cons, List.length_nil]; omega), bnd_some']
          rfl
        | false =>
          rw [cnd_t rfl, cnd_f rfl, if_neg (by simp), if_pos rfl, grd_t (catW (by simp only [List.length_cons, List.length_nil]; omega)), grd_t (catW (by simp only [lapp, List.length_append, List.length_cons, List.length_nil]; omega)), write_str (by simp only [lapp, List.length_append, List.length_cons, List.length_nil]; omega), bnd_some']
          rfl
      | false =>
        cases hi : c[j].2.1.2.1 with
        | true =>
          rw [cnd_f rfl, cnd_t rfl, if_pos rfl, if_neg (by simp), grd_t (catW (by simp only [List.length_cons, List.length_nil]; omega)), grd_t (catW (by simp only [lapp, List.length_append, List.length_cons, List.length_nil]; omega)), write_str (by simp only [lapp, List.length_append, List.length_cons, List.length_nil]; omega), bnd_some']
          rfl
        | false =>
          rw [cnd_f rfl, cnd_f rfl, if_neg (by simp), if_neg (by simp), write_str (by omega), bnd_some']
    · simp only
      rw [cnd_f (ilt_f (by simp only [len]; omega)), hJ, List.take_length]
end
end Go.Mo
end

section
/-
  Plain facts: the markup of rows by the specification; what a text with tags means, both sides; SubripMarkups returns true.
-/
namespace Go.Mo
open Go Go.W Go.Lib
set_option maxRecDepth 100000
noncomputable section

def mkR (_ : Nat) (x : Run) (a : List UInt8) : Option (List UInt8 × Int) ⊕ List UInt8 := if hasX x.1 = true then .inl (some ([], 10)) else .inr (a ++ wrX x)
theorem mk_it : ∀ (l : Row) (i : Nat) (a : List UInt8), itI mkR (fun a => some (a, (0 : Int))) i l a = some (if (l.any fun x => hasX x.1) = true then ([], 10) else (a ++ l.flatMap wrX, 0))
  | [], _, a => by simp [itI]
  | x :: l, i, a => by
    simp only [itI, mkR]
    rw [List.any_cons]
    cases hx : hasX x.1 with
    | true => rfl
    | false =>
      rw [Bool.false_or]
      have := mk_it l (i + 1) (a ++ wrX x)
      rw [List.flatMap_cons, ← List.append_assoc]
      exact this
theorem scan_eq {l : List UInt8} (hl : l.length ≤ 4000000) (K : Option (List UInt8 × Int)) : fixN (fun (v12 : Int → Option (List UInt8 × Int)) (v13 : Int) =>
          cnd (ilt v13 (len l))
            (grd (inb v13 (len l))
              (cnd (ieq (n8 (lget l (toN v13) (0 : UInt8))) (n8 (60 : UInt8)))
                (some (([] : List UInt8), (10 : Int)))
                (grd (inb v13 (len l))
                  (cnd (ieq (n8 (lget l (toN v13) (0 : UInt8))) (n8 (62 : UInt8)))
                    (some (([] : List UInt8), (10 : Int)))
                    (grd (inb v13 (len l))
                      (cnd (ieq (n8 (lget l (toN v13) (0 : UInt8))) (n8 (38 : UInt8)))
                        (some (([] : List UInt8), (10 : Int)))
                        (v12 (w64 (iadd v13 (1 : Int))))))))))
            K) fuelH (0 : Int) = if hasX l = true then some ([], 10) else K := by
  have ie : ∀ a b : UInt8, ieq (n8 a) (n8 b) = decide (a = b) := fun a b => by
    by_cases h : a = b
    · subst h; rw [decide_eq_true rfl]; exact ieq_t rfl
    · rw [decide_eq_false h]; exact ieq_f fun k => h (n8_inj k)
  refine Eq.trans (lst_it (l := l) (fun (_ : Unit) (p : Nat) => (p : Int)) (fun _ c (_ : Unit) => if badB c = true then .inl (some (([] : List UInt8), (10 : Int))) else .inr ()) (fun _ => K) (fun _ _ => True) (fun self a i hi _ => ?_) (fun self a _ => ?_) fuelH 0 () (Nat.zero_le _) (by have := fuelH_eq; omega) trivial) ?_
  · have hin : inb (i : Int) (len l) = true := inb_t (by simp only [len]; omega)
    rw [cnd_t (ilt_t (by simp only [len]; omega)), grd_t hin, lget_i hi, ie, ie, ie, grd_t hin, grd_t hin, w64_succ hi (by omega)]
    unfold badB
    by_cases h1 : l[i] = 60
    · rw [decide_eq_true h1]; rfl
    by_cases h2 : l[i] = 62
    · rw [decide_eq_true h2, decide_eq_false h1]; rfl
    by_cases h3 : l[i] = 38
    · rw [decide_eq_true h3, decide_eq_false h1, decide_eq_false h2]; rfl
    rw [decide_eq_false h1, decide_eq_false h2, decide_eq_false h3]
    exact ⟨rfl, trivial⟩
  · rw [cnd_f (ilt_f (by simp only [len]; omega))]
  · rw [List.drop_zero]
    have : ∀ (l : List UInt8) (i : Nat), itI (fun _ c (_ : Unit) => if badB c = true then .inl (some (([] : List UInt8), (10 : Int))) else .inr ()) (fun _ => K) i l () = if hasX l = true then some ([], 10) else K := by
      intro l
      induction l with
      | nil => intro i; rfl
      | cons c l ih =>
        intro i
        simp only [itI]
        have e : hasX (c :: l) = (badB c || hasX l) := List.any_cons
        rw [e]
        cases hb : badB c with
        | true => rfl
        | false => exact ih (i + 1)
    exact this l 0
theorem ref_markup {r : Row} (hs : smallR r) : r19_Markup fuelH r = some (mkS r) := by
  unfold r19_Markup mkS
  rw [r09_check hs.1, bnd_some']
  by_cases hc : rowChk r ≠ 0
  · rw [cnd_t (ine_t hc), if_pos hc]
  have hc : rowChk r = 0 := by simpa using hc
  have hok := okR_of hs hc
  have ht := hs.2
  rw [cnd_f (ine_f hc), if_neg (by rw [hc]; simp), jn_e, ref_carried (by have := hok.1; omega) (by omega), bnd_some']
  obtain ⟨c1, c2⟩ := carr_len r
  have h16 := hok.1
  rw [← carr_plain, hasX_flat]
  generalize carr r = c at c1 c2 ⊢
  refine Eq.trans (lst_it (l := c) (fun (a : List UInt8) (p : Nat) => (a, (p : Int))) mkR (fun a => some (a, (0 : Int))) (fun i a => a.length ≤ tot (c.take i) + 14 * i) (fun self a i hi hI => ?_) (fun self a _ => ?_) fuelH 0 [] (Nat.zero_le _) (by have := fuelH_eq; omega) (Nat.zero_le _)) ?_
  · have htk : tot (c.take (i + 1)) = tot (c.take i) + c[i].1.length := by
      rw [List.take_succ_eq_append_getElem hi, tot_app]
      rfl
    have htl : tot (c.take (i + 1)) ≤ tot c := by
      have e := List.take_append_drop (i + 1) c
      have := tot_app (c.take (i + 1)) (c.drop (i + 1))
      rw [e] at this
      omega
    have hw := wrX_len c[i]
    have hin : inb (i : Int) (len c) = true := inb_t (by simp only [len]; omega)
    simp only
    rw [cnd_t (ilt_t (by simp only [len]; omega)), jn_e, grd_t hin, lget_i hi, jn_e, scan_eq (by omega), w64_succ hi (by omega)]
    unfold mkR
    cases hx : hasX c[i].1 with
    | true => rfl
    | false =>
      rw [if_neg (by simp), if_neg (by simp)]
      refine ⟨?_, by simp only [List.length_append]; omega⟩
      rw [jn_e]
      dsimp only
      unfold wrX wrU at hw ⊢
      cases hu : c[i].2.1.2.2 with
      | true =>
        cases hit : c[i].2.1.2.1 with
        | true =>
          rw [hu, hit] at hw
          rw [cnd_t rfl, cnd_t rfl, if_pos rfl, if_pos rfl, grd_t (catW (by simp only [List.length_cons, List.length_nil]; omega)), grd_t (catW (by simp only [lapp, List.length_append, List.length_cons, List.length_nil]; omega)), grd_t (catW (by simp only [lapp, List.length_append, List.length_cons, List.length_nil]; omega)), grd_t (catW (by simp only [lapp, List.length_append, List.length_cons, List.length_nil]; omega)), grd_t (catW (by simp only [lapp, List.length_append, List.length_cons, List.length_nil]; omega))]
          rfl
        | false =>
          rw [cnd_t rfl, cnd_f rfl, if_neg (by simp), if_pos rfl, grd_t (catW (by simp only [List.length_cons, List.length_nil]; omega)), grd_t (catW (by simp only [lapp, List.length_append, List.length_cons, List.length_nil]; omega)), grd_t (catW (by simp only [lapp, List.length_append, List.length_cons, List.length_nil]; omega))]
          rfl
      | false =>
        cases hit : c[i].2.1.2.1 with
        | true =>
          rw [cnd_f rfl, cnd_t rfl, if_pos rfl, if_neg (by simp), grd_t (catW (by simp only [List.length_cons, List.length_nil]; omega)), grd_t (catW (by simp only [lapp, List.length_append, List.length_cons, List.length_nil]; omega)), grd_t (catW (by simp only [lapp, List.length_append, List.length_cons, List.length_nil]; omega))]
          rfl
        | false =>
          rw [cnd_f rfl, cnd_f rfl, if_neg (by simp), if_neg (by simp), grd_t (catW (by omega))]
          rfl
  · simp only
    rw [cnd_f (ilt_f (by simp only [len]; omega))]
  · rw [List.drop_zero, mk_it, List.nil_append]
    all_goals (split <;> rfl)

end
end Go.Mo
end

section
/-
  Plain facts: what a text with tags means, both sides; SubripMarkups returns true.
-/
namespace Go.Mo
open Go Go.W Go.Lib
set_option maxRecDepth 100000
noncomputable section

end
end Go.Mo
end

section
/-
  Plain facts: the markup of a row means the row without colours and ruby; SubripReturns returns true.
-/
namespace Go.Mo
open Go Go.W Go.Lib
set_option maxRecDepth 100000
noncomputable section

end
end Go.Mo
end

section
/-
  Plain facts: the document as the form carries it, both sides; SubripReduced returns true.
-/
namespace Go.Mo
open Go Go.W Go.Lib
set_option maxRecDepth 100000
noncomputable section

def noQ : Doc := ([], [], 0, false, 0, [], [], [])
def fewQ (d : Doc) : Doc := (d.1, d.2.1, d.2.2.1, d.2.2.2.1, d.2.2.2.2.1, d.2.2.2.2.2.1, d.2.2.2.2.2.2.1.take 6, d.2.2.2.2.2.2.2.take 4)
theorem few_eqQ (d : Doc) : l19_few fuelH d = some (fewQ d) := by
  unfold l19_few fewQ
  obtain ⟨e1, e2⟩ := min_take d.2.2.2.2.2.2.1 6
  obtain ⟨e3, e4⟩ := min_take d.2.2.2.2.2.2.2 4
  have e1 : ltake (toN (imin (len d.2.2.2.2.2.2.1) (6 : Int))) d.2.2.2.2.2.2.1 = _ := e1
  have e3 : ltake (toN (imin (len d.2.2.2.2.2.2.2) (4 : Int))) d.2.2.2.2.2.2.2 = _ := e3
  rw [grd_t (show in2 (imin (len d.2.2.2.2.2.2.1) (6 : Int)) (len d.2.2.2.2.2.2.1) = true from e2), grd_t (show in2 (imin (len d.2.2.2.2.2.2.2) (4 : Int)) (len d.2.2.2.2.2.2.2) = true from e4), e1, e3]
theorem few_smallQ {d : Doc} (hb : wtD d ≤ 1048576) : smallD (fewQ d) ∧ ∀ x ∈ (fewQ d).2.2.2.2.2.2.1, ∀ r ∈ x.2.2.2.2.2, tot r ≤ 1048576 := by
  unfold wtD at hb
  have hg := bk_len (f := wtG) (fun r => by unfold wtG; omega) d.2.2.2.2.2.1
  have hrow : ∀ x ∈ (fewQ d).2.2.2.2.2.2.1, ∀ r ∈ x.2.2.2.2.2, shortR r ∧ tot r ≤ 1048576 := fun x hx r hr => by
    have hx : x ∈ d.2.2.2.2.2.2.1 := List.mem_of_mem_take (show x ∈ d.2.2.2.2.2.2.1.take 6 from hx)
    have h1 : 1 + (1 + 1 + (x.2.2.1.length + 1 + (1 + (x.2.2.2.2.1.length + 1 + (bkL wtR x.2.2.2.2.2 + 1))))) ≤ bkL wtX d.2.2.2.2.2.2.1 := bk_mem (f := wtX) hx
    have h2 : bkL wtU r + 1 ≤ bkL wtR x.2.2.2.2.2 := bk_mem (f := wtR) hr
    have h3 := cost_wt r
    have h4 := tot_cost r
    exact ⟨short_wt (l := x.2.2.2.2.2) (B := 1048576) (by omega) (by omega) r hr, by omega⟩
  refine ⟨⟨by show d.1.length ≤ _; omega, by show d.2.2.2.2.2.1.length ≤ _; omega, fun x hx r hr => ⟨(hrow x hx r hr).1, by have := (hrow x hx r hr).2; omega⟩, fun c hc => ?_⟩, fun x hx r hr => (hrow x hx r hr).2⟩
  have hc : c ∈ d.2.2.2.2.2.2.2 := List.mem_of_mem_take (show c ∈ d.2.2.2.2.2.2.2.take 4 from hc)
  have h1 : 1 + (1 + (1 + (1 + (c.2.2.2.2.1.length + 1 + (c.2.2.2.2.2.1.length + 1 + (1 + 1)))))) ≤ bkL wtC d.2.2.2.2.2.2.2 := bk_mem (f := wtC) hc
  omega

def evQ (i : Nat) (x : Ev) : Ev := (((i + 1 : Nat) : Int), x.2.1, [], 1, [], x.2.2.2.2.2.map carr)
def evsQ : Nat → List Ev → List Ev
  | _, [] => []
  | i, x :: l => evQ i x :: evsQ (i + 1) l
def docQ (d : Doc) : Doc := ([], [], d.2.2.1, d.2.2.2.1, len d.2.2.2.2.2.2.1, [], evsQ 0 d.2.2.2.2.2.2.1, [])
def redQ (d : Doc) : Doc := if docChk d ≠ 0 then noQ else docQ d
theorem evsQ_app : ∀ (l m : List Ev) (i : Nat), evsQ i (l ++ m) = evsQ i l ++ evsQ (i + l.length) m
  | [], m, i => rfl
  | x :: l, m, i => by
    simp only [List.cons_append, evsQ, List.length_cons]
    rw [evsQ_app l m (i + 1), show i + 1 + l.length = i + (l.length + 1) by omega]
theorem evsQ_len : ∀ (l : List Ev) (i : Nat), (evsQ i l).length = l.length
  | [], _ => rfl
  | x :: l, i => by simp only [evsQ, List.length_cons, evsQ_len l (i + 1)]
theorem evsQ_take {l : List Ev} {i : Nat} (h : i < l.length) : evsQ 0 (l.take (i + 1)) = evsQ 0 (l.take i) ++ [evQ i l[i]] := by
  rw [List.take_succ_eq_append_getElem h, evsQ_app]
  have e : 0 + (l.take i).length = i := by rw [List.length_take]; omega
  rw [e]
  rfl
theorem evsQ_get : ∀ (l : List Ev) (i j : Nat), (evsQ i l)[j]? = (l[j]?).map (evQ (i + j))
  | [], _, _ => by simp [evsQ]
  | x :: l, i, 0 => by simp [evsQ]
  | x :: l, i, j + 1 => by
    simp only [evsQ, List.getElem?_cons_succ]
    rw [evsQ_get l (i + 1) j, show i + 1 + j = i + (j + 1) by omega]
theorem evsQ_at (l : List Ev) (j : Nat) (h : j < l.length) (h' : j < (evsQ 0 l).length) : (evsQ 0 l)[j] = evQ j l[j] := by
  have := evsQ_get l 0 j
  rw [List.getElem?_eq_getElem h', List.getElem?_eq_getElem h, Nat.zero_add] at this
  injection this
/-- the events of a document that is good are few and good -/
theorem doc_evs {d : Doc} (h : docChk d = 0) : headChk d = 0 ∧ d.2.2.2.2.2.2.1.length ≤ 400 ∧ ∀ j (hj : j < d.2.2.2.2.2.2.1.length), evRnd d.2.2.2.2.2.1 d.2.2.2.2.1 (d.2.2.2.2.2.2.1.take j) d.2.2.2.2.2.2.1[j] = 0 := by
  obtain ⟨h1, h2, h3⟩ := doc_parts h
  refine ⟨h1, h2, fun j hj => ?_⟩
  have := errL_zero _ _ h3 j hj
  rwa [List.nil_append] at this
theorem ev_rows {d : Doc} (h : docChk d = 0) {x : Ev} (hx : x ∈ d.2.2.2.2.2.2.1) : evChk x d.2.2.2.2.2.1 = 0 := by
  obtain ⟨_, _, h3⟩ := doc_evs h
  obtain ⟨j, hj, rfl⟩ := List.mem_iff_getElem.1 hx
  exact (evRnd_ok (h3 j hj)).1
theorem rows_carr {x : Ev} {d : Doc} (hs : smallD d) (h : docChk d = 0) (hx : x ∈ d.2.2.2.2.2.2.1) : x.2.2.2.2.2.length ≤ 4 ∧ ∀ r ∈ x.2.2.2.2.2, okR r := by
  obtain ⟨_, _, _, _, h4, h5, _⟩ := ev_ok (ev_rows h hx)
  exact ⟨h4, fun r hr => okR_of (hs.2.2.1 x hx r hr) (rowE_zero (h5 r hr)).1⟩
theorem sub_reduce {d : Doc} (hs : smallD d) : subrip_Reduce fuelH d = some (redQ d) := by
  unfold subrip_Reduce redQ
  rw [document_check hs, bnd_some']
  by_cases hc : docChk d ≠ 0
  · rw [cnd_t (ine_t hc), if_pos hc]
    rfl
  have hc : docChk d = 0 := by simpa using hc
  obtain ⟨_, hn, _⟩ := doc_evs hc
  rw [cnd_f (ine_f hc), if_neg (by rw [hc]; simp), jn_e]
  refine loop_inv (n := d.2.2.2.2.2.2.1.length) (fun (a : List Ev) (i : Nat) => ((i : Int), ([], [], d.2.2.1, d.2.2.2.1, len d.2.2.2.2.2.2.1, [], a, []))) (fun i a => a = evsQ 0 (d.2.2.2.2.2.2.1.take i)) _ (fun self a i hi hI => ?_) (fun self a hI => ?_) fuelH 0 [] (Nat.zero_le _) (by have := fuelH_eq; omega) rfl
  · obtain ⟨hr4, hok⟩ := rows_carr hs hc (List.getElem_mem hi)
    refine ⟨a ++ [evQ i d.2.2.2.2.2.2.1[i]], ?_, by rw [evsQ_take hi, hI]⟩
    have ha : a.length ≤ 400 := by rw [hI, evsQ_len, List.length_take]; omega
    simp only
    rw [cnd_t (ilt_t (by simp only [len]; omega)), jn_e, grd_t (inb_t (by simp only [len]; omega)), jn_e, w64_succ hi (by omega)]
    simp only [lget_i hi]
    generalize d.2.2.2.2.2.2.1[i] = x at hr4 hok ⊢
    refine loop_inv (n := x.2.2.2.2.2.length) (fun (b : List Row) (j : Nat) => ((j : Int), ((i + 1 : Nat) : Int), x.2.1, ([] : List UInt8), (1 : UInt8), ([] : List UInt8), b)) (fun j b => b = (x.2.2.2.2.2.take j).map carr) _ (fun self' b j hj hJ => ?_) (fun self' b hJ => ?_) fuelH 0 [] (Nat.zero_le _) (by have := fuelH_eq; omega) rfl
    · have hk := hok _ (List.getElem_mem hj)
      refine ⟨b ++ [carr x.2.2.2.2.2[j]], ?_, by rw [hJ, List.take_succ_eq_append_getElem hj, List.map_append]; rfl⟩
      have hb : b.length ≤ 4 := by rw [hJ, List.length_map, List.length_take]; omega
      simp only
      rw [cnd_t (ilt_t (by simp only [len]; omega)), grd_t (inb_t (by simp only [len]; omega)), lget_i hj, sub_carried (by have := hk.1; omega) (by have := hk.2.2; omega), bnd_some', grd_t (room_t (by simp only [iadd, len, List.length_singleton]; omega)), w64_succ hj (by omega)]
      rfl
    · simp only
      rw [cnd_f (ilt_f (by simp only [len]; omega)), grd_t (room_t (by simp only [iadd, len, List.length_singleton]; omega)), hJ, List.take_length]
      rfl
  · simp only
    rw [cnd_f (ilt_f (by simp only [len]; omega)), hI, List.take_length]
    rfl
theorem ref_Carried {l : List Row} (hl : l.length ≤ 4) (hok : ∀ r ∈ l, okR r) : r19_Carried fuelH l = some (l.map carr) := by
  unfold r19_Carried
  rw [jn_e]
  refine loop_inv (n := l.length) (fun (b : List Row) (j : Nat) => (b, (j : Int))) (fun j b => b = (l.take j).map carr) _ (fun self b j hj hJ => ?_) (fun self b hJ => ?_) fuelH 0 [] (Nat.zero_le _) (by have := fuelH_eq; omega) rfl
  · have hk := hok _ (List.getElem_mem hj)
    refine ⟨b ++ [carr l[j]], ?_, by rw [hJ, List.take_succ_eq_append_getElem hj, List.map_append]; rfl⟩
    have hb : b.length ≤ 4 := by rw [hJ, List.length_map, List.length_take]; omega
    simp only
    rw [cnd_t (ilt_t (by simp only [len]; omega)), grd_t (inb_t (by simp only [len]; omega)), lget_i hj, ref_carried (by have := hk.1; omega) (by have := hk.2.2; omega), bnd_some', grd_t (room_t (by simp only [iadd, len, List.length_singleton]; omega)), w64_succ hj (by omega)]
    rfl
  · simp only
    rw [cnd_f (ilt_f (by simp only [len]; omega)), hJ, List.take_length]
theorem ref_reduce {d : Doc} (hs : smallD d) : r19_Reduce fuelH d = some (redQ d) := by
  unfold r19_Reduce redQ
  rw [r12_check hs, bnd_some']
  by_cases hc : docChk d ≠ 0
  · rw [cnd_t (ine_t hc), if_pos hc]
    rfl
  have hc : docChk d = 0 := by simpa using hc
  obtain ⟨_, hn, _⟩ := doc_evs hc
  rw [cnd_f (ine_f hc), if_neg (by rw [hc]; simp), jn_e]
  refine loop_inv (n := d.2.2.2.2.2.2.1.length) (fun (a : List Ev) (i : Nat) => ((i : Int), ([], [], d.2.2.1, d.2.2.2.1, len d.2.2.2.2.2.2.1, [], a, []))) (fun i a => a = evsQ 0 (d.2.2.2.2.2.2.1.take i)) _ (fun self a i hi hI => ?_) (fun self a hI => ?_) fuelH 0 [] (Nat.zero_le _) (by have := fuelH_eq; omega) rfl
  · obtain ⟨hr4, hok⟩ := rows_carr hs hc (List.getElem_mem hi)
    refine ⟨a ++ [evQ i d.2.2.2.2.2.2.1[i]], ?_, by rw [evsQ_take hi, hI]⟩
    have ha : a.length ≤ 400 := by rw [hI, evsQ_len, List.length_take]; omega
    simp only
    rw [cnd_t (ilt_t (by simp only [len]; omega)), grd_t (inb_t (by simp only [len]; omega)), w64_succ hi (by omega), lget_i hi, ref_Carried hr4 hok, bnd_some', grd_t (room_t (by simp only [iadd, len, List.length_singleton]; omega))]
    rfl
  · simp only
    rw [cnd_f (ilt_f (by simp only [len]; omega)), hI, List.take_length]
    rfl
end
end Go.Mo
end

section
/-
  Plain facts: the document as the form carries it is good; SubripReduced returns true.
-/
namespace Go.Mo
open Go Go.W Go.Lib
set_option maxRecDepth 100000
noncomputable section

theorem noQ_self : document_Same fuelH (noQ, noQ) = some true := doc_self (by simp [noQ]) (by simp [noQ]) (fun x hx => by cases hx) rfl
theorem docQ_self {d : Doc} (hs : smallD d) (h : docChk d = 0) : document_Same fuelH (docQ d, docQ d) = some true := by
  obtain ⟨_, h2, _⟩ := doc_evs h
  refine doc_self (by simp [docQ]) (by show (evsQ 0 d.2.2.2.2.2.2.1).length ≤ _; rw [evsQ_len]; omega) (fun x hx => ?_) rfl
  have hx : x ∈ evsQ 0 d.2.2.2.2.2.2.1 := hx
  obtain ⟨j, hj, rfl⟩ := List.mem_iff_getElem.1 hx
  have hj' : j < d.2.2.2.2.2.2.1.length := by rw [evsQ_len] at hj; exact hj
  rw [evsQ_at _ j hj' hj]
  obtain ⟨h4, hok⟩ := rows_carr hs h (List.getElem_mem hj')
  refine ⟨by show ((d.2.2.2.2.2.2.1[j]).2.2.2.2.2.map carr).length ≤ _; rw [List.length_map]; omega, fun r hr => ?_⟩
  obtain ⟨q, hq, rfl⟩ := List.mem_map.1 (show r ∈ (d.2.2.2.2.2.2.1[j]).2.2.2.2.2.map carr from hr)
  have h1 := (carr_len q).1
  have h2 := (hok q hq).1
  omega
theorem redQ_self {d : Doc} (hs : smallD d) : document_Same fuelH (redQ d, redQ d) = some true := by
  unfold redQ
  by_cases h : docChk d ≠ 0
  · rw [if_pos h]; exact noQ_self
  · rw [if_neg h]; exact docQ_self hs (by simpa using h)
end
end Go.Mo
end

section
/-
  Plain facts: the file of a document, both sides; SubripAccepts and SubripEncodes return true.
-/
namespace Go.Mo
open Go Go.W Go.Lib
set_option maxRecDepth 100000
noncomputable section

theorem wu_id {x : Int} (h : 0 ≤ x ∧ x ≤ 9223372036854775807) : wr .u64 x = x := by
  show IntKind.wrap .u64 x = x
  unfold IntKind.wrap
  simp only [IntKind.bits, IntKind.signed, Bool.false_and, show (2 : Int) ^ 64 = 18446744073709551616 from rfl]
  rw [if_neg (by simp)]
  omega
def tkS (r : UInt8) : Int := (timebase_Ticks fuelH r).getD 0
def tkB (r : UInt8) : Bool := decide (timebase_Ticks fuelH r = some (tkS r)) && (decide (tvB r = false) || (decide (r02_Ticks fuelH r = some (tkS r)) && (decide (2002 ≤ tkS r) && decide (tkS r ≤ 5005))))
theorem tk_tab (r : UInt8) : tkB r = true := all_u8 (P := tkB) (by kernel_rfl) r
theorem tk_facts (r : UInt8) : timebase_Ticks fuelH r = some (tkS r) ∧ (tvB r = true → r02_Ticks fuelH r = some (tkS r) ∧ 2002 ≤ tkS r ∧ tkS r ≤ 5005) := by
  have h := tk_tab r
  unfold tkB at h
  rw [Bool.and_eq_true, Bool.or_eq_true, Bool.and_eq_true, Bool.and_eq_true] at h
  refine ⟨of_decide_eq_true h.1, fun hv => ?_⟩
  rcases h.2 with k | ⟨k1, k2, k3⟩
  · have := of_decide_eq_true k
    rw [hv] at this
    cases this
  · exact ⟨of_decide_eq_true k1, of_decide_eq_true k2, of_decide_eq_true k3⟩
def quo (n d : Int) : Int := if 2 * (n % d) < d then n / d else n / d + 1
def timS (r : UInt8) (f : Int) : Int × Int := if tvB r = false then (0, 3) else if f < 0 then (0, 2) else if 10378368000 / tkS r < f then (0, 2) else (f * tkS r, 0)
def milS (r : UInt8) (f : Int) : Int × Int := if (timS r f).2 ≠ 0 then (0, (timS r f).2) else (quo (timS r f).1 120, 0)
theorem tdiv_w2 {a b : Int} (ha : 0 ≤ a ∧ a ≤ 10378368000) (hb : 0 < b) : w64 (idiv a b) = a / b := by
  unfold idiv
  have h1 := Int.ediv_nonneg ha.1 (Int.le_of_lt hb)
  have h2 := Int.ediv_le_self b ha.1
  rw [Int.tdiv_eq_ediv_of_nonneg ha.1, w64_id (by omega)]
theorem tim_bd (r : UInt8) (f : Int) (h : (timS r f).2 = 0) : 0 ≤ (timS r f).1 ∧ (timS r f).1 ≤ 10378368000 := by
  unfold timS at h ⊢
  split
  · simp
  split
  · simp
  split
  · simp
  rename_i h1 h2 h3
  obtain ⟨_, hk⟩ := tk_facts r
  obtain ⟨_, k1, k2⟩ := hk (by simpa using h1)
  have h4 : f ≤ 10378368000 / tkS r := by omega
  have h5 : f * tkS r ≤ (10378368000 / tkS r) * tkS r := Int.mul_le_mul_of_nonneg_right h4 (by omega)
  have h6 : (10378368000 / tkS r) * tkS r ≤ 10378368000 := Int.ediv_mul_le _ (by omega)
  have h7 : 0 ≤ f * tkS r := Int.mul_nonneg (by omega) (by omega)
  exact ⟨h7, by show f * tkS r ≤ _; omega⟩
theorem time_one {r : UInt8} {f : Int} {T : Option Int} (hv : tvB r = true) (hT : T = some (tkS r)) : cnd (ilt f (0 : Int)) (some ((0 : Int), (2 : Int))) (bnd T fun v1 => grd (ine v1 (0 : Int)) <| cnd (ilt (w64 (idiv (10378368000 : Int) v1)) f) (some ((0 : Int), (2 : Int))) (bnd T fun v2 => some (w64 (imul f v2), (0 : Int)))) = some (timS r f) := by
  obtain ⟨_, k2, k3⟩ := (tk_facts r).2 hv
  have hw := tdiv_w2 (a := 10378368000) (b := tkS r) (by omega) (by omega)
  subst hT
  rw [cnd_ilt]
  by_cases h1 : f < 0
  · rw [if_pos h1]; unfold timS; rw [if_neg (by rw [hv]; simp), if_pos h1]
  rw [if_neg h1, bnd_some', grd_t (ine_t (by omega)), hw, cnd_ilt]
  by_cases h2 : 10378368000 / tkS r < f
  · rw [if_pos h2]; unfold timS; rw [if_neg (by rw [hv]; simp), if_neg h1, if_pos h2]
  rw [if_neg h2, bnd_some']
  have hb := tim_bd r f (by unfold timS; rw [if_neg (by rw [hv]; simp), if_neg h1, if_neg h2])
  unfold timS at hb ⊢
  rw [if_neg (by rw [hv]; simp), if_neg h1, if_neg h2] at hb ⊢
  simp only at hb
  unfold imul
  rw [w64_id (by omega)]
theorem time_both (r : UInt8) (f : Int) : timebase_Time fuelH (r, f) = some (timS r f) ∧ r02_Time fuelH (r, f) = some (timS r f) := by
  obtain ⟨t1, _⟩ := tv_eq r
  obtain ⟨t2, _⟩ := r02_eq r
  obtain ⟨k0, hk⟩ := tk_facts r
  refine ⟨?_, ?_⟩
  · unfold timebase_Time
    simp only
    rw [t1, bnd_some']
    cases hv : tvB r with
    | false => rw [cnd_t (by rfl)]; unfold timS; rw [if_pos hv]
    | true => rw [cnd_f (by rfl)]; exact time_one hv k0
  · unfold r02_Time
    simp only
    rw [t2, bnd_some']
    cases hv : tvB r with
    | false => rw [cnd_t (by rfl)]; unfold timS; rw [if_pos hv]
    | true => rw [cnd_f (by rfl)]; exact time_one hv (hk hv).1
theorem ratio_quo {n d : Int} (h0 : 0 ≤ n ∧ n ≤ 10378368000) (hd : 100 ≤ d ∧ d ≤ 6000) : ratio_Quotient fuelH (n, d, 2) = some (quo n d, 0) := by
  have e1 := Int.tdiv_eq_ediv_of_nonneg (b := d) h0.1
  have e2 := Int.tmod_eq_emod_of_nonneg (b := d) h0.1
  have hm0 := Int.emod_nonneg n (show d ≠ 0 by omega)
  have hm1 := Int.emod_lt_of_pos n (show 0 < d by omega)
  have hq0 := Int.ediv_nonneg h0.1 (show 0 ≤ d by omega)
  have hq1 := Int.ediv_le_self d h0.1
  have s1 : ∀ x : Int, 0 ≤ x → x ≤ 10378368000 → ratio_size fuelH x = some x := fun x hx hx2 => by
    unfold ratio_size
    rw [cnd_f (ilt_f (by omega)), wu_id (by omega)]
  unfold ratio_Quotient ratio_known ratio_away quo
  simp only
  rw [cnd_f (ieq_f (by omega)), cnd_t (by rfl), bnd_some', cnd_f (by rfl), s1 n h0.1 h0.2, s1 d (by omega) (by omega), bnd_some', bnd_some', grd_t (ine_t (by omega)), bnd_some', bnd_some', grd_t (ine_t (by omega)), jn_e, bnd_some', show ilt n 0 = false from ilt_f (by omega), show ilt d 0 = false from ilt_f (by omega)]
  unfold imod idiv
  rw [e1, e2, wu_id (x := n / d) (by omega)]
  have fin : ∀ v : Int, 0 ≤ v → v ≤ 10378368001 → (cnd (bneb false false) (some (w64 (wr .u64 (isub (0 : Int) v)), (0 : Int))) (cnd (ilt (9223372036854775807 : Int) v) (some ((0 : Int), (2 : Int))) (some (w64 v, (0 : Int))))) = some (v, 0) := fun v h1 h2 => by
    rw [cnd_f (by rfl), cnd_f (ilt_f (by omega)), w64_id (by omega)]
  have hsub : wr .u64 (isub d (n % d)) = d - n % d := by unfold isub; exact wu_id (by omega)
  rw [hsub]
  by_cases z : n % d = 0
  · rw [cnd_t (ieq_t z), bnd_some', cnd_f rfl, if_pos (by omega)]
    exact fin _ hq0 (by omega)
  rw [cnd_f (ieq_f z), cnd_f (by rfl), cnd_f (by rfl), cnd_ilt]
  have up : wr .u64 (iadd (n / d) 1) = n / d + 1 := by unfold iadd; exact wu_id (by omega)
  by_cases z1 : d - n % d < n % d
  · rw [if_pos z1, bnd_some', cnd_t rfl, if_neg (by omega), up]
    exact fin _ (by omega) (by omega)
  rw [if_neg z1, cnd_ieq]
  by_cases z2 : n % d = d - n % d
  · rw [if_pos z2, bnd_some', cnd_t (by rfl), if_neg (by omega), up]
    exact fin _ (by omega) (by omega)
  · rw [if_neg z2, bnd_some', cnd_f rfl, if_pos (by omega)]
    exact fin _ hq0 (by omega)
theorem ref_quo {n d : Int} (h0 : 0 ≤ n ∧ n ≤ 10378368000) (hd : 100 ≤ d ∧ d ≤ 6000) : r01_Quotient fuelH (n, d, 2) = some (quo n d, 0) := by
  have e1 := Int.tdiv_eq_ediv_of_nonneg (b := d) h0.1
  have e2 := Int.tmod_eq_emod_of_nonneg (b := d) h0.1
  have hm0 := Int.emod_nonneg n (show d ≠ 0 by omega)
  have hm1 := Int.emod_lt_of_pos n (show 0 < d by omega)
  have hq0 := Int.ediv_nonneg h0.1 (show 0 ≤ d by omega)
  have hq1 := Int.ediv_le_self d h0.1
  have ng : ∀ x : Int, 0 < x → x ≤ 10378368000 → r01_negative fuelH x = some (-x) := fun x hx hx2 => by
    unfold r01_negative isub
    rw [cnd_t (ilt_t hx), w64_id (by omega), Int.zero_sub]
  unfold r01_Quotient r01_Mode quo
  simp only
  rw [cnd_f (ieq_f (by omega)), cnd_t (by rfl), bnd_some', cnd_f (by rfl), jn_e, cnd_f (ieq_f (by omega)), grd_t (ine_t (by omega)), grd_t (ine_t (by omega)), jn_e]
  unfold imod idiv
  rw [e1, e2, w64_id (x := n / d) (by omega), show ilt (n % d) 0 = false from ilt_f (by omega), show ilt d 0 = false from ilt_f (by omega)]
  dsimp only
  by_cases z : n % d = 0
  · rw [cnd_f (ine_f z), cnd_t (ieq_t z), if_pos (by omega)]
  rw [cnd_t (ine_t z), cnd_f (by rfl), cnd_f (ieq_f z), cnd_f (by rfl), cnd_f (by rfl), ng _ (by omega) (by omega), ng _ (by omega) (by omega), bnd_some', bnd_some', bnd_some', cnd_ile]
  unfold isub iadd
  rw [w64_id (by omega), w64_id (by omega)]
  by_cases z1 : 2 * (n % d) < d
  · rw [if_neg (by omega), if_pos z1]
  · rw [if_pos (by omega), if_neg z1]
theorem mil_both (r : UInt8) (f : Int) : timebase_Millis fuelH (r, f) = some (milS r f) ∧ r02_Millis fuelH (r, f) = some (milS r f) := by
  obtain ⟨t1, t2⟩ := time_both r f
  unfold timebase_Millis r02_Millis milS
  rw [t1, t2, bnd_some', bnd_some']
  by_cases h : (timS r f).2 ≠ 0
  · rw [cnd_t (ine_t h), cnd_t (ine_t h), if_pos h]; exact ⟨rfl, rfl⟩
  have h : (timS r f).2 = 0 := by simpa using h
  have hb := tim_bd r f h
  rw [cnd_f (ine_f h), cnd_f (ine_f h), if_neg (by rw [h]; simp), ratio_quo hb (by omega), ref_quo hb (by omega)]
  exact ⟨rfl, rfl⟩
end
end Go.Mo
end

section
/-
  Plain facts: the file of a document, both sides; SubripAccepts and SubripEncodes return true.
-/
namespace Go.Mo
open Go Go.W Go.Lib
set_option maxRecDepth 100000
noncomputable section

theorem num_tab : ((List.range 20).all fun n => decide (lines_Decimal fuelH ((n : Int)) = some (itoa10 (n : Int))) && decide (r07_Decimal fuelH (n : Int) = some (itoa10 (n : Int))) && decide ((itoa10 (n : Int)).length ≤ 3)) = true := by kernel_rfl
theorem num_both {n : Nat} (h : n < 20) : lines_Decimal fuelH (n : Int) = some (itoa10 (n : Int)) ∧ r07_Decimal fuelH (n : Int) = some (itoa10 (n : Int)) ∧ (itoa10 (n : Int)).length ≤ 3 := by
  have := List.all_eq_true.1 num_tab n (List.mem_range.2 h)
  rw [Bool.and_eq_true, Bool.and_eq_true] at this
  exact ⟨of_decide_eq_true this.1.1, of_decide_eq_true this.1.2, of_decide_eq_true this.2⟩

def arrow : List UInt8 := [32, 45, 45, 62, 32]
def rowsQ : List Row → Int ⊕ List UInt8
  | [] => .inr []
  | r :: l => if (mkS r).2 ≠ 0 then .inl (mkS r).2 else match rowsQ l with
    | .inl e => .inl e
    | .inr t => .inr ((mkS r).1 ++ 10 :: t)
def hdQ (r : UInt8) (n : Nat) (x : Ev) : List UInt8 := itoa10 (n : Int) ++ [10] ++ (clkS (milS r x.2.1.1).1).1 ++ arrow ++ (clkS (milS r x.2.1.2).1).1 ++ [10]
def blkQ (r : UInt8) (n : Nat) (x : Ev) : Int ⊕ List UInt8 := if (milS r x.2.1.1).2 ≠ 0 then .inl (milS r x.2.1.1).2 else if (milS r x.2.1.2).2 ≠ 0 then .inl (milS r x.2.1.2).2 else match rowsQ x.2.2.2.2.2 with
  | .inl e => .inl e
  | .inr t => .inr (hdQ r n x ++ t ++ [10])
theorem clkS_len (v : Int) : (clkS v).1.length ≤ 12 := by
  unfold clkS clkB
  split
  · simp
  split
  · simp
  · simp
theorem hdQ_len {r : UInt8} {n : Nat} (hn : n < 20) (x : Ev) : (hdQ r n x).length ≤ 34 := by
  have h1 := (num_both hn).2.2
  have h2 := clkS_len (milS r x.2.1.1).1
  have h3 := clkS_len (milS r x.2.1.2).1
  unfold hdQ arrow
  simp only [List.length_append, List.length_cons, List.length_nil]
  omega
theorem mkS_lenE {r : Row} (h : rowE r = 0) : (mkS r).1.length ≤ 352 := by
  obtain ⟨h1, _, h3⟩ := rowE_zero h
  obtain ⟨h4, h5⟩ := rowChk_ok h1
  have ht := tot_lenT r fun x hx => (h5 x hx).1
  have hw := wr_len (carr r)
  obtain ⟨c1, c2⟩ := carr_len r
  unfold mkS
  rw [if_neg (by rw [h1]; simp)]
  split
  · simp
  · show ((carr r).flatMap wrX).length ≤ 352
    omega
theorem rowsQ_len : ∀ {l : List Row} {t : List UInt8}, (∀ r ∈ l, rowE r = 0) → rowsQ l = .inr t → t.length ≤ 353 * l.length
  | [], t, _, h => by
    simp only [rowsQ, Sum.inr.injEq] at h
    subst h
    simp
  | r :: l, t, hr, h => by
    simp only [rowsQ] at h
    split at h
    · cases h
    · split at h
      · cases h
      · rename_i u hu
        injection h with h
        subst h
        have h1 := rowsQ_len (fun q hq => hr q (List.mem_cons_of_mem _ hq)) hu
        have h2 := mkS_lenE (hr r List.mem_cons_self)
        simp only [List.length_append, List.length_cons]
        omega
def rwR {R : Type} (E : Int → Option R) (_ : Nat) (r : Row) (a : List UInt8) : Option R ⊕ List UInt8 := if (mkS r).2 ≠ 0 then .inl (E (mkS r).2) else .inr (a ++ ((mkS r).1 ++ [10]))
theorem rw_it {R : Type} (E : Int → Option R) (K : List UInt8 → Option R) : ∀ (l : List Row) (i : Nat) (a : List UInt8), itI (rwR E) K i l a = match rowsQ l with
    | .inl e => E e
    | .inr t => K (a ++ t)
  | [], _, a => by simp [itI, rowsQ]
  | r :: l, i, a => by
    simp only [itI, rwR, rowsQ]
    by_cases h : (mkS r).2 ≠ 0
    · rw [if_pos h, if_pos h]
    · rw [if_neg h, if_neg h]
      refine (rw_it E K l (i + 1) (a ++ ((mkS r).1 ++ [10]))).trans ?_
      cases rowsQ l with
      | inl e => rfl
      | inr t => simp
theorem cat_ok {a b : List UInt8} (h : a.length + b.length ≤ 100000000) : catOk (iadd (len a) (len b)) = true := catW h
theorem ev_fit {d : Doc} (hs : smallD d) (h : docChk d = 0) {x : Ev} (hx : x ∈ d.2.2.2.2.2.2.1) : x.2.2.2.2.2.length ≤ 4 ∧ (∀ r ∈ x.2.2.2.2.2, rowE r = 0) ∧ ∀ r ∈ x.2.2.2.2.2, smallR r := by
  obtain ⟨_, _, _, _, h4, h5, _⟩ := ev_ok (ev_rows h hx)
  exact ⟨h4, h5, fun r hr => hs.2.2.1 x hx r hr⟩
theorem sub_block {r : UInt8} {n : Nat} (hn : n < 20) {x : Ev} (h4 : x.2.2.2.2.2.length ≤ 4) (h5 : ∀ q ∈ x.2.2.2.2.2, rowE q = 0) (h6 : ∀ q ∈ x.2.2.2.2.2, smallR q) : subrip_block fuelH (r, (n : Int), x) = some (match blkQ r n x with
    | .inl e => ([], e)
    | .inr t => (t, 0)) := by
  obtain ⟨n1, _, n3⟩ := num_both hn
  unfold subrip_block blkQ
  simp only
  rw [(mil_both r _).1, bnd_some']
  by_cases m1 : (milS r x.2.1.1).2 ≠ 0
  · rw [cnd_t (ine_t m1), if_pos m1]
  rw [cnd_f (ine_f (show (milS r x.2.1.1).2 = 0 by simpa using m1)), if_neg m1, (mil_both r _).1, bnd_some']
  by_cases m2 : (milS r x.2.1.2).2 ≠ 0
  · rw [cnd_t (ine_t m2), if_pos m2]
  have c1 := clkS_len (milS r x.2.1.1).1
  have c2 := clkS_len (milS r x.2.1.2).1
  rw [cnd_f (ine_f (show (milS r x.2.1.2).2 = 0 by simpa using m2)), if_neg m2, sub_clock, sub_clock, bnd_some', bnd_some', n1, bnd_some', grd_t (cat_ok (by simp only [List.length_cons, List.length_nil]; omega)), grd_t (cat_ok (by simp only [lapp, List.length_append, List.length_cons, List.length_nil]; omega)), grd_t (cat_ok (by simp only [lapp, List.length_append, List.length_cons, List.length_nil]; omega)), grd_t (cat_ok (by simp only [lapp, List.length_append, List.length_cons, List.length_nil]; omega)), grd_t (cat_ok (by simp only [lapp, List.length_append, List.length_cons, List.length_nil]; omega)), jn_e]
  have hh := hdQ_len (r := r) hn x
  refine Eq.trans (lst_it (l := x.2.2.2.2.2) (fun (a : List UInt8) (p : Nat) => (a, (p : Int))) (rwR fun e => some (([] : List UInt8), e)) (fun a => some (a ++ [10], (0 : Int))) (fun i a => a.length ≤ 34 + 353 * i) (fun self a i hi hI => ?_) (fun self a hI => ?_) fuelH 0 (hdQ r n x) (Nat.zero_le _) (by have := fuelH_eq; omega) (by omega)) ?_
  · have hm := mkS_lenE (h5 _ (List.getElem_mem hi))
    simp only
    rw [cnd_t (ilt_t (by simp only [len]; omega)), grd_t (inb_t (by simp only [len]; omega)), lget_i hi, sub_markup (h6 _ (List.getElem_mem hi)), bnd_some', w64_succ hi (by omega)]
    unfold rwR
    by_cases m : (mkS x.2.2.2.2.2[i]).2 ≠ 0
    · rw [cnd_t (ine_t m), if_pos m]; rfl
    · rw [cnd_f (ine_f (show (mkS x.2.2.2.2.2[i]).2 = 0 by simpa using m)), if_neg m, grd_t (cat_ok (by simp only [List.length_cons, List.length_nil]; omega)), grd_t (cat_ok (by simp only [lapp, List.length_append, List.length_cons, List.length_nil]; omega))]
      exact ⟨rfl, by simp only [List.length_append, List.length_cons, List.length_nil]; omega⟩
  · simp only
    rw [cnd_f (ilt_f (by simp only [len]; omega)), grd_t (cat_ok (by simp only [List.length_cons, List.length_nil]; omega))]
    rfl
  · rw [List.drop_zero, rw_it]
    cases rowsQ x.2.2.2.2.2 with
    | inl e => rfl
    | inr t => rfl

def filQ (r : UInt8) : Nat → List Ev → (Nat × Int) ⊕ List UInt8
  | _, [] => .inr []
  | i, x :: l => match blkQ r (i + 1) x with
    | .inl e => .inl (i, e)
    | .inr t => match filQ r (i + 1) l with
      | .inl z => .inl z
      | .inr u => .inr (t ++ u)
def encQ (d : Doc) : List UInt8 × Int × Int := if docChk d ≠ 0 then ([], -1, docChk d) else match filQ d.2.2.1 0 d.2.2.2.2.2.2.1 with
  | .inl (i, e) => ([], (i : Int), e)
  | .inr s => if 262144 < s.length then ([], -1, 9) else (s, -1, 0)
def fiR {R : Type} (E : Nat → Int → Option R) (r : UInt8) (i : Nat) (x : Ev) (a : List UInt8) : Option R ⊕ List UInt8 := match blkQ r (i + 1) x with
  | .inl e => .inl (E i e)
  | .inr t => .inr (a ++ t)
theorem fi_it {R : Type} (E : Nat → Int → Option R) (K : List UInt8 → Option R) (r : UInt8) : ∀ (l : List Ev) (i : Nat) (a : List UInt8), itI (fiR E r) K i l a = match filQ r i l with
    | .inl z => E z.1 z.2
    | .inr s => K (a ++ s)
  | [], _, a => by simp [itI, filQ]
  | x :: l, i, a => by
    simp only [itI, fiR, filQ]
    cases blkQ r (i + 1) x with
    | inl e => rfl
    | inr t =>
      refine (fi_it E K r l (i + 1) (a ++ t)).trans ?_
      cases filQ r (i + 1) l with
      | inl z => rfl
      | inr u => simp
theorem blkQ_len {r : UInt8} {n : Nat} (hn : n < 20) {x : Ev} (h4 : x.2.2.2.2.2.length ≤ 4) (h5 : ∀ q ∈ x.2.2.2.2.2, rowE q = 0) {t : List UInt8} (h : blkQ r n x = .inr t) : t.length ≤ 1447 := by
  unfold blkQ at h
  split at h
  · cases h
  split at h
  · cases h
  split at h
  · cases h
  · rename_i u hu
    injection h with h
    subst h
    have h1 := rowsQ_len h5 hu
    have h2 := hdQ_len (r := r) hn x
    simp only [List.length_append, List.length_cons, List.length_nil]
    omega
/-- a document of few events -/
def fewE (d : Doc) : Prop := d.2.2.2.2.2.2.1.length ≤ 6
theorem sub_encode {d : Doc} (hs : smallD d) (hf : fewE d) : subrip_encode fuelH d = some (encQ d) := by
  unfold subrip_encode encQ
  unfold fewE at hf
  rw [document_check hs, bnd_some']
  by_cases hc : docChk d ≠ 0
  · rw [cnd_t (ine_t hc), if_pos hc]
  have hc : docChk d = 0 := by simpa using hc
  rw [cnd_f (ine_f hc), if_neg (by rw [hc]; simp), jn_e]
  refine Eq.trans (lst_it (l := d.2.2.2.2.2.2.1) (fun (a : List UInt8) (p : Nat) => ((p : Int), ((), a))) (fiR (fun i e => some (([] : List UInt8), (i : Int), e)) d.2.2.1) (fun a => some (if 262144 < a.length then (([] : List UInt8), (-1 : Int), (9 : Int)) else (a, -1, 0))) (fun i a => a.length ≤ 1447 * i) (fun self a i hi hI => ?_) (fun self a hI => ?_) fuelH 0 [] (Nat.zero_le _) (by have := fuelH_eq; omega) (Nat.zero_le _)) ?_
  · obtain ⟨h4, h5, h6⟩ := ev_fit hs hc (List.getElem_mem hi)
    simp only
    rw [cnd_t (ilt_t (by simp only [len]; omega)), grd_t (inb_t (by simp only [len]; omega)), lget_i hi, w64_succ hi (by omega), sub_block (r := d.2.2.1) (n := i + 1) (by omega) h4 h5 h6, bnd_some']
    unfold fiR
    cases hb : blkQ d.2.2.1 (i + 1) d.2.2.2.2.2.2.1[i] with
    | inl e =>
      simp only
      have he : e ≠ 0 := by
        unfold blkQ at hb
        split at hb
        · rename_i k; injection hb with hb; rw [← hb]; exact k
        split at hb
        · rename_i k; injection hb with hb; rw [← hb]; exact k
        split at hb
        · rename_i u hu
          injection hb with hb
          rw [← hb]
          have : ∀ (l : List Row) (z : Int), rowsQ l = .inl z → z ≠ 0 := by
            intro l
            induction l with
            | nil => intro z h; cases h
            | cons q l ih =>
              intro z h
              simp only [rowsQ] at h
              split at h
              · rename_i k; injection h with h; rw [← h]; exact k
              · split at h
                · rename_i w hw; injection h with h; rw [← h]; exact ih _ hw
                · cases h
          exact this _ _ hu
        · cases hb
      rw [cnd_t (ine_t he)]
      rfl
    | inr t =>
      have ht := blkQ_len (by omega) h4 h5 hb
      simp only
      rw [cnd_f (ine_f rfl), write_str (by omega), bnd_some']
      exact ⟨rfl, by simp only [List.length_append]; omega⟩
  · simp only
    rw [cnd_f (ilt_f (by simp only [len]; omega))]
    unfold strings_Builder_Len
    rw [bnd_some', cnd_ilt]
    by_cases hk : 262144 < a.length
    · rw [if_pos (by simp only [len]; omega), if_pos hk]
    · rw [if_neg (by simp only [len]; omega), if_neg hk]
  · rw [List.drop_zero, fi_it]
    cases filQ d.2.2.1 0 d.2.2.2.2.2.2.1 with
    | inl z => rfl
    | inr s => rfl
theorem blk_err {r : UInt8} {n : Nat} {x : Ev} {e : Int} (hb : blkQ r n x = .inl e) : e ≠ 0 := by
  unfold blkQ at hb
  split at hb
  · rename_i k; injection hb with hb; rw [← hb]; exact k
  split at hb
  · rename_i k; injection hb with hb; rw [← hb]; exact k
  split at hb
  · rename_i u hu
    injection hb with hb
    rw [← hb]
    have : ∀ (l : List Row) (z : Int), rowsQ l = .inl z → z ≠ 0 := by
      intro l
      induction l with
      | nil => intro z h; cases h
      | cons q l ih =>
        intro z h
        simp only [rowsQ] at h
        split at h
        · rename_i k; injection h with h; rw [← h]; exact k
        · split at h
          · rename_i w hw; injection h with h; rw [← h]; exact ih _ hw
          · cases h
    exact this _ _ hu
  · cases hb
theorem fil_err {r : UInt8} : ∀ {l : List Ev} {i : Nat} {z : Nat × Int}, filQ r i l = .inl z → z.2 ≠ 0
  | [], _, _, h => by cases h
  | x :: l, i, z, h => by
    simp only [filQ] at h
    split at h
    · rename_i e he
      injection h with h
      rw [← h]
      exact blk_err he
    · split at h
      · rename_i w hw
        injection h with h
        rw [← h]
        exact fil_err hw
      · cases h
def filV (d : Doc) : List UInt8 × Int × Int := match filQ d.2.2.1 0 d.2.2.2.2.2.2.1 with
  | .inl (i, e) => ([], (i : Int), e)
  | .inr s => (s, -1, 0)
theorem ref_file {d : Doc} (hs : smallD d) (hf : fewE d) (hc : docChk d = 0) : r19_file fuelH d = some (filV d) := by
  unfold r19_file filV
  unfold fewE at hf
  rw [jn_e]
  refine Eq.trans (lst_it (l := d.2.2.2.2.2.2.1) (fun (a : List UInt8) (p : Nat) => (a, (p : Int))) (fiR (fun i e => some (([] : List UInt8), (i : Int), e)) d.2.2.1) (fun a => some (a, (-1 : Int), (0 : Int))) (fun i a => a.length ≤ 1447 * i) (fun self a i hi hI => ?_) (fun self a hI => ?_) fuelH 0 [] (Nat.zero_le _) (by have := fuelH_eq; omega) (Nat.zero_le _)) ?_
  · obtain ⟨h4, h5, h6⟩ := ev_fit hs hc (List.getElem_mem hi)
    obtain ⟨_, n2, n3⟩ := num_both (n := i + 1) (by omega)
    simp only
    rw [cnd_t (ilt_t (by simp only [len]; omega)), jn_e, grd_t (inb_t (by simp only [len]; omega)), w64_succ hi (by omega)]
    simp only [lget_i hi]
    generalize d.2.2.2.2.2.2.1[i] = x at h4 h5 h6 ⊢
    unfold fiR blkQ
    rw [(mil_both d.2.2.1 _).2, bnd_some']
    by_cases m1 : (milS d.2.2.1 x.2.1.1).2 ≠ 0
    · rw [cnd_t (ine_t m1), if_pos m1]; rfl
    rw [cnd_f (ine_f (show (milS d.2.2.1 x.2.1.1).2 = 0 by simpa using m1)), if_neg m1, (mil_both d.2.2.1 _).2, bnd_some']
    by_cases m2 : (milS d.2.2.1 x.2.1.2).2 ≠ 0
    · rw [cnd_t (ine_t m2), if_pos m2]; rfl
    have c1 := clkS_len (milS d.2.2.1 x.2.1.1).1
    have c2 := clkS_len (milS d.2.2.1 x.2.1.2).1
    rw [cnd_f (ine_f (show (milS d.2.2.1 x.2.1.2).2 = 0 by simpa using m2)), if_neg m2, ref_clock, ref_clock, bnd_some', bnd_some', n2, bnd_some', grd_t (cat_ok (by simp only [List.length_cons, List.length_nil]; omega)), grd_t (cat_ok (by simp only [lapp, List.length_append, List.length_cons, List.length_nil]; omega)), grd_t (cat_ok (by simp only [lapp, List.length_append, List.length_cons, List.length_nil]; omega)), grd_t (cat_ok (by simp only [lapp, List.length_append, List.length_cons, List.length_nil]; omega)), grd_t (cat_ok (by simp only [lapp, List.length_append, List.length_cons, List.length_nil]; omega)), grd_t (cat_ok (by simp only [lapp, List.length_append, List.length_cons, List.length_nil]; omega)), jn_e]
    have hh := hdQ_len (r := d.2.2.1) (n := i + 1) (by omega) x
    have inner : ∀ X : Option (List UInt8 × Int × Int), X = (match rowsQ x.2.2.2.2.2 with
        | .inl e => some (([] : List UInt8), (i : Int), e)
        | .inr t => self (a ++ hdQ d.2.2.1 (i + 1) x ++ t ++ [10], ((i + 1 : Nat) : Int))) → Rnd X self (fun a => (a, ((i + 1 : Nat) : Int))) (fun a => a.length ≤ 1447 * (i + 1)) (match (match rowsQ x.2.2.2.2.2 with
        | .inl e => (.inl e : Int ⊕ List UInt8)
        | .inr t => .inr (hdQ d.2.2.1 (i + 1) x ++ t ++ [10])) with
        | .inl e => .inl (some (([] : List UInt8), (i : Int), e))
        | .inr t => .inr (a ++ t)) := fun X hX => by
      rw [hX]
      cases hq : rowsQ x.2.2.2.2.2 with
      | inl e => rfl
      | inr t =>
        have ht := rowsQ_len h5 hq
        refine ⟨?_, ?_⟩
        · simp only [List.append_assoc]
        · simp only [List.length_append, List.length_cons, List.length_nil]; omega
    refine inner _ ?_
    refine Eq.trans (lst_it (l := x.2.2.2.2.2) (fun (a : List UInt8) (p : Nat) => (a, (p : Int))) (rwR fun e => some (([] : List UInt8), (i : Int), e)) (fun b => self (b ++ [10], ((i + 1 : Nat) : Int))) (fun j b => b.length ≤ a.length + 34 + 353 * j) (fun self' b j hj hJ => ?_) (fun self' b hJ => ?_) fuelH 0 (a ++ hdQ d.2.2.1 (i + 1) x) (Nat.zero_le _) (by have := fuelH_eq; omega) (by simp only [List.length_append]; omega)) ?_
    · have hm := mkS_lenE (h5 _ (List.getElem_mem hj))
      simp only
      rw [cnd_t (ilt_t (by simp only [len]; omega)), grd_t (inb_t (by simp only [len]; omega)), lget_i hj, ref_markup (h6 _ (List.getElem_mem hj)), bnd_some', w64_succ hj (by omega)]
      unfold rwR
      by_cases m : (mkS x.2.2.2.2.2[j]).2 ≠ 0
      · rw [cnd_t (ine_t m), if_pos m]; rfl
      · rw [cnd_f (ine_f (show (mkS x.2.2.2.2.2[j]).2 = 0 by simpa using m)), if_neg m, grd_t (cat_ok (by simp only [List.length_cons, List.length_nil]; omega)), grd_t (cat_ok (by simp only [lapp, List.length_append, List.length_cons, List.length_nil]; omega))]
        exact ⟨rfl, by simp only [List.length_append, List.length_cons, List.length_nil]; omega⟩
    · simp only
      rw [cnd_f (ilt_f (by simp only [len]; omega)), grd_t (cat_ok (by simp only [List.length_cons, List.length_nil]; omega))]
      rfl
    · rw [List.drop_zero, rw_it]
  · simp only
    rw [cnd_f (ilt_f (by simp only [len]; omega))]
  · rw [List.drop_zero, fi_it]
    cases filQ d.2.2.1 0 d.2.2.2.2.2.2.1 with
    | inl z => rfl
    | inr s => rfl
theorem ref_accept {d : Doc} (hs : smallD d) (hf : fewE d) : r19_Accept fuelH d = some (encQ d).2 := by
  unfold r19_Accept encQ
  rw [r12_check hs, bnd_some']
  by_cases hc : docChk d ≠ 0
  · rw [cnd_t (ine_t hc), if_pos hc]
  have hc : docChk d = 0 := by simpa using hc
  rw [cnd_f (ine_f hc), if_neg (by rw [hc]; simp), ref_file hs hf hc, bnd_some']
  unfold filV
  cases hq : filQ d.2.2.1 0 d.2.2.2.2.2.2.1 with
  | inl z =>
    have := fil_err hq
    simp only
    rw [cnd_t (ine_t this)]
  | inr s =>
    simp only
    rw [cnd_f (ine_f rfl), cnd_ilt]
    by_cases hk : 262144 < s.length
    · rw [if_pos (by simp only [len]; omega), if_pos hk]
    · rw [if_neg (by simp only [len]; omega), if_neg hk]
theorem few_few (d : Doc) : fewE (fewQ d) := by
  show (d.2.2.2.2.2.2.1.take 6).length ≤ 6
  rw [List.length_take]
  omega
theorem accepts19_true {x : Doc} (hb : wtD x ≤ 1048576) : l19_SubripAccepts fuelH x = some true := by
  unfold l19_SubripAccepts
  obtain ⟨hs, _⟩ := few_smallQ hb
  have hf := few_few x
  unfold subrip_Accept
  rw [awake19, bnd_some', cnd_f (by rfl), few_eqQ, bnd_some', sub_encode hs hf, bnd_some', bnd_some', ref_accept hs hf, bnd_some', cnd_t (ieq_t rfl), cnd_t (ieq_t rfl), sub_reduce hs, bnd_some', ref_reduce hs, bnd_some', redQ_self hs]
  rfl
end
end Go.Mo
end
