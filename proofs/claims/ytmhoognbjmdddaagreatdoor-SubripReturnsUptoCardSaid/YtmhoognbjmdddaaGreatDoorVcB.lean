/-
  Texts put together, in build order: UB UC UM UN UO UP.
-/
import Derived.Test.YtmhoognbjmdddaaGreatDoorVcA
import Derived.Test.YtmhoognbjmdddaaGreatDoorZC
import Derived.KernelRfl
import Derived.Lib.ValidLaws
import Derived.Lib.TrimUEq
import Derived.Lib.MapLaws
import Derived.Lib.IndexMore
set_option linter.all false

section
/-
  Plain facts of earlier chapters, put together by a program.
-/
set_option linter.all false
section
/-
  Plain facts on the words of models; what is made of bytes.
-/
namespace Go.Mo
open Go Go.W

theorem grd_t {α : Type} {b : Bool} {k : Option α} (h : b = true) : grd b k = k := by subst h; rfl
theorem cnd_t {α : Type} {b : Bool} {x y : Option α} (h : b = true) : cnd b x y = x := by subst h; rfl
theorem cnd_f {α : Type} {b : Bool} {x y : Option α} (h : b = false) : cnd b x y = y := by subst h; rfl
theorem bnd_s {α β : Type} {x : Option α} {a : α} {k : α → Option β} (h : x = some a) : bnd x k = k a := by subst h; rfl
theorem jn_e {F α : Type} {k : F} {t : F → Option α} : jn k t = t k := rfl
theorem fixN_s {V R : Type} {F : (V → Option R) → V → Option R} {n : Nat} {v : V} : fixN F (n + 1) v = F (fixN F n) v := rfl
theorem w64_id {x : Int} (h : -9223372036854775808 ≤ x ∧ x ≤ 9223372036854775807) : w64 x = x := by
  show IntKind.wrap .i64 x = x
  unfold IntKind.wrap
  simp only [IntKind.bits, IntKind.signed, Bool.true_and, decide_eq_true_eq, show (2 : Int) ^ 64 = 18446744073709551616 from rfl, show (2 : Int) ^ (64 - 1) = 9223372036854775808 from rfl]
  split <;> omega
theorem ilt_t {a b : Int} (h : a < b) : ilt a b = true := decide_eq_true h
theorem ilt_f {a b : Int} (h : ¬ a < b) : ilt a b = false := decide_eq_false h
theorem ile_t {a b : Int} (h : a ≤ b) : ile a b = true := decide_eq_true h
theorem ile_f {a b : Int} (h : ¬ a ≤ b) : ile a b = false := decide_eq_false h
theorem ieq_t {a b : Int} (h : a = b) : ieq a b = true := by subst h; simp [ieq]
theorem ieq_f {a b : Int} (h : a ≠ b) : ieq a b = false := by simp [ieq, h]
theorem ine_t {a b : Int} (h : a ≠ b) : ine a b = true := by simp [ine, h]
theorem ine_f {a b : Int} (h : a = b) : ine a b = false := by simp [ine, h]
theorem inb_t {i n : Int} (h : 0 ≤ i ∧ i < n) : inb i n = true := decide_eq_true h
theorem in2_t {i n : Int} (h : 0 ≤ i ∧ i ≤ n) : in2 i n = true := decide_eq_true h
theorem room_t {n : Int} {b : Nat} (h : n * b ≤ 140737488355328) : room n b = true := decide_eq_true h
theorem n8_inj {a b : UInt8} (h : n8 a = n8 b) : a = b := by
  unfold n8 at h
  apply UInt8.toNat_inj.1
  omega
end Go.Mo
end

section
/-
  Plain facts: rates, labels, the repertoire of characters.
-/
namespace Go.Mo
open Go Go.W
set_option maxRecDepth 100000

end Go.Mo
end

section
/-
  Plain facts: the repertoire of characters.
-/
namespace Go.Mo
open Go Go.W
set_option maxRecDepth 100000
/-- some number: the kernel does not know which -/
noncomputable def fuelM : Nat := Classical.choose (⟨7995000, rfl⟩ : ∃ n : Nat, n = 7995000)
noncomputable def fuelH : Nat := fuelM + 5000
theorem fuelH_eq : fuelH = 8000000 := by
  have h : fuelM = 7995000 := Classical.choose_spec (⟨7995000, rfl⟩ : ∃ n : Nat, n = 7995000)
  unfold fuelH
  rw [h]
/-- the characters behind ASCII -/
def hiRunes : List Int := [161, 162, 163, 164, 165, 166, 167, 169, 171, 174, 176, 183, 187, 189, 191, 192, 193, 194, 195, 196, 197, 198, 199, 200, 201, 202, 203, 204, 205, 206, 207, 209, 210, 211, 212, 213, 214, 216, 217, 218, 219, 220, 223, 224, 225, 226, 227, 228, 229, 230, 231, 232, 233, 234, 235, 236, 237, 238, 239, 241, 242, 243, 244, 245, 246, 248, 249, 250, 251, 252, 338, 339, 8212, 8216, 8217, 8220, 8221, 8226, 8230, 8482, 9834]
def loRunes : List Int := (List.range 95).map fun n => ((n + 32 : Nat) : Int)
def chain : List Int → Int → Int → Option Int
  | [], _, _ => some (-1)
  | c :: l, i, r => cnd (ieq c r) (some i) (chain l (iadd i 1) r)
def rep : List UInt8 := [32, 33, 34, 35, 36, 37, 38, 39, 40, 41, 42, 43, 44, 45, 46, 47, 48, 49, 50, 51, 52, 53, 54, 55, 56, 57, 58, 59, 60, 61, 62, 63, 64, 65, 66, 67, 68, 69, 70, 71, 72, 73, 74, 75, 76, 77, 78, 79, 80, 81, 82, 83, 84, 85, 86, 87, 88, 89, 90, 91, 92, 93, 94, 95, 96, 97, 98, 99, 100, 101, 102, 103, 104, 105, 106, 107, 108, 109, 110, 111, 112, 113, 114, 115, 116, 117, 118, 119, 120, 121, 122, 123, 124, 125, 126, 194, 161, 194, 162, 194, 163, 194, 164, 194, 165, 194, 166, 194, 167, 194, 169, 194, 171, 194, 174, 194, 176, 194, 183, 194, 187, 194, 189, 194, 191, 195, 128, 195, 129, 195, 130, 195, 131, 195, 132, 195, 133, 195, 134, 195, 135, 195, 136, 195, 137, 195, 138, 195, 139, 195, 140, 195, 141, 195, 142, 195, 143, 195, 145, 195, 146, 195, 147, 195, 148, 195, 149, 195, 150, 195, 152, 195, 153, 195, 154, 195, 155, 195, 156, 195, 159, 195, 160, 195, 161, 195, 162, 195, 163, 195, 164, 195, 165, 195, 166, 195, 167, 195, 168, 195, 169, 195, 170, 195, 171, 195, 172, 195, 173, 195, 174, 195, 175, 195, 177, 195, 178, 195, 179, 195, 180, 195, 181, 195, 182, 195, 184, 195, 185, 195, 186, 195, 187, 195, 188, 197, 146, 197, 147, 226, 128, 148, 226, 128, 152, 226, 128, 153, 226, 128, 156, 226, 128, 157, 226, 128, 162, 226, 128, 166, 226, 132, 162, 226, 153, 170]
theorem place_eqN (N : Nat) (r : Int) : charset_place (N + 300) (rep, r) = chain (loRunes ++ hiRunes) 0 r := by kernel_rfl
theorem place_eq (r : Int) : charset_place fuelH (rep, r) = chain (loRunes ++ hiRunes) 0 r := place_eqN (fuelM + 4700) r
theorem ch_indexN (N : Nat) (r : Int) : charset_Index N r = cnd (ile 32 r) (cnd (ile r 126) (some (w64 (wr .i32 (isub r 32)))) (bnd (charset_place N (rep, r)) fun v => some v)) (bnd (charset_place N (rep, r)) fun v => some v) := by kernel_rfl
theorem ch_index (r : Int) : charset_Index fuelH r = cnd (ile 32 r) (cnd (ile r 126) (some (w64 (wr .i32 (isub r 32)))) (bnd (charset_place fuelH (rep, r)) fun v => some v)) (bnd (charset_place fuelH (rep, r)) fun v => some v) := ch_indexN fuelH r
theorem chain_ok : ∀ (l : List Int) (i r : Int), 0 ≤ i → ∃ k, chain l i r = some k ∧ (k < 0 ↔ l.contains r = false)
  | [], i, r, _ => ⟨-1, rfl, by simp⟩
  | c :: l, i, r, h => by
    by_cases hc : c = r
    · exact ⟨i, by simp only [chain]; rw [cnd_t (ieq_t hc)], by subst hc; simp; omega⟩
    · obtain ⟨k, h1, h2⟩ := chain_ok l (iadd i 1) r (by show 0 ≤ i + 1; omega)
      refine ⟨k, by simp only [chain]; rw [cnd_f (ieq_f hc)]; exact h1, ?_⟩
      rw [h2]
      simp only [List.contains_cons, Bool.or_eq_false_iff]
      exact ⟨fun h => ⟨by simpa using fun e => hc e.symm, h⟩, fun h => h.2⟩
def inRep (r : Int) : Bool := (decide (32 ≤ r) && decide (r ≤ 126)) || hiRunes.contains r
theorem wi32_id {x : Int} (h : 0 ≤ x ∧ x < 1000) : wr .i32 x = x := by
  show IntKind.wrap .i32 x = x
  unfold IntKind.wrap
  simp only [IntKind.bits, IntKind.signed, Bool.true_and, decide_eq_true_eq, show (2 : Int) ^ 32 = 4294967296 from rfl, show (2 : Int) ^ (32 - 1) = 2147483648 from rfl]
  split <;> omega
theorem lo_mem (r : Int) : loRunes.contains r = (decide (32 ≤ r) && decide (r ≤ 126)) := by
  rw [Bool.eq_iff_iff]
  simp only [loRunes, List.contains_iff_mem, List.mem_map, List.mem_range, Bool.and_eq_true, decide_eq_true_eq]
  constructor
  · rintro ⟨n, hn, rfl⟩; omega
  · intro h; exact ⟨(r - 32).toNat, by omega, by omega⟩
theorem index_stl (r : Int) : ∃ i, charset_Index fuelH r = some i ∧ (i < 0 ↔ inRep r = false) := by
  rw [ch_index, place_eq]
  obtain ⟨k, h1, h2⟩ := chain_ok (loRunes ++ hiRunes) 0 r (Int.le_refl _)
  have hin : (loRunes ++ hiRunes).contains r = inRep r := by
    unfold inRep
    rw [← lo_mem]
    simp [List.contains_eq_mem, List.mem_append]
  rw [hin] at h2
  by_cases ha : 32 ≤ r
  · rw [cnd_t (ile_t ha)]
    by_cases hb : r ≤ 126
    · rw [cnd_t (ile_t hb)]
      refine ⟨_, rfl, ?_⟩
      have : w64 (wr .i32 (isub r 32)) = r - 32 := by
        simp only [isub]
        rw [wi32_id (by omega), w64_id (by omega)]
      rw [this]
      simp [inRep, ha, hb]
    · rw [cnd_f (ile_f hb)]
      exact ⟨k, by rw [bnd_s h1], h2⟩
  · rw [cnd_f (ile_f ha)]
    exact ⟨k, by rw [bnd_s h1], h2⟩
end Go.Mo
end

section
/-
  Plain facts: texts of the repertoire.
-/
namespace Go.Mo
open Go Go.W Go.Lib
set_option maxRecDepth 100000

theorem dec_pos (l : List UInt8) : 1 ≤ (decodeL l).2 := by
  unfold decodeL Utf8.decode
  simp only
  repeat' split
  all_goals first | exact Nat.le_refl _ | (show 1 ≤ _; omega)
theorem decR_eq (s : List UInt8) (p : Nat) : decR s p = ((decodeL (s.drop p)).1 : Int) := by
  have := decodeL_drop (bst s) p
  have e : (bst s).data.toList = s := rfl
  rw [e] at this
  unfold decR
  rw [this]
theorem decW_eq (s : List UInt8) (p : Nat) : decW s p = (decodeL (s.drop p)).2 := by
  have := decodeL_drop (bst s) p
  have e : (bst s).data.toList = s := rfl
  rw [e] at this
  unfold decW
  rw [this]

def rok : Nat → List UInt8 → Bool
  | 0, _ => true
  | n + 1, l => if l = [] then true else if inRep ((decodeL l).1 : Int) = true then rok n (l.drop (decodeL l).2) else false
/-- characters of the repertoire alone -/
def vld (l : List UInt8) : Bool := rok l.length l
theorem rok_nil : ∀ n, rok n [] = true
  | 0 => rfl
  | n + 1 => by simp [rok]
theorem rok_fuel : ∀ (n m : Nat) (l : List UInt8), l.length ≤ n → l.length ≤ m → rok n l = rok m l
  | 0, m, l, h, _ => by
    have : l = [] := List.eq_nil_of_length_eq_zero (by omega)
    subst this
    rw [rok_nil, rok_nil]
  | n + 1, 0, l, _, h => by
    have : l = [] := List.eq_nil_of_length_eq_zero (by omega)
    subst this
    rw [rok_nil, rok_nil]
  | n + 1, m + 1, l, h1, h2 => by
    by_cases hl : l = []
    · subst hl; rw [rok_nil, rok_nil]
    · have hp := dec_pos l
      have hlen : 0 < l.length := List.length_pos_iff.2 hl
      simp only [rok, hl, if_false]
      split
      · exact rok_fuel n m _ (by simp; omega) (by simp; omega)
      · rfl
theorem vld_step (l : List UInt8) (hl : l ≠ []) : vld l = if inRep ((decodeL l).1 : Int) = true then vld (l.drop (decodeL l).2) else false := by
  have hp := dec_pos l
  have hlen : 0 < l.length := List.length_pos_iff.2 hl
  unfold vld
  obtain ⟨n, hn⟩ : ∃ n, l.length = n + 1 := ⟨l.length - 1, by omega⟩
  rw [hn]
  simp only [rok, hl, if_false]
  split
  · exact rok_fuel _ _ _ (by simp; omega) (Nat.le_refl _)
  · rfl
theorem vld_valid : ∀ (n : Nat) (l : List UInt8), l.length ≤ n → vld l = true → validD l = true
  | n, l, h, hv => by
    by_cases hl : l = []
    · subst hl; rfl
    · have hlen : 0 < l.length := List.length_pos_iff.2 hl
      have hp := dec_pos l
      rw [vld_step l hl] at hv
      split at hv
      · rename_i hr
        rw [validD_step l hl, if_neg ?_]
        · cases n with
          | zero => omega
          | succ n => exact vld_valid n _ (by simp; omega) hv
        · rintro ⟨e, _⟩
          rw [e] at hr
          exact absurd hr (by decide)
      · cases hv

theorem valid_loop {s : List UInt8} (hs : s.length ≤ 100000000) (Ix : Int → Option Int) (hI : ∀ r : Int, ∃ i, Ix r = some i ∧ (i < 0 ↔ inRep r = false)) : ∀ (fuel p : Nat), s.length - p < fuel → p ≤ s.length →
    fixN (fun v2 (v3 : (List UInt8) × Int) =>
    cnd (nlt (toN v3.2) (nlen v3.1))
      (bnd (Ix (decR v3.1 (toN v3.2))) fun v4 =>
      cnd (ilt v4 (0 : Int))
        (some false)
        (v2 (v3.1, ofN (nadd (toN v3.2) (decW v3.1 (toN v3.2))))))
      (some true)) fuel (s, ofN p) = some (vld (s.drop p))
  | 0, p, h, _ => by omega
  | fuel + 1, p, h, hp => by
    rw [fixN_s]
    have et : toN (ofN p) = p := by simp [toN, ofN]
    simp only [et]
    by_cases hl : p < s.length
    · have hne : s.drop p ≠ [] := by intro e; have := congrArg List.length e; simp at this; omega
      have hw := dec_pos (s.drop p)
      have hle := decodeL_le (s.drop p) hne
      rw [List.length_drop] at hle
      rw [cnd_t (show nlt p (nlen s) = true from decide_eq_true hl)]
      obtain ⟨i, h1, h2⟩ := hI (decR s p)
      rw [bnd_s h1]
      rw [vld_step _ hne, ← decR_eq]
      by_cases hi : i < 0
      · rw [cnd_t (ilt_t hi), if_neg (by rw [h2.1 hi]; decide)]
      · rw [cnd_f (ilt_f hi)]
        have hin : inRep (decR s p) = true := by
          cases hq : inRep (decR s p) with
          | true => rfl
          | false => exact absurd (h2.2 hq) hi
        rw [if_pos hin, decW_eq, List.drop_drop]
        show fixN _ fuel (s, ofN (p + (decodeL (s.drop p)).2)) = _
        exact valid_loop hs Ix hI fuel _ (by omega) (by omega)
    · rw [cnd_f (show nlt p (nlen s) = false from decide_eq_false hl)]
      have : s.drop p = [] := by simp; omega
      rw [this]
      rfl
theorem ch_valid (s : List UInt8) (hs : s.length ≤ 4000000) : charset_Valid fuelH s = some (vld s) := by
  unfold charset_Valid
  have hv : utf8_ValidString fuelH s = some (validD s) := by
    show grd (catOk (len s)) (some (validD s)) = _
    exact grd_t (decide_eq_true (by simp only [len]; omega))
  rw [bnd_s hv]
  simp only [jn_e]
  cases hd : validD s with
  | false =>
    rw [cnd_t (show bnot false = true from rfl)]
    cases hq : vld s with
    | false => rfl
    | true => rw [vld_valid _ s (Nat.le_refl _) hq] at hd; cases hd
  | true =>
    rw [cnd_f (show bnot true = false from rfl)]
    have := valid_loop (s := s) (by omega) (charset_Index fuelH) (fun r => by obtain ⟨i, h2, h3⟩ := index_stl r; exact ⟨i, h2, h3⟩) fuelH 0 (by have := fuelH_eq; omega) (Nat.zero_le _)
    simpa using this
end Go.Mo
end

section
/-
  Plain facts: names; the check of a header.
-/
namespace Go.Mo
open Go Go.W Go.Lib
set_option maxRecDepth 100000

/-- may stand in a name -/
def okc (c : Int) : Bool := decide ((65 ≤ c ∧ c ≤ 90) ∨ (48 ≤ c ∧ c ≤ 57) ∨ c = 95 ∨ c = 45)
def upc (c : Int) : Bool := decide (65 ≤ c ∧ c ≤ 90)
/-- a name -/
def nm (s : List UInt8) : Bool := decide (1 ≤ s.length ∧ s.length ≤ 16) && upc (n8 (s.getD 0 0)) && s.all fun c => okc (n8 c)
end Go.Mo
end

section
/-
  Plain facts: the check of a header.
-/
namespace Go.Mo
open Go Go.W Go.Lib
set_option maxRecDepth 100000
abbrev Lbl := Int × Int × Int × Int × Bool
abbrev Hdr := UInt8 × (List UInt8) × (List UInt8) × Int × Int × Lbl × Lbl × Int × Int
theorem bnd_some' {α β : Type} {a : α} {k : α → Option β} : bnd (some a) k = k a := rfl
end Go.Mo
end

section
/-
  Plain facts: the characters of a text, and the text of characters.
-/
namespace Go.Mo
open Go Go.W Go.Lib
set_option maxRecDepth 100000

def rnsF : Nat → List UInt8 → List Int
  | 0, _ => []
  | n + 1, l => if l = [] then [] else ((decodeL l).1 : Int) :: rnsF n (l.drop (decodeL l).2)
/-- the characters of a text -/
def rns (l : List UInt8) : List Int := rnsF l.length l
/-- the text of characters -/
def ofR (l : List Int) : List UInt8 := l.flatMap enc
theorem rnsF_nil : ∀ n, rnsF n [] = []
  | 0 => rfl
  | n + 1 => by simp [rnsF]
theorem rnsF_fuel : ∀ (n m : Nat) (l : List UInt8), l.length ≤ n → l.length ≤ m → rnsF n l = rnsF m l
  | 0, m, l, h, _ => by
    have : l = [] := List.eq_nil_of_length_eq_zero (by omega)
    subst this
    rw [rnsF_nil, rnsF_nil]
  | n + 1, 0, l, _, h => by
    have : l = [] := List.eq_nil_of_length_eq_zero (by omega)
    subst this
    rw [rnsF_nil, rnsF_nil]
  | n + 1, m + 1, l, h1, h2 => by
    by_cases hl : l = []
    · subst hl; rw [rnsF_nil, rnsF_nil]
    · have hp := dec_pos l
      have hlen : 0 < l.length := List.length_pos_iff.2 hl
      simp only [rnsF, hl, if_false]
      rw [rnsF_fuel n m _ (by simp; omega) (by simp; omega)]
theorem rns_step (l : List UInt8) (hl : l ≠ []) : rns l = ((decodeL l).1 : Int) :: rns (l.drop (decodeL l).2) := by
  have hp := dec_pos l
  have hlen : 0 < l.length := List.length_pos_iff.2 hl
  unfold rns
  obtain ⟨n, hn⟩ : ∃ n, l.length = n + 1 := ⟨l.length - 1, by omega⟩
  rw [hn]
  simp only [rnsF, hl, if_false]
  rw [rnsF_fuel n _ _ (by simp; omega) (Nat.le_refl _)]
theorem rep_mem {r : Int} (h : inRep r = true) : r ∈ loRunes ++ hiRunes := by
  unfold inRep at h
  rw [← lo_mem, Bool.or_eq_true] at h
  rw [List.mem_append]
  rcases h with h | h
  · exact .inl (List.contains_iff_mem.1 h)
  · exact .inr (List.contains_iff_mem.1 h)
theorem all_rep {P : Int → Bool} (h : ((loRunes ++ hiRunes).all P) = true) {r : Int} (hr : inRep r = true) : P r = true :=
  List.all_eq_true.1 h r (rep_mem hr)
theorem enc_rep {r : Int} (hr : inRep r = true) : enc r = encodeRune r :=
  of_decide_eq_true (all_rep (P := fun r => decide (enc r = encodeRune r)) (by kernel_rfl) hr)
theorem enc_dec (l : List UInt8) (hl : l ≠ []) (hr : inRep ((decodeL l).1 : Int) = true) : enc ((decodeL l).1 : Int) = l.take (decodeL l).2 := by
  rw [enc_rep hr]
  refine encode_decode l hl ?_
  rintro ⟨e, _⟩
  rw [e] at hr
  exact absurd hr (by decide)
theorem rns_rep : ∀ (n : Nat) (l : List UInt8), l.length ≤ n → vld l = true → (rns l).all inRep = true ∧ ofR (rns l) = l
  | n, l, h, hv => by
    by_cases hl : l = []
    · subst hl; exact ⟨rfl, rfl⟩
    · have hlen : 0 < l.length := List.length_pos_iff.2 hl
      have hp := dec_pos l
      rw [vld_step l hl] at hv
      split at hv
      · rename_i hr
        cases n with
        | zero => omega
        | succ n =>
          obtain ⟨h1, h2⟩ := rns_rep n _ (by simp; omega) hv
          rw [rns_step l hl]
          refine ⟨by rw [List.all_cons, hr, h1]; rfl, ?_⟩
          unfold ofR at h2 ⊢
          rw [List.flatMap_cons, h2, enc_dec l hl hr, List.take_append_drop]
      · cases hv
theorem rns_ok {l : List UInt8} (h : vld l = true) : (rns l).all inRep = true := (rns_rep _ l (Nat.le_refl _) h).1
theorem ofR_rns {l : List UInt8} (h : vld l = true) : ofR (rns l) = l := (rns_rep _ l (Nat.le_refl _) h).2
def foldI {α σ R : Type} (g : Nat → α → σ → (σ → Option R) → Option R) (e : σ → Option R) : Nat → List α → σ → Option R
  | _, [], a => e a
  | i, x :: l, a => g i x a fun a' => foldI g e (i + 1) l a'
/-- a loop over the elements of a list -/
theorem lst_loop {V R σ α : Type} {F : (V → Option R) → V → Option R} {l : List α} (st : σ → Nat → V) (g : Nat → α → σ → (σ → Option R) → Option R) (e : σ → Option R)
    (hstep : ∀ self a i (h : i < l.length), F self (st a i) = g i l[i] a fun a' => self (st a' (i + 1)))
    (hend : ∀ self a, F self (st a l.length) = e a) : ∀ (fuel i : Nat) (a : σ), i ≤ l.length → l.length - i < fuel → fixN F fuel (st a i) = foldI g e i (l.drop i) a
  | 0, i, a, _, h => by omega
  | fuel + 1, i, a, hi, h => by
    rw [fixN_s]
    by_cases hl : i < l.length
    · rw [hstep _ _ _ hl, List.drop_eq_getElem_cons hl, foldI]
      congr 1
      funext a'
      exact lst_loop st g e hstep hend fuel (i + 1) a' (by omega) (by omega)
    · obtain rfl : i = l.length := by omega
      rw [hend, List.drop_length]
      rfl
theorem w64_succ {i n : Nat} (h : i < n) (hn : n ≤ 9223372036854775807) : w64 (iadd (i : Int) 1) = ((i + 1 : Nat) : Int) := by
  simp only [iadd]; rw [w64_id (by omega)]; omega
theorem lget_i {α : Type} {l : List α} {i : Nat} {d : α} (h : i < l.length) : lget l (toN (i : Int)) d = l[i] := by simp [lget, toN, h]
end Go.Mo
end

section
/-
  Plain facts: the characters of the tape form.
-/
namespace Go.Mo
open Go Go.W Go.Lib
set_option maxRecDepth 100000

def ixE (r : Int) : Option Int := cnd (ile 32 r) (cnd (ile r 126) (some (w64 (wr .i32 (isub r 32)))) (chain (loRunes ++ hiRunes) 0 r)) (chain (loRunes ++ hiRunes) 0 r)
def ix (r : Int) : Int := (ixE r).getD 0
/-- the letter of a letter with a diacritic -/
def basT : List Int := [33, 99, 76, 36, 89, 124, 83, 67, 34, 82, 111, 46, 34, 50, 63, 65, 65, 65, 65, 65, 65, 65, 67, 69, 69, 69, 69, 73, 73, 73, 73, 78, 79, 79, 79, 79, 79, 79, 85, 85, 85, 85, 115, 97, 97, 97, 97, 97, 97, 97, 99, 101, 101, 101, 101, 105, 105, 105, 105, 110, 111, 111, 111, 111, 111, 111, 117, 117, 117, 117, 79, 111, 45, 39, 39, 34, 34, 46, 46, 84, 35]
def bas (r : Int) : Int := if r < 127 then r else basT.getD ((ix r).toNat - 95) 0
/-- the bytes of diacritics, and their letters -/
def accs : List (UInt8 × List UInt8 × List Int) := [(193, [195, 128, 195, 136, 195, 140, 195, 146, 195, 153], [192, 200, 204, 210, 217]), (194, [195, 129, 195, 137, 195, 141, 195, 147, 195, 154], [193, 201, 205, 211, 218]), (195, [195, 130, 195, 138, 195, 142, 195, 148, 195, 155], [194, 202, 206, 212, 219]), (196, [195, 131, 195, 145, 195, 149], [195, 209, 213]), (197, [], []), (198, [], []), (199, [], []), (200, [195, 132, 195, 139, 195, 143, 195, 150, 195, 156], [196, 203, 207, 214, 220]), (201, [], []), (202, [195, 133], [197]), (203, [195, 135], [199])]
def sgs : List (Int × UInt8) := [(161, 161), (162, 162), (163, 163), (164, 164), (165, 165), (166, 166), (167, 167), (169, 168), (8216, 169), (8220, 170), (171, 171), (174, 172), (8212, 173), (8226, 174), (8230, 175), (176, 176), (8482, 180), (183, 183), (8217, 185), (8221, 186), (187, 187), (189, 189), (191, 191), (9834, 213), (198, 225), (216, 233), (338, 234), (230, 241), (248, 249), (339, 250), (223, 251)]
end Go.Mo
end

section
/-
  Plain facts: texts in the characters of the tape form.
-/
namespace Go.Mo
open Go Go.W Go.Lib
set_option maxRecDepth 100000

end Go.Mo
end

section
/-
  Small plain facts: bytes, lengths, equality of texts.
-/
namespace Go.Mo
open Go Go.W Go.Lib
set_option maxRecDepth 100000
noncomputable section
theorem catOk_t {n : Int} (h : n ≤ 9223372036854775807) : catOk n = true := decide_eq_true h
theorem seq_dec (x y : List UInt8) : seq x y = decide (x = y) := by
  unfold seq
  by_cases h : x = y
  · subst h; simp
  · rw [decide_eq_false h]
    simpa using h
end
end Go.Mo
end

section
/-
  Plain facts: characters of the tape form read back.
-/
namespace Go.Mo
open Go Go.W Go.Lib
set_option maxRecDepth 100000
noncomputable section

/-- the small letter -/
def low (r : Int) : Int := if (65 ≤ r ∧ r ≤ 90) ∨ (192 ≤ r ∧ r < 223) then r + 32 else if r = 338 then 339 else r
def accR (a : UInt8) : List Int := match accs.find? fun x => x.1 == a with
  | some x => x.2.2
  | none => []
def acG : List Int → UInt8 → Option (Int × Int)
  | [], _ => some (0, 0)
  | r :: l, b => cnd (ieq (bas r) (n8 b)) (some (r, (2 : Int))) (cnd (ieq (bas (low r)) (n8 b)) (some (low r, (2 : Int))) (acG l b))
def sgF (a : UInt8) : Option (Int × UInt8) := sgs.find? fun x => n8 x.2 == n8 a
end
end Go.Mo
end

section
/-
  Plain facts: rates, names, on both sides.
-/
namespace Go.Mo
open Go Go.W Go.Lib
set_option maxRecDepth 100000
noncomputable section
end
end Go.Mo
end

section
/-
  Plain facts: rows of text, their check, their normal form.
-/
namespace Go.Mo
open Go Go.W Go.Lib
set_option maxRecDepth 100000
abbrev Sty := UInt8 × Bool × Bool
abbrev Run := List UInt8 × Sty × List UInt8
abbrev Row := List Run

theorem cnd_ite {α : Type} {b : Bool} {x y : Option α} : cnd b x y = if b = true then x else y := by cases b <;> rfl
theorem bnot_t {b : Bool} : (bnot b = true) = (b = false) := by cases b <;> simp [bnot]
theorem seq_t {a b : List UInt8} : (seq a b = true) = (a = b) := by rw [seq_dec]; simp
theorem ieq_tt {a b : Int} : (ieq a b = true) = (a = b) := by simp [ieq]
theorem beqb_t {a b : Bool} : (beqb a b = true) = (a = b) := by simp [beqb]
theorem band_tt {a b : Bool} : (band a b = true) = (a = true ∧ b = true) := by simp [band]
theorem n8_eq {a b : UInt8} : (n8 a = n8 b) = (a = b) := propext ⟨n8_inj, fun h => by rw [h]⟩
theorem w64_pred {i : Nat} (h : 0 < i) (hn : i ≤ 9223372036854775807) : w64 (isub (i : Int) 1) = ((i - 1 : Nat) : Int) := by
  simp only [isub]; rw [w64_id (by omega)]; omega
theorem w64_back {i : Nat} (hn : i < 9223372036854775807) : w64 (isub ((i + 1 : Nat) : Int) 1) = (i : Int) := by
  rw [w64_pred (Nat.succ_pos i) (by omega)]; rfl
theorem sty_eq {a b : Sty} : (a = b) = (a.1 = b.1 ∧ a.2.1 = b.2.1 ∧ a.2.2 = b.2.2) := by
  obtain ⟨a1, a2, a3⟩ := a; obtain ⟨b1, b2, b3⟩ := b; simp

def alikeP (a b : Run) : Prop := a.2.1 = b.2.1 ∧ a.2.2 = [] ∧ b.2.2 = []
instance (a b : Run) : Decidable (alikeP a b) := by unfold alikeP; infer_instance
/-- a run that follows another one -/
def runChk (p : Option Run) (x : Run) : Int :=
  if vld x.1 = false then 10 else if x.1 = [] then 4 else if ¬ n8 x.2.1.1 ≤ 6 then 12 else if vld x.2.2 = false then 10 else match p with
    | none => 0
    | some p => if alikeP p x then 8 else 0
def chkL : Option Run → List Run → Int
  | _, [] => 0
  | p, x :: r => if runChk p x ≠ 0 then runChk p x else chkL (some x) r
def rowChk (l : Row) : Int := if 16 < l.length then 9 else chkL none l
def shortR (l : Row) : Prop := ∀ x ∈ l, x.1.length ≤ 4000000 ∧ x.2.2.length ≤ 4000000
/-- the element ahead -/
def before {α : Type} (l : List α) : Nat → Option α
  | 0 => none
  | i + 1 => l[i]?
theorem foldI_chk (l : Row) : ∀ (r : List Run) (i : Nat), l.drop i = r → i ≤ l.length → foldI (fun i (x : Run) (_ : Unit) self => if runChk (before l i) x ≠ 0 then some (runChk (before l i) x) else self ()) (fun _ => some (0 : Int)) i r () = some (chkL (before l i) r)
  | [], i, _, _ => rfl
  | x :: r, i, h, hi => by
    have hx : l[i]? = some x := by rw [← List.head?_drop, h]; rfl
    have hr : l.drop (i + 1) = r := by rw [← List.drop_drop, h]; rfl
    have hl : i < l.length := (List.getElem?_eq_some_iff.1 hx).1
    simp only [foldI, chkL]
    rw [foldI_chk l r (i + 1) hr (by omega)]
    have e : before l (i + 1) = some x := hx
    rw [e]
    by_cases hc : runChk (before l i) x ≠ 0
    · rw [if_pos hc, if_pos hc]
    · rw [if_neg hc, if_neg hc]
theorem style_alike_eq (N : Nat) (a b : Run) : style_alike N (a, b) = some (decide (alikeP a b)) := by
  unfold style_alike
  simp only [cnd_ite, band_tt, ieq_tt, beqb_t, n8_eq, seq_dec, decide_eq_true_eq]
  by_cases h1 : a.2.1.1 = b.2.1.1 ∧ a.2.1.2.1 = b.2.1.2.1 ∧ a.2.1.2.2 = b.2.1.2.2
  · rw [if_pos h1]
    have : a.2.1 = b.2.1 := by rw [sty_eq]; exact h1
    by_cases h2 : a.2.2 = []
    · rw [if_pos h2]; simp [alikeP, this, h2]
    · rw [if_neg h2]; simp [alikeP, h2]
  · rw [if_neg h1]
    have : ¬ a.2.1 = b.2.1 := by rw [sty_eq]; exact h1
    simp [alikeP, this]
theorem style_check {l : Row} (hl : shortR l) : style_Check fuelH l = some (rowChk l) := by
  unfold style_Check
  by_cases h : 16 < l.length
  · rw [cnd_t (ilt_t (by simp only [len]; omega))]; simp [rowChk, h]
  · rw [cnd_f (ilt_f (by simp only [len]; omega)), jn_e]
    refine Eq.trans (lst_loop (l := l) (fun (_ : Unit) (p : Nat) => (p : Int)) (fun i (x : Run) (_ : Unit) self => if runChk (before l i) x ≠ 0 then some (runChk (before l i) x) else self ()) (fun _ => some (0 : Int)) (fun self a i hi => ?_) (fun self a => ?_) fuelH 0 () (Nat.zero_le _) (by have := fuelH_eq; omega)) ?_
    · rw [cnd_t (ilt_t (by simp only [len]; omega)), grd_t (inb_t (by simp only [len]; omega)), lget_i hi]
      obtain ⟨b1, b2⟩ := hl l[i] (List.getElem_mem hi)
      rw [bnd_s (ch_valid _ b1), bnd_s (show style_Valid fuelH l[i].2.1 = some (ile (n8 l[i].2.1.1) 6) from rfl), bnd_s (ch_valid _ b2)]
      simp only [cnd_ite, bnot_t, seq_t, ile, decide_eq_false_iff_not]
      rw [w64_succ hi (by omega)]
      cases i with
      | zero =>
        have e0 : before l 0 = none := rfl
        rw [e0, if_neg (show ¬ ilt (0 : Int) ((0 : Nat) : Int) = true by decide)]
        simp only [runChk]
        repeat' split
        all_goals first | rfl | (exfalso; omega) | simp_all
      | succ i =>
        have e0 : before l (i + 1) = some l[i] := by simp only [before]; exact List.getElem?_eq_getElem (by omega)
        rw [e0, if_pos (show ilt (0 : Int) ((i + 1 : Nat) : Int) = true from ilt_t (by omega)), w64_back (by omega), grd_t (inb_t (by simp only [len]; omega)), lget_i (show i < l.length by omega), bnd_s (style_alike_eq _ _ _)]
        simp only [runChk, decide_eq_true_eq]
        repeat' split
        all_goals first | rfl | (exfalso; omega) | simp_all
    · rw [cnd_f (ilt_f (by simp only [len]; omega))]
    · rw [List.drop_zero, foldI_chk l l 0 rfl (Nat.zero_le _)]
      simp [rowChk, h, before]
end Go.Mo
end

section
/-
  Plain facts: loops with an invariant; the normal form of a row.
-/
namespace Go.Mo
open Go Go.W Go.Lib
set_option maxRecDepth 100000

def itI {α σ R : Type} (f : Nat → α → σ → Option R ⊕ σ) (e : σ → Option R) : Nat → List α → σ → Option R
  | _, [], a => e a
  | i, x :: l, a => match f i x a with
    | .inl r => r
    | .inr a' => itI f e (i + 1) l a'
/-- one round: it ends with r, or goes on -/
def Rnd {V R σ : Type} (X : Option R) (self : V → Option R) (next : σ → V) (I : σ → Prop) : Option R ⊕ σ → Prop
  | .inl r => X = r
  | .inr a => X = self (next a) ∧ I a
theorem lst_it {V R σ α : Type} {F : (V → Option R) → V → Option R} {l : List α} (st : σ → Nat → V) (f : Nat → α → σ → Option R ⊕ σ) (e : σ → Option R) (I : Nat → σ → Prop)
    (hstep : ∀ self a i (h : i < l.length), I i a → Rnd (F self (st a i)) self (fun a => st a (i + 1)) (I (i + 1)) (f i l[i] a))
    (hend : ∀ self a, I l.length a → F self (st a l.length) = e a) : ∀ (fuel i : Nat) (a : σ), i ≤ l.length → l.length - i < fuel → I i a → fixN F fuel (st a i) = itI f e i (l.drop i) a
  | 0, i, a, _, h, _ => by omega
  | fuel + 1, i, a, hi, h, hI => by
    rw [fixN_s]
    by_cases hl : i < l.length
    · rw [List.drop_eq_getElem_cons hl, itI]
      have hs := hstep (fixN F fuel) a i hl hI
      cases hf : f i l[i] a with
      | inl r => rw [hf] at hs; exact hs
      | inr a' =>
        rw [hf] at hs
        rw [hs.1]
        exact lst_it st f e I hstep hend fuel (i + 1) a' (by omega) (by omega) hs.2
    · obtain rfl : i = l.length := by omega
      rw [hend _ _ hI, List.drop_length]
      rfl
theorem itI_fold {α σ R : Type} (f : α → σ → σ) (e : σ → Option R) : ∀ (i : Nat) (l : List α) (a : σ), itI (fun _ x a => .inr (f x a)) e i l a = e (l.foldl (fun a x => f x a) a)
  | _, [], _ => rfl
  | i, x :: l, a => by simp only [itI, List.foldl_cons]; exact itI_fold f e (i + 1) l (f x a)

def snoc (out : Row) (x : Run) : Row :=
  if x.1 = [] then out else match out.getLast? with
    | some p => if alikeP p x then out.dropLast ++ [(p.1 ++ x.1, p.2)] else out ++ [x]
    | none => out ++ [x]
def normR (l : Row) : Row := l.foldl snoc []
/-- the letters of a row -/
def tot : Row → Nat
  | [] => 0
  | x :: r => x.1.length + tot r
theorem tot_app (a b : Row) : tot (a ++ b) = tot a + tot b := by
  induction a with
  | nil => simp [tot]
  | cons x a ih => simp only [List.cons_append, tot, ih]; omega
theorem last_eq {l : Row} {p : Run} (h : l.getLast? = some p) : l = l.dropLast ++ [p] := by
  cases l with
  | nil => cases h
  | cons x l =>
    rw [List.getLast?_eq_some_getLast (List.cons_ne_nil x l)] at h
    injection h with h
    rw [← h]
    exact (List.dropLast_concat_getLast (List.cons_ne_nil x l)).symm
theorem snoc_tot (out : Row) (x : Run) : tot (snoc out x) = tot out + x.1.length := by
  unfold snoc
  split
  · rename_i h; rw [h]; rfl
  · split
    · rename_i p hp
      split
      · have := congrArg tot (last_eq hp)
        rw [tot_app] at this
        rw [tot_app]
        simp only [tot, List.length_append, Nat.add_zero] at this ⊢
        omega
      · rw [tot_app]; simp [tot]
    · rw [tot_app]; simp [tot]
theorem snoc_len (out : Row) (x : Run) : (snoc out x).length ≤ out.length + 1 := by
  unfold snoc
  split
  · omega
  · split
    · split
      · simp only [List.length_append, List.length_dropLast, List.length_singleton]; omega
      · simp
    · simp
theorem lget_last {out : Row} {p : Run} (h : out.getLast? = some p) (hb : out.length ≤ 100000000) (d : Run) : 0 < out.length ∧ w64 (isub (len out) 1) = ((out.length - 1 : Nat) : Int) ∧ lget out (toN (w64 (isub (len out) 1))) d = p := by
  have hl : 0 < out.length := by
    cases out with
    | nil => cases h
    | cons x l => simp
  have hw : w64 (isub (len out) 1) = ((out.length - 1 : Nat) : Int) := w64_pred hl (by omega)
  refine ⟨hl, hw, ?_⟩
  rw [hw, lget_i (show out.length - 1 < out.length by omega)]
  rw [List.getLast?_eq_getElem?, List.getElem?_eq_getElem (by omega)] at h
  injection h
theorem lset_last {out : Row} {p : Run} (h : out.getLast? = some p) (y : Run) : lset out (out.length - 1) y = out.dropLast ++ [y] := by
  have e := last_eq h
  have hl : out.length - 1 = out.dropLast.length := by simp
  rw [hl]
  conv => lhs; rw [e]
  unfold lset
  rw [List.set_append_right _ _ (by simp)]
  simp
theorem last_tot {out : Row} {p : Run} (h : out.getLast? = some p) : p.1.length ≤ tot out := by
  have := congrArg tot (last_eq h)
  rw [tot_app] at this
  simp only [tot, Nat.add_zero] at this
  omega
theorem tot_mem {l : Row} {x : Run} (h : x ∈ l) : x.1.length ≤ tot l := by
  induction l with
  | nil => cases h
  | cons y l ih =>
    simp only [tot]
    rcases List.mem_cons.1 h with rfl | h
    · omega
    · have := ih h; omega
def NI (l : Row) (i : Nat) (out : Row) : Prop := out.length ≤ i ∧ tot out + tot (l.drop i) = tot l
theorem NI_step {l : Row} {i : Nat} (h : i < l.length) {out : Row} (hI : NI l i out) : NI l (i + 1) (snoc out l[i]) := by
  refine ⟨Nat.le_trans (snoc_len _ _) (Nat.succ_le_succ hI.1), ?_⟩
  have := hI.2
  rw [List.drop_eq_getElem_cons h] at this
  rw [snoc_tot]
  simp only [tot] at this
  omega
theorem style_norm_eq {l : Row} (hl : l.length ≤ 4000000) (ht : tot l ≤ 8000000) : style_norm fuelH l = some (normR l) := by
  unfold style_norm
  rw [jn_e]
  refine Eq.trans (lst_it (l := l) (fun (a : Row) (p : Nat) => ((p : Int), a)) (fun _ x a => .inr (snoc a x)) (fun a => some a) (NI l) (fun self a i hi hI => ?_) (fun self a _ => ?_) fuelH 0 [] (Nat.zero_le _) (by have := fuelH_eq; omega) ⟨Nat.le_refl _, by simp [tot]⟩) ?_
  · refine ⟨?_, NI_step hi hI⟩
    have hI1 := hI.1
    have hb : tot a ≤ 8000000 := by have := hI.2; omega
    have hx : l[i].1.length ≤ 8000000 := Nat.le_trans (tot_mem (List.getElem_mem hi)) ht
    simp only
    rw [cnd_t (ilt_t (by simp only [len]; omega)), grd_t (inb_t (by simp only [len]; omega)), lget_i hi, w64_succ hi (by omega)]
    have hroom : room (iadd (len a) (len ([l[i]] : Row))) 40 = true := room_t (by simp only [iadd, len, List.length_singleton]; omega)
    rw [grd_t hroom]
    simp only [cnd_ite, seq_t]
    by_cases he : l[i].1 = []
    · rw [if_pos he]; simp only [snoc, he, if_true]
    · rw [if_neg he]
      cases hla : a.getLast? with
      | none =>
        have ha : a = [] := List.getLast?_eq_none_iff.1 hla
        subst ha
        rw [if_neg (show ¬ ilt (0 : Int) (len ([] : Row)) = true by decide)]
        simp only [snoc, if_neg he, hla]
        rfl
      | some p =>
        obtain ⟨q1, q2, q3⟩ := lget_last hla (by omega) ([], (((0 : UInt8), (false, false)), []))
        have hin : inb (w64 (isub (len a) 1)) (len a) = true := by rw [q2]; exact inb_t (by simp only [len]; omega)
        have hp := last_tot hla
        rw [if_pos (show ilt (0 : Int) (len a) = true from ilt_t (by simp only [len]; omega)), grd_t hin, q3, bnd_s (style_alike_eq _ _ _), grd_t hin, grd_t (show catOk (iadd (len p.1) (len l[i].1)) = true from decide_eq_true (by simp only [iadd, len]; omega)), grd_t hin, q2]
        simp only [decide_eq_true_eq, snoc, if_neg he, hla]
        by_cases hk : alikeP p l[i]
        · rw [if_pos hk, if_pos hk]
          have : toN ((a.length - 1 : Nat) : Int) = a.length - 1 := by simp [toN]
          rw [this, lset_last hla]
          rfl
        · rw [if_neg hk, if_neg hk]; rfl
  · simp only
    rw [cnd_f (ilt_f (by simp only [len]; omega))]
  · rw [List.drop_zero, itI_fold]
    rfl
theorem style_Norm_eq {l : Row} (hl : l.length ≤ 4000000) (ht : tot l ≤ 8000000) : style_Norm fuelH l = some (normR l) := by
  unfold style_Norm
  rw [bnd_s (style_norm_eq hl ht)]
end Go.Mo
end

section
/-
  Plain facts: the bytes of rows.
-/
namespace Go.Mo
open Go Go.W Go.Lib
set_option maxRecDepth 100000
noncomputable section

theorem chkL_ok : ∀ (l : List Run) (p : Option Run), chkL p l = 0 → ∀ x ∈ l, vld x.1 = true ∧ x.1 ≠ [] ∧ n8 x.2.1.1 ≤ 6 ∧ vld x.2.2 = true
  | [], _, _, x, hx => by cases hx
  | y :: l, p, h, x, hx => by
    simp only [chkL] at h
    split at h
    · rename_i hc; exact absurd h hc
    · rename_i hc
      rcases List.mem_cons.1 hx with rfl | hx
      · have hc : runChk p x = 0 := by simpa using hc
        unfold runChk at hc
        split at hc
        · cases hc
        · split at hc
          · cases hc
          · split at hc
            · cases hc
            · split at hc
              · cases hc
              · rename_i h1 h2 h3 h4
                exact ⟨by simpa using h1, h2, by omega, by simpa using h4⟩
      · exact chkL_ok l _ h x hx
theorem rowChk_ok {l : Row} (h : rowChk l = 0) : l.length ≤ 16 ∧ ∀ x ∈ l, vld x.1 = true ∧ x.1 ≠ [] ∧ n8 x.2.1.1 ≤ 6 ∧ vld x.2.2 = true := by
  unfold rowChk at h
  split at h
  · cases h
  · exact ⟨by omega, chkL_ok l _ h⟩

def cost : Row → Nat
  | [] => 0
  | x :: r => 3 + x.1.length + cost r
theorem cost_eq (l : Row) : cost l = 3 * l.length + tot l := by
  induction l with
  | nil => rfl
  | cons x l ih => simp only [cost, tot, List.length_cons, ih]; omega
end
end Go.Mo
end

section
/-
  Plain facts: rows that are read from bytes, on both sides.
-/
namespace Go.Mo
open Go Go.W Go.Lib
set_option maxRecDepth 100000
noncomputable section

def g1 (a : UInt8) : Option Int := if 32 ≤ n8 a ∧ n8 a < 127 then some (n8 a) else (sgF a).map (·.1)
def g2 (a b : UInt8) : Int × Int := (acG (accR a) b).getD (0, 0)
end
end Go.Mo
end

section
/-
  Plain facts: rows that are read by the reference; equality of rows; StlTexts returns true.
-/
namespace Go.Mo
open Go Go.W Go.Lib
set_option maxRecDepth 100000
noncomputable section

theorem run_eq {a b : Run} : (a = b) = (a.1 = b.1 ∧ a.2.1 = b.2.1 ∧ a.2.2 = b.2.2) := by
  obtain ⟨a1, a2, a3⟩ := a; obtain ⟨b1, b2, b3⟩ := b; simp
/-- a loop that compares -/
theorem same_fold {α : Type} : ∀ (l m : List α) [DecidableEq α], l.length = m.length → ∀ i, itI (fun i (x : α) (_ : Unit) => if some x = m[i]? then (.inr () : Option Bool ⊕ Unit) else .inl (some false)) (fun _ => some true) i (l.drop i) () = some (decide (l.drop i = m.drop i)) := by
  intro l m _ hl i
  generalize hr : l.drop i = r
  induction r generalizing i with
  | nil =>
    have h1 : l.length ≤ i := by have := congrArg List.length hr; simp at this; omega
    have : m.drop i = [] := by rw [List.drop_eq_nil_iff]; omega
    rw [this]; simp [itI]
  | cons x r ih =>
    have hx : l[i]? = some x := by rw [← List.head?_drop, hr]; rfl
    have hi := (List.getElem?_eq_some_iff.1 hx).1
    have hr' : l.drop (i + 1) = r := by rw [← List.drop_drop, hr]; rfl
    have hm : m.drop i = m[i] :: m.drop (i + 1) := List.drop_eq_getElem_cons (by omega)
    rw [hm]
    simp only [itI]
    by_cases h : some x = m[i]?
    · rw [if_pos h]
      simp only
      rw [ih (i + 1) hr']
      rw [List.getElem?_eq_getElem (by omega)] at h
      injection h with h
      exact congrArg some (decide_eq_decide.2 ⟨fun e => by rw [h, e], fun e => by injection e⟩)
    · rw [if_neg h]
      rw [List.getElem?_eq_getElem (by omega)] at h
      have : x ≠ m[i] := fun e => h (by rw [e])
      exact congrArg some (decide_eq_false fun e => this (by injection e)).symm
theorem eqRuns (a b : Row) (hl : a.length ≤ 4000000) : slices_Equal_Lapi_Run_api_Run fuelH (a, b) = some (decide (a = b)) := by
  unfold slices_Equal_Lapi_Run_api_Run
  by_cases h : a.length = b.length
  · rw [cnd_f (ine_f (by simp only [len]; omega)), jn_e]
    refine Eq.trans (lst_it (l := a) (fun (_ : Unit) (p : Nat) => (p : Int)) (fun i (x : Run) (_ : Unit) => if some x = b[i]? then .inr () else .inl (some false)) (fun _ => some true) (fun _ _ => True) (fun self _ i hi _ => ?_) (fun self _ _ => ?_) fuelH 0 () (Nat.zero_le _) (by have := fuelH_eq; omega) trivial) ?_
    · have hb : i < b.length := by omega
      have e : cnd (ilt (i : Int) (len a)) (grd (inb (i : Int) (len a)) (grd (inb (i : Int) (len b)) (cnd (bnot (band (seq (lget a (toN (i : Int)) ([], (((0 : UInt8), (false, false)), []))).1 (lget b (toN (i : Int)) ([], (((0 : UInt8), (false, false)), []))).1) (band (band (ieq (n8 (lget a (toN (i : Int)) ([], (((0 : UInt8), (false, false)), []))).2.1.1) (n8 (lget b (toN (i : Int)) ([], (((0 : UInt8), (false, false)), []))).2.1.1)) (band (beqb (lget a (toN (i : Int)) ([], (((0 : UInt8), (false, false)), []))).2.1.2.1 (lget b (toN (i : Int)) ([], (((0 : UInt8), (false, false)), []))).2.1.2.1) (beqb (lget a (toN (i : Int)) ([], (((0 : UInt8), (false, false)), []))).2.1.2.2 (lget b (toN (i : Int)) ([], (((0 : UInt8), (false, false)), []))).2.1.2.2))) (seq (lget a (toN (i : Int)) ([], (((0 : UInt8), (false, false)), []))).2.2 (lget b (toN (i : Int)) ([], (((0 : UInt8), (false, false)), []))).2.2)))) (some false) (self (w64 (iadd (i : Int) 1)))))) (some true) = if a[i] = b[i] then self ((i + 1 : Nat) : Int) else some false := by
        rw [cnd_t (ilt_t (by simp only [len]; omega)), grd_t (inb_t (by simp only [len]; omega)), grd_t (inb_t (by simp only [len]; omega)), lget_i hi, lget_i hb, w64_succ hi (by omega), cnd_ite]
        simp only [bnot_t, Bool.eq_false_iff, ne_eq, band_tt, seq_t, ieq_tt, beqb_t, n8_eq, ← sty_eq, ← run_eq]
        by_cases hc : a[i] = b[i]
        · rw [if_neg (by simpa using hc), if_pos hc]
        · rw [if_pos hc, if_neg hc]
      rw [List.getElem?_eq_getElem hb]
      by_cases hc : a[i] = b[i]
      · rw [if_pos (by rw [hc])]
        exact ⟨e.trans (if_pos hc), trivial⟩
      · rw [if_neg (fun h => hc (by injection h))]
        exact e.trans (if_neg hc)
    · simp only
      rw [cnd_f (ilt_f (by simp only [len]; omega))]
    · exact same_fold a b h 0
  · rw [cnd_t (ine_t (by simp only [len]; omega))]
    have : a ≠ b := fun e => h (by rw [e])
    simp [this]
theorem same_row (a b : Row) (hl : a.length ≤ 4000000) : style_Same fuelH (a, b) = some (decide (a = b)) := by
  unfold style_Same
  rw [eqRuns a b hl, bnd_some']
end
end Go.Mo
end

section
/-
  Plain facts: StlTexts returns true.
-/
namespace Go.Mo
open Go Go.W Go.Lib
set_option maxRecDepth 100000
noncomputable section
theorem loop_inv {V R σ : Type} {F : (V → Option R) → V → Option R} {n : Nat} (st : σ → Nat → V) (I : Nat → σ → Prop) (r : Option R)
    (hstep : ∀ self a i, i < n → I i a → ∃ a', F self (st a i) = self (st a' (i + 1)) ∧ I (i + 1) a') (hend : ∀ self a, I n a → F self (st a n) = r) : ∀ (fuel i : Nat) (a : σ), i ≤ n → n - i < fuel → I i a → fixN F fuel (st a i) = r
  | 0, i, a, _, h, _ => by omega
  | fuel + 1, i, a, hi, h, hI => by
    rw [fixN_s]
    by_cases hl : i < n
    · obtain ⟨a', h1, h2⟩ := hstep (fixN F fuel) a i hl hI
      rw [h1]
      exact loop_inv st I r hstep hend fuel (i + 1) a' (by omega) (by omega) h2
    · obtain rfl : i = n := by omega
      exact hend _ _ hI

theorem bk_mem {α : Type} {f : α → Nat} {l : List α} {x : α} (h : x ∈ l) : f x ≤ bkL f l := by
  induction l with
  | nil => cases h
  | cons y l ih =>
    simp only [bkL]
    rcases List.mem_cons.1 h with rfl | h
    · omega
    · have := ih h; omega
theorem bk_take {α : Type} {f : α → Nat} : ∀ (n : Nat) (l : List α), bkL f (l.take n) ≤ bkL f l
  | 0, _ => Nat.zero_le _
  | n + 1, [] => Nat.le_refl _
  | n + 1, x :: l => by have := bk_take (f := f) n l; simp only [List.take_succ_cons, bkL]; omega
def wtU (x : Run) : Nat := x.1.length + 1 + (1 + (1 + 1) + (x.2.2.length + 1))
theorem cost_wt (r : Row) : cost r ≤ bkL wtU r := by
  induction r with
  | nil => exact Nat.le_refl _
  | cons x r ih => simp only [cost, bkL, wtU]; omega
theorem min_take {α : Type} (l : List α) (n : Nat) : ltake (toN (imin (len l) (n : Int))) l = l.take n ∧ in2 (imin (len l) (n : Int)) (len l) = true := by
  have e : toN (imin (len l) (n : Int)) = min l.length n := by simp only [toN, imin, len]; omega
  refine ⟨?_, in2_t (by simp only [imin, len]; omega)⟩
  rw [e]
  unfold ltake
  by_cases h : l.length ≤ n
  · rw [Nat.min_eq_left h, List.take_length, List.take_of_length_le h]
  · rw [Nat.min_eq_right (by omega)]
theorem fold_len : ∀ (l out : Row), (l.foldl snoc out).length ≤ out.length + l.length
  | [], out => Nat.le_refl _
  | x :: l, out => by
    have h1 := snoc_len out x
    have h2 := fold_len l (snoc out x)
    simp only [List.foldl_cons, List.length_cons]
    omega
theorem normR_len (l : Row) : (normR l).length ≤ l.length := by
  have := fold_len l []
  simpa [normR] using this
end
end Go.Mo
end

section
/-
  Plain facts: StlReturns returns true.
-/
namespace Go.Mo
open Go Go.W Go.Lib
set_option maxRecDepth 100000
noncomputable section

theorem snoc_ne {out : Row} {x : Run} (h : x.1 ≠ []) : snoc out x = match out.getLast? with
    | some p => if alikeP p x then out.dropLast ++ [(p.1 ++ x.1, p.2)] else out ++ [x]
    | none => out ++ [x] := by unfold snoc; rw [if_neg h]; all_goals (cases out.getLast? <;> rfl)
theorem snoc_last (m : Row) (a b : List UInt8) (s : Sty) (hb : b ≠ []) : snoc (m ++ [(a, s, [])]) (b, s, []) = m ++ [(a ++ b, s, [])] := by
  rw [snoc_ne hb]
  simp only [List.getLast?_append, List.getLast?_singleton, Option.some_or]
  rw [if_pos ⟨rfl, rfl, rfl⟩, List.dropLast_concat]
theorem snoc_snoc (out : Row) {a : List UInt8} (ha : a ≠ []) (b : List UInt8) (s : Sty) : snoc (snoc out (a, s, [])) (b, s, []) = snoc out (a ++ b, s, []) := by
  by_cases hb : b = []
  · subst hb
    rw [List.append_nil]
    exact (if_pos rfl : (if ([] : List UInt8) = [] then snoc out (a, s, []) else _) = _)
  · have hab : (a ++ b : List UInt8) ≠ [] := by simp [ha]
    rw [snoc_ne (x := (a, s, [])) ha, snoc_ne (x := (a ++ b, s, [])) hab]
    cases out.getLast? with
    | none => exact snoc_last _ _ _ _ hb
    | some p =>
      simp only
      by_cases hp : p.2.1 = s ∧ p.2.2 = []
      · have h1 : alikeP p (a, s, []) := ⟨hp.1, hp.2, rfl⟩
        have h2 : alikeP p (a ++ b, s, []) := ⟨hp.1, hp.2, rfl⟩
        rw [if_pos h1, if_pos h2]
        have e : p.2 = (s, []) := by rw [← hp.1, ← hp.2]
        rw [e, snoc_last _ _ _ _ hb, List.append_assoc]
      · have h1 : ¬ alikeP p (a, s, []) := fun h => hp ⟨h.1, h.2.1⟩
        have h2 : ¬ alikeP p (a ++ b, s, []) := fun h => hp ⟨h.1, h.2.1⟩
        rw [if_neg h1, if_neg h2, snoc_last _ _ _ _ hb]
theorem tot_cost (l : Row) : tot l ≤ cost l := by rw [cost_eq]; omega
end
end Go.Mo
end

section
/-
  Plain facts: regions, their check, a region by its name, the places of rows.
-/
namespace Go.Mo
open Go Go.W Go.Lib
set_option maxRecDepth 100000
noncomputable section
end
end Go.Mo
end

section
/-
  Plain facts: the places of rows.
-/
namespace Go.Mo
open Go Go.W Go.Lib
set_option maxRecDepth 100000
noncomputable section

end
end Go.Mo
end

section
/-
  Plain facts: the text and the length of a row; events and their check.
-/
namespace Go.Mo
open Go Go.W Go.Lib
set_option maxRecDepth 100000
noncomputable section
def plainT (l : Row) : List UInt8 := l.flatMap (·.1)
/-- a row whose check says yes, of texts that are not too long -/
def okR (l : Row) : Prop := l.length ≤ 16 ∧ (∀ x ∈ l, vld x.1 = true ∧ x.1.length ≤ 4000000) ∧ tot l ≤ 4000000
def smallR (l : Row) : Prop := shortR l ∧ tot l ≤ 4000000
theorem okR_of {l : Row} (hs : smallR l) (h : rowChk l = 0) : okR l := by
  obtain ⟨h1, h2⟩ := rowChk_ok h
  exact ⟨h1, fun x hx => ⟨(h2 x hx).1, (hs.1 x hx).1⟩, hs.2⟩
theorem plainT_take (l : Row) (i : Nat) (h : i < l.length) : plainT (l.take (i + 1)) = plainT (l.take i) ++ l[i].1 := by
  unfold plainT
  rw [List.take_succ_eq_append_getElem h, List.flatMap_append]
  simp
theorem plainT_len : ∀ (l : Row), (plainT l).length = tot l
  | [] => rfl
  | x :: l => by
    have h3 := plainT_len l
    unfold plainT at h3 ⊢
    simp only [List.flatMap_cons, List.length_append, tot, h3]
theorem tot_take (l : Row) (i : Nat) : tot (l.take i) ≤ tot l := by
  have h := tot_app (l.take i) (l.drop i)
  rw [List.take_append_drop] at h
  omega
theorem plainT_le {l : Row} (h : okR l) (i : Nat) : (plainT (l.take i)).length ≤ 4000000 := by
  rw [plainT_len]
  have := tot_take l i
  have := h.2.2
  omega
theorem write_str {N : Nat} {a b : List UInt8} (h : a.length + b.length ≤ 100000000) : strings_Builder_WriteString N (((), a), b) = some ((b.length : Int), (), (), a ++ b) := by
  unfold strings_Builder_WriteString
  show (grd (room (iadd (len a) (len b)) 1) (some (len b, (), (), lapp a b))) = _
  rw [grd_t (room_t (by simp only [iadd, len]; omega))]
  rfl
theorem style_plain {l : Row} (h : okR l) : style_Plain fuelH l = some (plainT l) := by
  unfold style_Plain
  rw [jn_e]
  have hl := h.1
  refine loop_inv (n := l.length) (fun (a : List UInt8) (i : Nat) => ((i : Int), (), a)) (fun i a => a = plainT (l.take i)) _ (fun self a i hi hI => ?_) (fun self a hI => ?_) fuelH 0 [] (Nat.zero_le _) (by have := fuelH_eq; omega) rfl
  · refine ⟨a ++ l[i].1, ?_, ?_⟩
    · have h1 := plainT_le h i
      have h2 := (h.2.1 _ (List.getElem_mem hi)).2
      simp only
      rw [cnd_t (ilt_t (by simp only [len]; omega)), grd_t (inb_t (by simp only [len]; omega)), lget_i hi, write_str (by rw [hI]; omega), bnd_some', w64_succ hi (by omega)]
    · rw [plainT_take l i hi, hI]
  · simp only
    rw [cnd_f (ilt_f (by simp only [len]; omega)), hI, List.take_length]
end
end Go.Mo
end

section
/-
  Plain facts: the check of an event, on both sides; spots; the length of an event.
-/
namespace Go.Mo
open Go Go.W Go.Lib
set_option maxRecDepth 100000
noncomputable section

end
end Go.Mo
end

section
/-
  Plain facts: the header of a document; events by their number; the length of an event.
-/
namespace Go.Mo
open Go Go.W Go.Lib
set_option maxRecDepth 100000
noncomputable section
end
end Go.Mo
end

section
/-
  Plain facts: the events of a document, checked one after the other; the length of an event.
-/
namespace Go.Mo
open Go Go.W Go.Lib
set_option maxRecDepth 100000
noncomputable section

end
end Go.Mo
end

section
/-
  Plain facts: the comments of a document, on both sides.
-/
namespace Go.Mo
open Go Go.W Go.Lib
set_option maxRecDepth 100000
noncomputable section

end
end Go.Mo
end

section
/-
  Plain facts: the check of a document is the specified one.
-/
namespace Go.Mo
open Go Go.W Go.Lib
set_option maxRecDepth 100000
noncomputable section

end
end Go.Mo
end

section
/-
  Plain facts: the place of a good event, and its region.
-/
namespace Go.Mo
open Go Go.W Go.Lib
set_option maxRecDepth 100000
noncomputable section

end
end Go.Mo
end

section
/-
  Plain facts: the document as the form carries it, on both sides.
-/
namespace Go.Mo
open Go Go.W Go.Lib
set_option maxRecDepth 100000
noncomputable section

end
end Go.Mo
end

section
/-
  Plain facts: a document is the same as itself; StlAccepts returns true.
-/
namespace Go.Mo
open Go Go.W Go.Lib
set_option maxRecDepth 100000
noncomputable section

end
end Go.Mo
end

section
/-
  Plain facts: StlAccepts returns true.
-/
namespace Go.Mo
open Go Go.W Go.Lib
set_option maxRecDepth 100000
noncomputable section

end
end Go.Mo
end

section
/-
  Plain facts: texts that are joined; the normal form of a row that is good.
-/
namespace Go.Mo
open Go Go.W Go.Lib
set_option maxRecDepth 100000
noncomputable section

def decP (t : List UInt8) (r : Int) : Bool := ieq ((decodeL (enc r ++ t)).1 : Int) r && decide ((decodeL (enc r ++ t)).2 = (enc r).length)
theorem dec_tab (t : List UInt8) : ((loRunes ++ hiRunes).all (decP t)) = true := by kernel_rfl
theorem dec_enc {r : Int} (hr : inRep r = true) (t : List UInt8) : ((decodeL (enc r ++ t)).1 : Int) = r ∧ (decodeL (enc r ++ t)).2 = (enc r).length := by
  have h : decP t r = true := all_rep (dec_tab t) hr
  unfold decP at h
  rw [Bool.and_eq_true, ieq_tt, decide_eq_true_eq] at h
  exact h
theorem enc_ne2 {r : Int} (hr : inRep r = true) : enc r ≠ [] := by
  have h := all_rep (P := fun r => !(enc r).isEmpty) (by kernel_rfl) hr
  intro e
  simp [e] at h
theorem vld_ofR : ∀ (l : List Int) (t : List UInt8), l.all inRep = true → vld (ofR l ++ t) = vld t
  | [], t, _ => rfl
  | r :: l, t, h => by
    rw [List.all_cons, Bool.and_eq_true] at h
    have e : ofR (r :: l) ++ t = enc r ++ (ofR l ++ t) := by unfold ofR; rw [List.flatMap_cons, List.append_assoc]
    obtain ⟨d1, d2⟩ := dec_enc h.1 (ofR l ++ t)
    rw [e, vld_step _ (by simp [enc_ne2 h.1]), d1, d2, List.drop_left, if_pos h.1, vld_ofR l t h.2]
theorem vld_cat {a : List UInt8} (h : vld a = true) (b : List UInt8) : vld (a ++ b) = vld b := by
  conv => lhs; rw [← ofR_rns h]
  exact vld_ofR _ _ (rns_ok h)

theorem plainT_app (a b : Row) : plainT (a ++ b) = plainT a ++ plainT b := by unfold plainT; rw [List.flatMap_append]
theorem plainT_one (x : Run) : plainT [x] = x.1 := by unfold plainT; simp
theorem snoc_plain (out : Row) (x : Run) : plainT (snoc out x) = plainT out ++ x.1 := by
  unfold snoc
  split
  · rename_i h; rw [h, List.append_nil]
  · split
    · rename_i p hp
      split
      · rw [plainT_app, plainT_one]
        conv => rhs; rw [last_eq hp, plainT_app, plainT_one]
        simp
      · rw [plainT_app, plainT_one]
    · rw [plainT_app, plainT_one]
theorem fold_plain : ∀ (l out : Row), plainT (l.foldl snoc out) = plainT out ++ plainT l
  | [], out => by simp [plainT]
  | x :: l, out => by
    rw [List.foldl_cons, fold_plain l, snoc_plain]
    have : plainT (x :: l) = x.1 ++ plainT l := by unfold plainT; rw [List.flatMap_cons]
    rw [this, List.append_assoc]
def lst (p : Option Run) (out : Row) : Option Run := match out.getLast? with
  | some q => some q
  | none => p
theorem lst_cons (p : Option Run) (y : Run) (out : Row) : lst p (y :: out) = lst (some y) out := by
  unfold lst
  rw [List.getLast?_cons]
  cases out.getLast? <;> rfl
theorem chk_snoc : ∀ (out : Row) (p : Option Run) (x : Run), chkL p (out ++ [x]) = 0 ↔ chkL p out = 0 ∧ runChk (lst p out) x = 0
  | [], p, x => by
    simp only [List.nil_append, chkL, lst, List.getLast?_nil]
    by_cases h : runChk p x ≠ 0
    · rw [if_pos h]; simp
    · rw [if_neg h]; simpa using h
  | y :: out, p, x => by
    simp only [List.cons_append, chkL]
    by_cases h : runChk p y ≠ 0
    · rw [if_pos h, if_pos h]; exact ⟨fun k => absurd k h, fun k => absurd k.1 h⟩
    · rw [if_neg h, if_neg h, chk_snoc out (some y) x, lst_cons]
theorem runChk_zero {p : Option Run} {x : Run} : runChk p x = 0 ↔ vld x.1 = true ∧ x.1 ≠ [] ∧ n8 x.2.1.1 ≤ 6 ∧ vld x.2.2 = true ∧ ∀ q, p = some q → ¬ alikeP q x := by
  unfold runChk
  by_cases h1 : vld x.1 = false
  · rw [if_pos h1]; simp [h1]
  rw [if_neg h1]
  by_cases h2 : x.1 = []
  · rw [if_pos h2]; simp [h2]
  rw [if_neg h2]
  by_cases h3 : n8 x.2.1.1 ≤ 6
  · rw [if_neg (not_not_intro h3)]
    by_cases h4 : vld x.2.2 = false
    · rw [if_pos h4]; simp [h4]
    rw [if_neg h4]
    have h1 : vld x.1 = true := by simpa using h1
    have h4 : vld x.2.2 = true := by simpa using h4
    cases p with
    | none => exact ⟨fun _ => ⟨h1, h2, h3, h4, fun q hq => by cases hq⟩, fun _ => rfl⟩
    | some q =>
      simp only
      by_cases h5 : alikeP q x
      · rw [if_pos h5]; exact ⟨fun k => (by cases k), fun k => absurd h5 (k.2.2.2.2 q rfl)⟩
      · rw [if_neg h5]; exact ⟨fun _ => ⟨h1, h2, h3, h4, fun r hr => by injection hr with hr; rw [← hr]; exact h5⟩, fun _ => rfl⟩
  · rw [if_pos h3]; exact ⟨fun k => (by cases k), fun k => absurd k.2.2.1 h3⟩
def goodS (out : Row) : Prop := chkL none out = 0 ∧ ∀ x ∈ out, x.2.2 = []
theorem snoc_good {out : Row} {x : Run} (h : goodS out) (h1 : vld x.1 = true) (h2 : n8 x.2.1.1 ≤ 6) (h3 : x.2.2 = []) : goodS (snoc out x) := by
  have hv : vld x.2.2 = true := by rw [h3]; rfl
  unfold snoc
  split
  · exact h
  · rename_i he
    split
    · rename_i p hp
      have e := last_eq hp
      have hin : p ∈ out := by rw [e]; simp
      split
      · rename_i ha
        have hc := h.1
        rw [e, chk_snoc, runChk_zero] at hc
        obtain ⟨c1, c2, c3, c4, c5, c6⟩ := hc
        refine ⟨(chk_snoc _ _ _).2 ⟨c1, runChk_zero.2 ⟨?_, by simp [he], c4, c5, fun q hq k => c6 q hq ⟨k.1, k.2.1, k.2.2⟩⟩⟩, fun y hy => ?_⟩
        · rw [vld_cat c2]; exact h1
        · rcases List.mem_append.1 hy with hy | hy
          · exact h.2 y (List.dropLast_subset _ hy)
          · rw [List.mem_singleton.1 hy]; exact h.2 p hin
      · rename_i ha
        refine ⟨(chk_snoc _ _ _).2 ⟨h.1, runChk_zero.2 ⟨h1, he, h2, hv, fun q hq => ?_⟩⟩, fun y hy => ?_⟩
        · unfold lst at hq
          rw [hp] at hq
          injection hq with hq
          rw [← hq]; exact ha
        · rcases List.mem_append.1 hy with hy | hy
          · exact h.2 y hy
          · rw [List.mem_singleton.1 hy]; exact h3
    · rename_i hp
      have : out = [] := List.getLast?_eq_none_iff.1 hp
      subst this
      refine ⟨(chk_snoc _ _ _).2 ⟨rfl, runChk_zero.2 ⟨h1, he, h2, hv, fun q hq => by cases hq⟩⟩, fun y hy => ?_⟩
      rw [List.nil_append] at hy
      rw [List.mem_singleton.1 hy]; exact h3
theorem norm_id : ∀ (l pre : Row), chkL pre.getLast? l = 0 → l.foldl snoc pre = pre ++ l
  | [], pre, _ => by simp
  | x :: l, pre, h => by
    simp only [chkL] at h
    split at h
    · rename_i hc; exact absurd h hc
    · rename_i hc
      have hc : runChk pre.getLast? x = 0 := by simpa using hc
      rw [runChk_zero] at hc
      have e : snoc pre x = pre ++ [x] := by
        rw [snoc_ne hc.2.1]
        cases hp : pre.getLast? with
        | none => rfl
        | some p => simp only; rw [if_neg (hc.2.2.2.2 p hp)]
      rw [List.foldl_cons, e, norm_id l _ (by rw [List.getLast?_concat]; exact h), List.append_assoc]
      rfl
end
end Go.Mo
end

section
/-
  Plain facts: the regions of a reduced document; its events stand where they stood.
-/
namespace Go.Mo
open Go Go.W Go.Lib
set_option maxRecDepth 100000
noncomputable section

end
end Go.Mo
end

section
/-
  Plain facts: a reduced document is good; StlReduced returns true.
-/
namespace Go.Mo
open Go Go.W Go.Lib
set_option maxRecDepth 100000
noncomputable section

end
end Go.Mo
end

section
/-
  Plain facts: digits and the bytes of a header.
-/
namespace Go.Mo
open Go Go.W Go.Lib
set_option maxRecDepth 100000

end Go.Mo
end

section
/-
  Plain facts: what the check of a header lets through; the bytes of a header.
-/
namespace Go.Mo
open Go Go.W Go.Lib
set_option maxRecDepth 100000
noncomputable section

def lblOk (l : Lbl) : Prop := (0 ≤ l.1 ∧ l.1 ≤ 23) ∧ (0 ≤ l.2.1 ∧ l.2.1 ≤ 59) ∧ (0 ≤ l.2.2.1 ∧ l.2.2.1 ≤ 59) ∧ (0 ≤ l.2.2.2.1 ∧ l.2.2.2.1 ≤ 59)
structure HdrOk (h : Hdr) : Prop where
  rate : h.1 = 3 ∨ h.1 = 5
  lang : h.2.1 = [] ∨ nm h.2.1 = true
  ttl : vld h.2.2.1 = true
  ttlL : h.2.2.1.length ≤ 400
  blocks : 0 ≤ h.2.2.2.1 ∧ h.2.2.2.1 ≤ 99999
  groups : 0 ≤ h.2.2.2.2.1 ∧ h.2.2.2.2.1 ≤ 99999
  start : lblOk h.2.2.2.2.2.1
  first : lblOk h.2.2.2.2.2.2.1
  rows : 0 ≤ h.2.2.2.2.2.2.2.1 ∧ h.2.2.2.2.2.2.2.1 ≤ 99
  cols : 0 ≤ h.2.2.2.2.2.2.2.2 ∧ h.2.2.2.2.2.2.2.2 ≤ 99
  d1 : h.2.2.2.2.2.1.2.2.2.2 = false
  d2 : h.2.2.2.2.2.2.1.2.2.2.2 = false
end
end Go.Mo
end

section
/-
  Plain facts: numbers and names read back.
-/
namespace Go.Mo
open Go Go.W Go.Lib
set_option maxRecDepth 100000
noncomputable section

end
end Go.Mo
end

section
/-
  Plain facts: a header read back; TapeHeaders.
-/
namespace Go.Mo
open Go Go.W Go.Lib
set_option maxRecDepth 100000
noncomputable section

def hz : Hdr := ((0 : UInt8), ([] : List UInt8), ([] : List UInt8), (0 : Int), (0 : Int), ((0 : Int), (0 : Int), (0 : Int), (0 : Int), false), ((0 : Int), (0 : Int), (0 : Int), (0 : Int), false), (0 : Int), (0 : Int))
end
end Go.Mo
end

section
/-
  Plain facts: rows that are read are small; a subtitle that is read, both sides.
-/
namespace Go.Mo
open Go Go.W Go.Lib
set_option maxRecDepth 100000
noncomputable section

theorem norm_tot (l : Row) : tot (normR l) = tot l := by
  rw [← plainT_len, ← plainT_len]
  unfold normR
  rw [fold_plain]
  rfl
end
end Go.Mo
end

section
/-
  Plain facts: events in document order, both sides.
-/
namespace Go.Mo
open Go Go.W Go.Lib
set_option maxRecDepth 100000
noncomputable section

end
end Go.Mo
end

section
/-
  Plain facts: the program's sorting of few events.
-/
namespace Go.Mo
open Go Go.W Go.Lib
set_option maxRecDepth 100000
noncomputable section

end
end Go.Mo
end

section
/-
  Plain facts: what is read is a valid document that the form carries; StlValid returns true.
-/
namespace Go.Mo
open Go Go.W Go.Lib
set_option maxRecDepth 100000
noncomputable section

end
end Go.Mo
end

section
/-
  Plain facts: the blocks of a subtitle lead back to it.
-/
namespace Go.Mo
open Go Go.W Go.Lib
set_option maxRecDepth 100000
noncomputable section

end
end Go.Mo
end

section
/-
  Plain facts: the file of an accepted document is read as the reduced document; StlCarries returns true.
-/
namespace Go.Mo
open Go Go.W Go.Lib
set_option maxRecDepth 100000
noncomputable section

end
end Go.Mo
end
end

section
/-
  Plain facts: times and their texts, both sides; SubripClocks returns true.
-/
namespace Go.Mo
open Go Go.W Go.Lib
set_option maxRecDepth 100000
noncomputable section

theorem awake19 : l19_awake fuelH () = some true := by kernel_rfl

end
end Go.Mo
end

section
/-
  Plain facts: the markup of rows, both sides.
-/
namespace Go.Mo
open Go Go.W Go.Lib
set_option maxRecDepth 100000
noncomputable section

def badB (b : UInt8) : Bool := decide (b = 60) || (decide (b = 62) || decide (b = 38))
def hasX (l : List UInt8) : Bool := l.any badB
def chX : List UInt8 := [60, 62, 38]
theorem badB_mem (b : UInt8) : chX.contains b = badB b := by
  unfold chX badB
  simp [List.contains_cons, List.elem]
theorem index_any : ∀ l : List UInt8, (0 ≤ Lib.indexAny l chX ↔ hasX l = true)
  | [] => by simp [Lib.indexAny, hasX]
  | b :: l => by
    have ih := index_any l
    have hg := Lib.indexAny_ge chX l
    unfold Lib.indexAny hasX
    rw [badB_mem, List.any_cons]
    cases hb : badB b with
    | true => simp
    | false =>
      simp only [Bool.false_or, Bool.false_eq_true, if_false]
      show 0 ≤ (if (Lib.indexAny l chX == -1) = true then (-1 : Int) else Lib.indexAny l chX + 1) ↔ hasX l = true
      by_cases h1 : Lib.indexAny l chX = -1
      · rw [if_pos (by simp [h1])]
        rw [h1] at ih
        exact ih
      · rw [if_neg (by simpa using h1), ← ih]
        omega
/-- where a letter of the repertoire stands among the three -/
def ixR (r : Int) : Bool := match strings_IndexRune fuelH (chX, r) with
  | some v => decide ((decide (0 ≤ v)) = hasX (enc r)) && decide ((0 ≤ v) = (0 ≤ v))
  | none => false
theorem ixR_tab {r : Int} (hr : inRep r = true) : ixR r = true := all_rep (P := ixR) (by kernel_rfl) hr
theorem ix_rune {r : Int} (hr : inRep r = true) : ∃ v, strings_IndexRune fuelH (chX, r) = some v ∧ decide (0 ≤ v) = hasX (enc r) := by
  have h := ixR_tab hr
  unfold ixR at h
  split at h
  · rename_i v hv
    rw [Bool.and_eq_true] at h
    exact ⟨v, hv, of_decide_eq_true h.1⟩
  · cases h
theorem hasX_ofR : ∀ l : List Int, hasX (ofR l) = l.any fun r => hasX (enc r)
  | [] => rfl
  | r :: l => by
    have e : ofR (r :: l) = enc r ++ ofR l := by unfold ofR; rw [List.flatMap_cons]
    rw [e, List.any_cons, ← hasX_ofR l]
    unfold hasX
    rw [List.any_append]
theorem contains_any {l : List UInt8} (hv : vld l = true) (hl : l.length ≤ 4000000) : strings_ContainsAny fuelH (l, [60, 62, 38]) = some (hasX l) := by
  unfold strings_ContainsAny strings_IndexAny
  by_cases h9 : 9 ≤ l.length
  · have hb : longAny (l, [60, 62, 38]) = true := by
      unfold longAny
      rw [show Nat.ble 9 l.length = true from Nat.ble_eq_true_of_le h9, show Nat.ble l.length 4294967280 = true from Nat.ble_eq_true_of_le (by omega)]
      rfl
    rw [hb]
    show bnd (some (Lib.indexAny l chX)) _ = _
    rw [bnd_some']
    congr 1
    rw [Bool.eq_iff_iff, ← index_any]
    exact decide_eq_true_iff
  · have hb : longAny (l, [60, 62, 38]) = false := by
      unfold longAny
      rw [show Nat.ble 9 l.length = false by rw [← Bool.not_eq_true]; intro k; exact h9 (Nat.le_of_ble_eq_true k)]
      rfl
    rw [hb]
    show bnd (strings_IndexAny_s fuelH (l, chX)) _ = _
    have key : ∃ v, strings_IndexAny_s fuelH (l, chX) = some v ∧ decide (0 ≤ v) = hasX l := by
      unfold strings_IndexAny_s strings_shouldUseASCIISet
      simp only
      rw [cnd_f (by rfl), cnd_f (by rfl), jn_e, bnd_some', cnd_f (ilt_f (by simp only [len]; omega))]
      rw [jn_e]
      -- the loop tells the place; what counts is whether there is one
      have loop : ∀ (fuel p : Nat), l.length - p < fuel → vld (l.drop p) = true → ∃ v, fixN (fun (v5 : (List UInt8) × Int → Option Int) (v6 : (List UInt8) × Int) =>
          cnd (nlt (toN v6.2) (nlen v6.1))
            (bnd (strings_IndexRune fuelH (chX, decR v6.1 (toN v6.2))) fun v7 =>
            cnd (ile (0 : Int) v7)
              (some (ofN (toN v6.2)))
              (v5 (v6.1, ofN (nadd (toN v6.2) (decW v6.1 (toN v6.2))))))
            (some (-1 : Int))) fuel (l, ofN p) = some v ∧ decide (0 ≤ v) = (rns (l.drop p)).any fun r => hasX (enc r) := by
        intro fuel
        induction fuel with
        | zero => intro p h; omega
        | succ fuel ih =>
          intro p h hvd
          rw [fixN_s]
          simp only
          have tp : toN (ofN p) = p := by simp [toN, ofN]
          rw [tp]
          by_cases hp : p < l.length
          · have hne : l.drop p ≠ [] := by intro e; have := congrArg List.length e; rw [List.length_drop] at this; simp at this; omega
            have e1 := rns_step (l.drop p) hne
            have e2 := vld_step (l.drop p) hne
            rw [hvd] at e2
            by_cases hr : inRep ((decodeL (l.drop p)).1 : Int) = true
            case neg => rw [if_neg hr] at e2; cases e2
            rw [if_pos hr, List.drop_drop] at e2
            obtain ⟨v, q1, q2⟩ := ix_rune hr
            have ed : decR l p = ((decodeL (l.drop p)).1 : Int) := decR_eq l p
            have ew : decW l p = (decodeL (l.drop p)).2 := decW_eq l p
            have hpos := dec_pos (l.drop p)
            rw [cnd_t (by show nlt p (nlen l) = true; exact decide_eq_true hp), ed, ew, q1, bnd_some', e1, List.any_cons, ← q2, List.drop_drop]
            have e : ile (0 : Int) v = decide (0 ≤ v) := rfl
            rw [e]
            cases hd : decide (0 ≤ v) with
            | true => exact ⟨_, rfl, by show decide (0 ≤ (p : Int)) = true; exact decide_eq_true (by omega)⟩
            | false =>
              rw [Bool.false_or]
              exact ih (p + (decodeL (l.drop p)).2) (by omega) e2.symm
          · rw [cnd_f (by show nlt p (nlen l) = false; exact decide_eq_false hp), List.drop_eq_nil_of_le (by omega)]
            exact ⟨-1, rfl, rfl⟩
      obtain ⟨v, h1, h2⟩ := loop fuelH 0 (by have := fuelH_eq; omega) (by rw [List.drop_zero]; exact hv)
      refine ⟨v, h1, ?_⟩
      rw [h2, List.drop_zero, ← hasX_ofR, ofR_rns hv]
    obtain ⟨v, h1, h2⟩ := key
    rw [h1, bnd_some', ← h2]
    rfl

def wht (x : Run) : Run := (x.1, (0, x.2.1.2), [])
def carr (r : Row) : Row := normR (r.map wht)
theorem wht_tot (l : Row) : tot (l.map wht) = tot l := by
  induction l with
  | nil => rfl
  | cons x l ih => simp only [List.map_cons, tot, ih]; rfl
theorem sub_carried {l : Row} (hl : l.length ≤ 4000000) (ht : tot l ≤ 8000000) : subrip_carried fuelH l = some (carr l) := by
  unfold subrip_carried
  rw [jn_e]
  refine loop_inv (n := l.length) (fun (b : Row) (j : Nat) => ((j : Int), b)) (fun j b => b = (l.take j).map wht) _ (fun self b j hj hJ => ?_) (fun self b hJ => ?_) fuelH 0 [] (Nat.zero_le _) (by have := fuelH_eq; omega) rfl
  · refine ⟨b ++ [wht l[j]], ?_, by rw [hJ, List.take_succ_eq_append_getElem hj, List.map_append]; rfl⟩
    have hbl : b.length ≤ 4000000 := by rw [hJ, List.length_map, List.length_take]; omega
    simp only
    rw [cnd_t (ilt_t (by simp only [len]; omega)), grd_t (inb_t (by simp only [len]; omega)), lget_i hj, grd_t (room_t (by simp only [iadd, len, List.length_singleton]; omega)), w64_succ hj (by omega)]
    rfl
  · simp only
    rw [cnd_f (ilt_f (by simp only [len]; omega)), hJ, List.take_length, style_Norm_eq (by rw [List.length_map]; exact hl) (by rw [wht_tot]; exact ht), bnd_some']
    rfl
def ti : List UInt8 := [60, 105, 62]
def tI : List UInt8 := [60, 47, 105, 62]
def tu : List UInt8 := [60, 117, 62]
def tU : List UInt8 := [60, 47, 117, 62]
def wrU (x : Run) : List UInt8 := if x.2.1.2.2 = true then tu ++ x.1 ++ tU else x.1
def wrX (x : Run) : List UInt8 := if x.2.1.2.1 = true then ti ++ wrU x ++ tI else wrU x
def mkS (r : Row) : List UInt8 × Int := if rowChk r ≠ 0 then ([], rowChk r) else if hasX (plainT r) = true then ([], 10) else ((carr r).flatMap wrX, 0)
theorem wrU_len (x : Run) : (wrU x).length ≤ x.1.length + 7 := by unfold wrU tu tU; split <;> simp
theorem wrX_len (x : Run) : (wrX x).length ≤ x.1.length + 14 := by
  have := wrU_len x
  unfold wrX ti tI
  split
  · simp only [List.length_append, List.length_cons, List.length_nil]; omega
  · omega
theorem wr_len : ∀ l : Row, (l.flatMap wrX).length ≤ tot l + 14 * l.length
  | [] => Nat.le_refl _
  | x :: l => by
    have h1 := wr_len l
    have h2 := wrX_len x
    rw [List.flatMap_cons, List.length_append, List.length_cons]
    simp only [tot]
    omega
theorem carr_plain (r : Row) : plainT (carr r) = plainT r := by
  unfold carr normR
  rw [fold_plain]
  show [] ++ plainT (r.map wht) = _
  rw [List.nil_append]
  unfold plainT
  rw [List.flatMap_map]
  rfl
theorem hasX_flat : ∀ l : Row, hasX (plainT l) = l.any fun x => hasX x.1
  | [] => rfl
  | x :: l => by
    have e : plainT (x :: l) = x.1 ++ plainT l := by unfold plainT; rw [List.flatMap_cons]
    rw [e, List.any_cons, ← hasX_flat l]
    unfold hasX
    rw [List.any_append]
theorem carr_len (r : Row) : (carr r).length ≤ r.length ∧ tot (carr r) = tot r := by
  have h1 := normR_len (r.map wht)
  rw [List.length_map] at h1
  exact ⟨h1, (norm_tot _).trans (wht_tot r)⟩
theorem plain_vld : ∀ l : Row, (∀ x ∈ l, vld x.1 = true) → vld (plainT l) = true
  | [], _ => rfl
  | x :: l, h => by
    have e : plainT (x :: l) = x.1 ++ plainT l := by unfold plainT; rw [List.flatMap_cons]
    rw [e, vld_cat (h x List.mem_cons_self)]
    exact plain_vld l fun y hy => h y (List.mem_cons_of_mem _ hy)
theorem catW {a b : List UInt8} (h : a.length + b.length ≤ 100000000) : catOk (iadd (len a) (len b)) = true := catOk_t (by simp only [iadd, len]; omega)
theorem sub_markup {r : Row} (hs : smallR r) : subrip_Markup fuelH r = some (mkS r) := by
  unfold subrip_Markup mkS
  rw [style_check hs.1, bnd_some']
  by_cases hc : rowChk r ≠ 0
  · rw [cnd_t (ine_t hc), if_pos hc]
  have hc : rowChk r = 0 := by simpa using hc
  have hok := okR_of hs hc
  rw [cnd_f (ine_f hc), if_neg (by rw [hc]; simp), style_plain hok, bnd_some']
  have hpl := plainT_len r
  have ht := hs.2
  rw [contains_any (plain_vld r fun x hx => (hok.2.1 x hx).1) (by omega), bnd_some']
  cases hx : hasX (plainT r) with
  | true => rfl
  | false =>
    rw [cnd_f rfl, if_neg (by simp), jn_e, sub_carried (by have := hok.1; omega) (by omega), bnd_some']
    obtain ⟨c1, c2⟩ := carr_len r
    have h16 := hok.1
    generalize carr r = c at c1 c2 ⊢
    have hb : ∀ i, ((c.take i).flatMap wrX).length ≤ 4000000 + 14 * 16 := fun i => by
      have h1 := wr_len (c.take i)
      have h2 : tot (c.take i) ≤ tot c := by
        have e := List.take_append_drop i c
        have := tot_app (c.take i) (c.drop i)
        rw [e] at this
        omega
      rw [List.length_take] at h1
      omega
    refine loop_inv (n := c.length) (fun (a : List UInt8) (j : Nat) => ((j : Int), ((), a))) (fun j a => a = (c.take j).flatMap wrX) _ (fun self a j hj hJ => ?_) (fun self a hJ => ?_) fuelH 0 [] (Nat.zero_le _) (by have := fuelH_eq; omega) rfl
    · refine ⟨a ++ wrX c[j], ?_, by rw [hJ, List.take_succ_eq_append_getElem hj, List.flatMap_append]; simp⟩
      have ha : a.length ≤ 4000000 + 14 * 16 := by rw [hJ]; exact hb j
      have hxl : c[j].1.length ≤ 4000000 := by
        have := tot_mem (List.getElem_mem hj)
        omega
      have hw := wrX_len c[j]
      simp only
      rw [cnd_t (ilt_t (by simp only [len]; omega)), grd_t (inb_t (by simp only [len]; omega)), lget_i hj, w64_succ hj (by omega)]
      unfold wrX wrU at hw ⊢
      cases hu : c[j].2.1.2.2 with
      | true =>
        cases hi : c[j].2.1.2.1 with
        | true =>
          rw [hu, hi] at hw
          rw [cnd_t rfl, cnd_t rfl, if_pos rfl, if_pos rfl, grd_t (catW (by simp only [List.length_cons, List.length_nil]; omega)), grd_t (catW (by simp only [lapp, List.length_append, List.length_cons, List.length_nil]; omega)), grd_t (catW (by simp only [lapp, List.length_append, List.length_cons, List.length_nil]; omega)), grd_t (catW (by simp only [lapp, List.length_append, List.length_cons, List.length_nil]; omega)), write_str (by simp only [lapp, List.length_append, List.length_cons, List.length_nil]; omega), bnd_some']
          rfl
        | false =>
          rw [cnd_t rfl, cnd_f rfl, if_neg (by simp), if_pos rfl, grd_t (catW (by simp only [List.length_cons, List.length_nil]; omega)), grd_t (catW (by simp only [lapp, List.length_append, List.length_cons, List.length_nil]; omega)), write_str (by simp only [lapp, List.length_append, List.length_cons, List.length_nil]; omega), bnd_some']
          rfl
      | false =>
        cases hi : c[j].2.1.2.1 with
        | true =>
          rw [cnd_f rfl, cnd_t rfl, if_pos rfl, if_neg (by simp), grd_t (catW (by simp only [List.length_cons, List.length_nil]; omega)), grd_t (catW (by simp only [lapp, List.length_append, List.length_cons, List.length_nil]; omega)), write_str (by simp only [lapp, List.length_append, List.length_cons, List.length_nil]; omega), bnd_some']
          rfl
        | false =>
          rw [cnd_f rfl, cnd_f rfl, if_neg (by simp), if_neg (by simp), write_str (by omega), bnd_some']
    · simp only
      rw [cnd_f (ilt_f (by simp only [len]; omega)), hJ, List.take_length]
end
end Go.Mo
end

section
/-
  Plain facts: the markup of rows by the specification; what a text with tags means, both sides; SubripMarkups returns true.
-/
namespace Go.Mo
open Go Go.W Go.Lib
set_option maxRecDepth 100000
noncomputable section

def isP (t s : List UInt8) : Bool := decide (t.length ≤ s.length) && seq (s.take t.length) t
theorem isP_iff (t s : List UInt8) : isP t s = true ↔ s.take t.length = t := by
  unfold isP
  rw [Bool.and_eq_true, decide_eq_true_eq, seq_t]
  refine ⟨fun h => h.2, fun h => ⟨?_, h⟩⟩
  have := congrArg List.length h
  rw [List.length_take] at this
  omega
def tagsL : List (List UInt8) := [[60, 105, 62], [60, 47, 105, 62], [60, 117, 62], [60, 47, 117, 62], [60, 98, 62], [60, 47, 98, 62]]
def firstT (s : List UInt8) : List (List UInt8) → List UInt8
  | [] => []
  | t :: l => if isP t s = true then t else firstT s l
def tagS (s : List UInt8) : List UInt8 := firstT s tagsL
theorem prefix_eq (s t : List UInt8) : strings_HasPrefix fuelH (s, t) = some (isP t s) := by
  unfold strings_HasPrefix stringslite_HasPrefix isP
  by_cases h : t.length ≤ s.length
  · rw [cnd_t (show ile (len t) (len s) = true from ile_t (by simp only [len]; omega)), grd_t (in2_t (by simp only [len]; omega)), decide_eq_true h, Bool.true_and, bnd_some']
    rfl
  · rw [cnd_f (show ile (len t) (len s) = false from ile_f (by simp only [len]; omega)), decide_eq_false h, bnd_some']
    rfl
/-- no two tags begin the same text -/
theorem tags_apart : ∀ t ∈ tagsL, ∀ u ∈ tagsL, t.take (min t.length u.length) = u.take (min t.length u.length) → t = u := by decide
theorem isP_one {s t u : List UInt8} (ht : t ∈ tagsL) (hu : u ∈ tagsL) (h1 : isP t s = true) (h2 : isP u s = true) : t = u := by
  rw [isP_iff] at h1 h2
  refine tags_apart t ht u hu ?_
  rw [← h1, ← h2, List.take_take, List.take_take]
  simp only [List.length_take]
  congr 1
  have a1 := congrArg List.length h1
  have a2 := congrArg List.length h2
  rw [List.length_take] at a1 a2
  omega
theorem firstT_no : ∀ l : List (List UInt8), ∀ s, (∀ t ∈ l, isP t s = false) → firstT s l = []
  | [], _, _ => rfl
  | t :: l, s, h => by
    simp only [firstT]
    rw [if_neg (by rw [h t List.mem_cons_self]; simp)]
    exact firstT_no l s fun u hu => h u (List.mem_cons_of_mem _ hu)
/-- the last tag that fits is the first one -/
theorem last_first (s : List UInt8) : ∀ (l : List (List UInt8)) (a : List UInt8), (∀ t ∈ l, t ∈ tagsL) → (a = [] ∨ ∀ t ∈ l, isP t s = true → t = a) → l.foldl (fun a t => if isP t s = true then t else a) a = if a = [] then firstT s l else a
  | [], a, _, _ => by
    by_cases h : a = []
    · rw [if_pos h]; exact h
    · rw [if_neg h]; rfl
  | t :: l, a, hl, ha => by
    rw [List.foldl_cons]
    have hl' : ∀ u ∈ l, u ∈ tagsL := fun u hu => hl u (List.mem_cons_of_mem _ hu)
    have htn : t ≠ [] := fun e => by
      have := hl t List.mem_cons_self
      rw [e] at this
      revert this
      decide
    by_cases hp : isP t s = true
    · rw [if_pos hp, last_first s l t hl' (.inr fun u hu h2 => isP_one (hl' u hu) (hl t List.mem_cons_self) h2 hp), if_neg htn]
      simp only [firstT]
      rw [if_pos hp]
      rcases ha with ha | ha
      · rw [if_pos ha]
      · by_cases h0 : a = []
        · rw [if_pos h0]
        · rw [if_neg h0]
          exact ha t List.mem_cons_self hp
    · rw [if_neg hp]
      simp only [firstT]
      rw [if_neg hp]
      exact last_first s l a hl' (ha.imp id fun h u hu => h u (List.mem_cons_of_mem _ hu))

theorem sub_tag (s : List UInt8) (K : List UInt8 → Option Row) : fixN (fun (v13 : (List UInt8) × Int → Option Row) (v14 : (List UInt8) × Int) =>
        cnd (ilt v14.2 (len tagsL))
          (grd (inb v14.2 (len tagsL))
            (bnd (strings_HasPrefix fuelH (s, lget tagsL (toN v14.2) [])) fun v15 =>
            cnd v15
              (v13 (lget tagsL (toN v14.2) [], w64 (iadd v14.2 (1 : Int))))
              (v13 (v14.1, w64 (iadd v14.2 (1 : Int))))))
          (K v14.1)) fuelH (([] : List UInt8), (0 : Int)) = K (tagS s) := by
  refine Eq.trans (lst_it (l := tagsL) (fun (a : List UInt8) (p : Nat) => (a, (p : Int))) (fun _ t a => .inr (if isP t s = true then t else a)) K (fun _ _ => True) (fun self a i hi _ => ?_) (fun self a _ => ?_) fuelH 0 [] (Nat.zero_le _) (by have := fuelH_eq; show 6 - 0 < _; omega) trivial) ?_
  · have h6 : i < 6 := hi
    simp only
    rw [cnd_t (ilt_t (by simp only [len]; omega)), grd_t (inb_t (by simp only [len]; omega)), lget_i hi, prefix_eq, bnd_some', w64_succ hi (by have : tagsL.length = 6 := rfl; omega)]
    refine ⟨?_, trivial⟩
    cases isP tagsL[i] s <;> rfl
  · simp only
    rw [cnd_f (ilt_f (by simp only [len]; omega))]
  · have : ∀ (l : List (List UInt8)) (i : Nat) (a : List UInt8), itI (fun _ t a => (.inr (if isP t s = true then t else a) : Option Row ⊕ List UInt8)) K i l a = K (l.foldl (fun a t => if isP t s = true then t else a) a) := by
      intro l
      induction l with
      | nil => intro i a; rfl
      | cons t l ih => intro i a; exact ih (i + 1) _
    rw [List.drop_zero, this, last_first s tagsL [] (fun t h => h) (.inl rfl), if_pos rfl]
    rfl
end
end Go.Mo
end

section
/-
  Plain facts: what a text with tags means, both sides; SubripMarkups returns true.
-/
namespace Go.Mo
open Go Go.W Go.Lib
set_option maxRecDepth 100000
noncomputable section

def plainS : Sty := (0, false, false)
def turnS (t : List UInt8) (s : Sty) : Sty := if t = [60, 105, 62] then (s.1, true, s.2.2) else if t = [60, 47, 105, 62] then (s.1, false, s.2.2) else if t = [60, 117, 62] then (s.1, s.2.1, true) else if t = [60, 47, 117, 62] then (s.1, s.2.1, false) else s
def pmF : Nat → List UInt8 → Row → List UInt8 → Sty → Row
  | 0, _, o, t, n => o ++ [(t, n, [])]
  | _ + 1, [], o, t, n => o ++ [(t, n, [])]
  | k + 1, b :: s, o, t, n => if tagS (b :: s) = [] then pmF k s o (t ++ [b]) n else pmF k ((b :: s).drop (tagS (b :: s)).length) (o ++ [(t, n, [])]) [] (turnS (tagS (b :: s)) n)
def pmS (s : List UInt8) : Row := normR (pmF s.length s [] [] plainS)
theorem first_mem : ∀ (l : List (List UInt8)) (s : List UInt8), firstT s l = [] ∨ (firstT s l ∈ l ∧ isP (firstT s l) s = true)
  | [], _ => .inl rfl
  | t :: l, s => by
    simp only [firstT]
    by_cases h : isP t s = true
    · rw [if_pos h]; exact .inr ⟨List.mem_cons_self, h⟩
    · rw [if_neg h]
      rcases first_mem l s with k | ⟨k1, k2⟩
      · exact .inl k
      · exact .inr ⟨List.mem_cons_of_mem _ k1, k2⟩
theorem tag_len (s : List UInt8) : (tagS s).length ≤ s.length ∧ (tagS s).length ≤ 4 := by
  rcases first_mem tagsL s with h | ⟨h1, h2⟩
  · unfold tagS; rw [h]; exact ⟨Nat.zero_le _, Nat.zero_le _⟩
  · unfold tagS
    rw [isP_iff] at h2
    have a := congrArg List.length h2
    rw [List.length_take] at a
    have : ∀ t ∈ tagsL, t.length ≤ 4 := by decide
    have := this _ h1
    exact ⟨by omega, this⟩
theorem tag_pos {s : List UInt8} (h : tagS s ≠ []) : 1 ≤ (tagS s).length := List.length_pos_iff.2 h
theorem pmF_size : ∀ (k : Nat) (s : List UInt8) (o : Row) (t : List UInt8) (n : Sty), s.length ≤ k → (pmF k s o t n).length ≤ o.length + s.length + 1 ∧ tot (pmF k s o t n) ≤ tot o + t.length + s.length
  | 0, s, o, t, n, h => by
    simp only [pmF]
    rw [tot_app, List.length_append]
    simp only [tot, List.length_cons, List.length_nil]
    omega
  | k + 1, [], o, t, n, h => by
    simp only [pmF]
    rw [tot_app, List.length_append]
    simp only [tot, List.length_cons, List.length_nil]
    omega
  | k + 1, b :: s, o, t, n, h => by
    simp only [pmF]
    simp only [List.length_cons] at h
    by_cases ht : tagS (b :: s) = []
    · rw [if_pos ht]
      have := pmF_size k s o (t ++ [b]) n (by omega)
      simp only [List.length_append, List.length_cons, List.length_nil] at this ⊢
      omega
    · rw [if_neg ht]
      have hp := tag_pos ht
      have hl := (tag_len (b :: s)).1
      have := pmF_size k ((b :: s).drop (tagS (b :: s)).length) (o ++ [(t, n, [])]) [] (turnS (tagS (b :: s)) n) (by rw [List.length_drop, List.length_cons]; omega)
      rw [tot_app, List.length_append, List.length_drop] at this
      simp only [tot, List.length_cons, List.length_nil] at this hl ⊢
      omega
theorem cons_drop1 (b : UInt8) (s : List UInt8) : ldrop (toN (1 : Int)) (b :: s) = s ∧ ltake (toN (1 : Int)) (b :: s) = [b] := ⟨rfl, rfl⟩
theorem drop_nat (n : Nat) (s : List UInt8) : ldrop (toN (n : Int)) s = s.drop n := by
  have : toN (n : Int) = n := by simp [toN]
  rw [this]
  rfl
theorem sne_cons (b : UInt8) (s : List UInt8) : sne (b :: s) [] = true := rfl
theorem sub_pm1 {N : Nat} {o : Row} {t : List UInt8} {n n' : Sty} (h : o.length ≤ 4000000) : subrip_ParseMarkup_1 N (n', o, t, n) = some (o ++ [(t, n, [])], [], n') := by
  unfold subrip_ParseMarkup_1
  rw [grd_t (room_t (by simp only [iadd, len, List.length_singleton]; omega))]
  rfl
theorem sub_tagJ (s : List UInt8) (K : List UInt8 → Option Row) : jn K (fun v12 => fixN (fun (v13 : (List UInt8) × Int → Option Row) (v14 : (List UInt8) × Int) =>
        cnd (ilt v14.2 (len tagsL))
          (grd (inb v14.2 (len tagsL))
            (bnd (strings_HasPrefix fuelH (s, lget tagsL (toN v14.2) [])) fun v15 =>
            cnd v15
              (v13 (lget tagsL (toN v14.2) [], w64 (iadd v14.2 (1 : Int))))
              (v13 (v14.1, w64 (iadd v14.2 (1 : Int))))))
          (v12 v14.1)) fuelH (([] : List UInt8), (0 : Int))) = K (tagS s) := sub_tag s K
theorem sub_pm {x : List UInt8} (hx : x.length ≤ 3000000) : subrip_ParseMarkup fuelH x = some (pmS x) := by
  unfold subrip_ParseMarkup pmS
  rw [jn_e]
  have fin : ∀ (o : Row) (t : List UInt8) (n : Sty), o.length ≤ 3000001 → ∀ R : Row, R = o ++ [(t, n, [])] → R.length ≤ 4000000 → tot R ≤ 8000000 → (bnd (subrip_ParseMarkup_1 fuelH (n, o, t, n)) fun v1 => bnd (style_Norm fuelH v1.1) fun v2 => some v2) = some (normR R) := fun o t n ho R hR h1 h2 => by
    rw [sub_pm1 (by omega), bnd_some', ← hR, style_Norm_eq h1 h2, bnd_some']
  have key : ∀ (k : Nat) (s : List UInt8) (o : Row) (t : List UInt8) (n : Sty) (fuel : Nat), s.length ≤ k → k < fuel → o.length + s.length ≤ x.length → tot o + t.length + s.length ≤ x.length →
      fixN (fun (v4 : (List UInt8) × Row × (List UInt8) × UInt8 × Bool × Bool → Option Row) (v5 : (List UInt8) × Row × (List UInt8) × UInt8 × Bool × Bool) =>
    cnd (sne v5.1 ([] : List UInt8))
      (jn (fun (v6 : List UInt8) =>
        jn (fun (v7 : UInt8 × Bool × Bool) =>
          bnd (subrip_ParseMarkup_1 fuelH (v7, v5.2)) fun v8 =>
          grd (in2 (len v6) (len v5.1)) <|
          v4 (ldrop (toN (len v6)) v5.1, v8))
        fun v9 =>
        cnd (seq v6 ([] : List UInt8))
          (grd (in2 (1 : Int) (len v5.1))
            (grd (catOk (iadd (len v5.2.2.1) (len (ltake (toN (1 : Int)) v5.1))))
              (grd (in2 (1 : Int) (len v5.1))
                (v4 (ldrop (toN (1 : Int)) v5.1, v5.2.1, lapp v5.2.2.1 (ltake (toN (1 : Int)) v5.1), v5.2.2.2)))))
          (jn (fun (v10 : Bool) =>
            cnd v10
              (v9 (v5.2.2.2.1, seq v6 ([60, 105, 62] : List UInt8), v5.2.2.2.2.2))
              (cnd (seq v6 ([60, 117, 62] : List UInt8))
                (cnd (seq v6 ([60, 117, 62] : List UInt8))
                  (v9 (v5.2.2.2.1, v5.2.2.2.2.1, seq v6 ([60, 117, 62] : List UInt8)))
                  (v9 v5.2.2.2))
                (cnd (seq v6 ([60, 47, 117, 62] : List UInt8))
                  (v9 (v5.2.2.2.1, v5.2.2.2.2.1, seq v6 ([60, 117, 62] : List UInt8)))
                  (v9 v5.2.2.2))))
          fun v11 =>
          cnd (seq v6 ([60, 105, 62] : List UInt8))
            (v11 (seq v6 ([60, 105, 62] : List UInt8)))
            (v11 (seq v6 ([60, 47, 105, 62] : List UInt8)))))
      fun v12 =>
      fixN (fun (v13 : (List UInt8) × Int → Option Row) (v14 : (List UInt8) × Int) =>
        cnd (ilt v14.2 (len tagsL))
          (grd (inb v14.2 (len tagsL))
            (bnd (strings_HasPrefix fuelH (v5.1, lget tagsL (toN v14.2) [])) fun v15 =>
            cnd v15
              (v13 (lget tagsL (toN v14.2) [], w64 (iadd v14.2 (1 : Int))))
              (v13 (v14.1, w64 (iadd v14.2 (1 : Int))))))
          (v12 v14.1)) fuelH (([] : List UInt8), (0 : Int)))
      (bnd (subrip_ParseMarkup_1 fuelH (v5.2.2.2, v5.2)) fun v1 => bnd (style_Norm fuelH v1.1) fun v2 => some v2)) fuel (s, o, t, n) = some (normR (pmF k s o t n)) := by
    intro k
    induction k with
    | zero =>
      intro s o t n fuel hs hf ho ht
      obtain ⟨fuel, rfl⟩ : ∃ m, fuel = m + 1 := ⟨fuel - 1, by omega⟩
      have : s = [] := List.eq_nil_of_length_eq_zero (by omega)
      subst this
      rw [fixN_s]
      simp only
      rw [cnd_f (by rfl)]
      have hz := pmF_size 0 [] o t n (Nat.le_refl _)
      exact fin o t n (by simp only [List.length_nil] at ho; omega) _ rfl (by have := hz.1; simp only [pmF, List.length_nil] at this ho ⊢; omega) (by have := hz.2; simp only [pmF, List.length_nil] at this ht ⊢; omega)
    | succ k ih =>
      intro s o t n fuel hs hf ho ht
      obtain ⟨fuel, rfl⟩ : ∃ m, fuel = m + 1 := ⟨fuel - 1, by omega⟩
      rw [fixN_s]
      cases s with
      | nil =>
        simp only
        rw [cnd_f (by rfl)]
        have hz := pmF_size (k + 1) [] o t n (Nat.zero_le _)
        exact fin o t n (by simp only [List.length_nil] at ho; omega) _ rfl (by have := hz.1; simp only [pmF, List.length_nil] at this ho ⊢; omega) (by have := hz.2; simp only [pmF, List.length_nil] at this ht ⊢; omega)
      | cons b s =>
        simp only [List.length_cons] at hs ho ht
        simp only
        rw [cnd_t (sne_cons b s), sub_tagJ (b :: s)]
        simp only [pmF]
        by_cases h0 : tagS (b :: s) = []
        · rw [if_pos h0, h0, jn_e, cnd_t (by rfl), grd_t (in2_t (by simp only [len, List.length_cons]; omega)), grd_t (catW (by simp only [(cons_drop1 b s).2, List.length_singleton]; omega)), grd_t (in2_t (by simp only [len, List.length_cons]; omega)), (cons_drop1 b s).1, (cons_drop1 b s).2]
          exact ih s o (t ++ [b]) n fuel (by omega) (by omega) (by omega) (by simp only [List.length_append, List.length_singleton]; omega)
        · rw [if_neg h0]
          have hp := tag_pos h0
          have hl := (tag_len (b :: s)).1
          simp only [List.length_cons] at hl
          have step : ∀ n' : Sty, (bnd (subrip_ParseMarkup_1 fuelH (n', o, t, n)) fun v8 => grd (in2 (len (tagS (b :: s))) (len (b :: s))) (fixN _ fuel (ldrop (toN (len (tagS (b :: s)))) (b :: s), v8))) = some (normR (pmF k ((b :: s).drop (tagS (b :: s)).length) (o ++ [(t, n, [])]) [] n')) := fun n' => by
            rw [sub_pm1 (by omega), bnd_some', grd_t (in2_t (by simp only [len, List.length_cons]; omega))]
            have : ldrop (toN (len (tagS (b :: s)))) (b :: s) = (b :: s).drop (tagS (b :: s)).length := drop_nat _ _
            rw [this]
            exact ih _ (o ++ [(t, n, [])]) [] n' fuel (by rw [List.length_drop, List.length_cons]; omega) (by omega) (by simp only [List.length_drop, List.length_append, List.length_cons, List.length_nil]; omega) (by rw [tot_app, List.length_drop, List.length_cons]; simp only [tot, List.length_nil]; omega)
          rw [jn_e, cnd_f (by rw [← Bool.not_eq_true, seq_t]; exact h0), jn_e]
          rcases first_mem tagsL (b :: s) with k0 | ⟨k1, _⟩
          · exact absurd k0 h0
          have k1 : tagS (b :: s) ∈ tagsL := k1
          generalize tagS (b :: s) = tg at *
          unfold turnS
          simp only [tagsL, List.mem_cons, List.not_mem_nil, or_false] at k1
          rcases k1 with rfl | rfl | rfl | rfl | rfl | rfl
          · exact step (n.1, true, n.2.2)
          · exact step (n.1, false, n.2.2)
          · exact step (n.1, n.2.1, true)
          · exact step (n.1, n.2.1, false)
          · exact step n
          · exact step n
  exact key x.length x [] [] plainS fuelH (Nat.le_refl _) (by have := fuelH_eq; omega) (by simp) (by simp [tot])
theorem cut_small {r : Row} {n : Nat} (hb : bkL wtU r ≤ 1048576) : smallR (r.take n) := by
  have h1 := bk_take (f := wtU) n r
  have h2 := cost_wt (r.take n)
  have h3 := tot_cost (r.take n)
  refine ⟨fun x hx => ?_, by omega⟩
  have h4 : x.1.length + 1 + (1 + (1 + 1) + (x.2.2.length + 1)) ≤ bkL wtU (r.take n) := bk_mem (f := wtU) hx
  exact ⟨by omega, by omega⟩
end
end Go.Mo
end

section
/-
  Plain facts: the markup of a row means the row without colours and ruby; SubripReturns returns true.
-/
namespace Go.Mo
open Go Go.W Go.Lib
set_option maxRecDepth 100000
noncomputable section

theorem pmF_fuel : ∀ (k k' : Nat) (s : List UInt8) (o : Row) (t : List UInt8) (n : Sty), s.length ≤ k → s.length ≤ k' → pmF k s o t n = pmF k' s o t n
  | 0, 0, _, _, _, _, _, _ => rfl
  | 0, k' + 1, s, o, t, n, h, _ => by
    have : s = [] := List.eq_nil_of_length_eq_zero (by omega)
    subst this
    rfl
  | k + 1, 0, s, o, t, n, _, h => by
    have : s = [] := List.eq_nil_of_length_eq_zero (by omega)
    subst this
    rfl
  | k + 1, k' + 1, [], _, _, _, _, _ => rfl
  | k + 1, k' + 1, b :: s, o, t, n, h, h' => by
    simp only [List.length_cons] at h h'
    simp only [pmF]
    by_cases h0 : tagS (b :: s) = []
    · rw [if_pos h0, if_pos h0]
      exact pmF_fuel k k' s o _ n (by omega) (by omega)
    · rw [if_neg h0, if_neg h0]
      have hp := tag_pos h0
      exact pmF_fuel k k' _ _ _ _ (by rw [List.length_drop, List.length_cons]; omega) (by rw [List.length_drop, List.length_cons]; omega)
def pm (s : List UInt8) (o : Row) (t : List UInt8) (n : Sty) : Row := pmF s.length s o t n
theorem pm_nil (o : Row) (t : List UInt8) (n : Sty) : pm [] o t n = o ++ [(t, n, [])] := rfl
theorem isP_no {t s : List UInt8} (h : s.take t.length ≠ t) : isP t s = false := by rw [← Bool.not_eq_true, isP_iff]; exact h
theorem no_tag {b : UInt8} (s : List UInt8) (hb : b ≠ 60) : tagS (b :: s) = [] := firstT_no _ _ fun t ht => isP_no fun e => by
  have h : ∀ t ∈ tagsL, t.head? = some 60 ∧ t.length ≠ 0 := by decide
  obtain ⟨h1, h2⟩ := h t ht
  rw [← e] at h1
  cases hl : t.length with
  | zero => exact h2 hl
  | succ k =>
    rw [hl] at h1
    simp at h1
    exact hb h1
theorem pm_ch {b : UInt8} (hb : b ≠ 60) (s : List UInt8) (o : Row) (t : List UInt8) (n : Sty) : pm (b :: s) o t n = pm s o (t ++ [b]) n := by
  unfold pm
  simp only [List.length_cons, pmF]
  rw [if_pos (no_tag s hb)]
theorem pm_text : ∀ (x s : List UInt8) (o : Row) (t : List UInt8) (n : Sty), (∀ b ∈ x, b ≠ 60) → pm (x ++ s) o t n = pm s o (t ++ x) n
  | [], s, o, t, n, _ => by simp
  | b :: x, s, o, t, n, h => by
    rw [List.cons_append, pm_ch (h b List.mem_cons_self), pm_text x s o _ n fun c hc => h c (List.mem_cons_of_mem _ hc)]
    simp
theorem pm_tag {g s : List UInt8} (hg : tagS (g ++ s) = g) (h0 : g ≠ []) (o : Row) (t : List UInt8) (n : Sty) : pm (g ++ s) o t n = pm s (o ++ [(t, n, [])]) [] (turnS g n) := by
  cases hc : g ++ s with
  | nil => exact absurd (List.append_eq_nil_iff.1 hc).1 h0
  | cons b r =>
    unfold pm
    simp only [List.length_cons, pmF]
    rw [← hc, hg, if_neg h0, List.drop_left]
    refine pmF_fuel _ _ _ _ _ _ ?_ (Nat.le_refl _)
    have := congrArg List.length hc
    rw [List.length_append, List.length_cons] at this
    have := List.length_pos_iff.2 h0
    omega
theorem first_some {g s : List UInt8} (hp : isP g s = true) : ∀ l : List (List UInt8), g ∈ l → firstT s l ∈ l ∧ isP (firstT s l) s = true
  | [], h => by cases h
  | t :: l, h => by
    simp only [firstT]
    by_cases hk : isP t s = true
    · rw [if_pos hk]; exact ⟨List.mem_cons_self, hk⟩
    · rw [if_neg hk]
      rcases List.mem_cons.1 h with rfl | h
      · exact absurd hp hk
      · obtain ⟨k1, k2⟩ := first_some hp l h
        exact ⟨List.mem_cons_of_mem _ k1, k2⟩
theorem tag_is {g : List UInt8} (hg : g ∈ tagsL) (s : List UInt8) : tagS (g ++ s) = g := by
  have hp : isP g (g ++ s) = true := (isP_iff _ _).2 List.take_left
  obtain ⟨k1, k2⟩ := first_some hp tagsL hg
  exact isP_one k1 hg k2 hp
theorem is_ti (s : List UInt8) : tagS (ti ++ s) = ti := tag_is (by decide) s
theorem is_tI (s : List UInt8) : tagS (tI ++ s) = tI := tag_is (by decide) s
theorem is_tu (s : List UInt8) : tagS (tu ++ s) = tu := tag_is (by decide) s
theorem is_tU (s : List UInt8) : tagS (tU ++ s) = tU := tag_is (by decide) s
theorem snoc_nil (A : Row) (s : Sty) : snoc A ([], s, []) = A := by unfold snoc; rw [if_pos rfl]
theorem snoc_join (A : Row) (t x : List UInt8) (s : Sty) : snoc (snoc A (t, s, [])) (x, s, []) = snoc A (t ++ x, s, []) := by
  by_cases h : t = []
  · subst h
    rw [snoc_nil]
    rfl
  · exact snoc_snoc A h x s
theorem noX {l : List UInt8} (h : hasX l = false) : ∀ b ∈ l, b ≠ 60 := fun b hb e => by
  subst e
  have : hasX l = true := List.any_eq_true.2 ⟨60, hb, rfl⟩
  rw [this] at h
  cases h
def plainC (c : Row) : Prop := ∀ x ∈ c, hasX x.1 = false ∧ x.2.1.1 = 0 ∧ x.2.2 = []
theorem pm_runs : ∀ (c o : Row) (t : List UInt8), plainC c → (pm (c.flatMap wrX) o t plainS).foldl snoc [] = c.foldl snoc (snoc (o.foldl snoc []) (t, plainS, []))
  | [], o, t, _ => by
    rw [List.flatMap_nil, pm_nil, List.foldl_append]
    rfl
  | x :: c, o, t, h => by
    obtain ⟨h1, h2, h3⟩ := h x List.mem_cons_self
    have hc : plainC c := fun y hy => h y (List.mem_cons_of_mem _ hy)
    obtain ⟨tx, ⟨cx, ix, ux⟩, rx⟩ := x
    simp only at h1 h2 h3
    subst h2
    subst h3
    have hb := noX h1
    rw [List.flatMap_cons, List.foldl_cons]
    cases ux with
    | true =>
      cases ix with
      | true =>
        rw [show wrX (tx, (0, true, true), []) = ti ++ (tu ++ tx ++ tU) ++ tI from rfl, show ti ++ (tu ++ tx ++ tU) ++ tI ++ c.flatMap wrX = ti ++ (tu ++ (tx ++ (tU ++ (tI ++ c.flatMap wrX)))) by simp only [List.append_assoc], pm_tag (is_ti _) (by simp [ti]), pm_tag (is_tu _) (by simp [tu]), pm_text _ _ _ _ _ hb, pm_tag (is_tU _) (by simp [tU]), pm_tag (is_tI _) (by simp [tI])]
        refine (pm_runs c _ _ hc).trans ?_
        simp only [List.foldl_append, List.foldl_cons, List.foldl_nil, List.nil_append]
        rw [snoc_nil, snoc_nil, snoc_nil]
        rfl
      | false =>
        rw [show wrX (tx, (0, false, true), []) = tu ++ tx ++ tU from rfl, show tu ++ tx ++ tU ++ c.flatMap wrX = tu ++ (tx ++ (tU ++ c.flatMap wrX)) by simp only [List.append_assoc], pm_tag (is_tu _) (by simp [tu]), pm_text _ _ _ _ _ hb, pm_tag (is_tU _) (by simp [tU])]
        refine (pm_runs c _ _ hc).trans ?_
        simp only [List.foldl_append, List.foldl_cons, List.foldl_nil, List.nil_append]
        rw [snoc_nil]
        rfl
    | false =>
      cases ix with
      | true =>
        rw [show wrX (tx, (0, true, false), []) = ti ++ tx ++ tI from rfl, show ti ++ tx ++ tI ++ c.flatMap wrX = ti ++ (tx ++ (tI ++ c.flatMap wrX)) by simp only [List.append_assoc], pm_tag (is_ti _) (by simp [ti]), pm_text _ _ _ _ _ hb, pm_tag (is_tI _) (by simp [tI])]
        refine (pm_runs c _ _ hc).trans ?_
        simp only [List.foldl_append, List.foldl_cons, List.foldl_nil, List.nil_append]
        rw [snoc_nil]
        rfl
      | false =>
        show (pm (tx ++ c.flatMap wrX) o t plainS).foldl snoc [] = _
        rw [pm_text _ _ _ _ _ hb]
        refine (pm_runs c _ _ hc).trans ?_
        rw [← snoc_join]
        rfl
theorem snoc_col {out : Row} {x : Run} (h : ∀ y ∈ out, y.2.1.1 = 0) (hx : x.2.1.1 = 0) : ∀ y ∈ snoc out x, y.2.1.1 = 0 := by
  unfold snoc
  split
  · exact h
  · split
    · rename_i p hp
      have e := last_eq hp
      have hin : p ∈ out := by rw [e]; simp
      split
      · intro y hy
        rcases List.mem_append.1 hy with hy | hy
        · exact h y (List.dropLast_subset _ hy)
        · rw [List.mem_singleton.1 hy]; exact h p hin
      · intro y hy
        rcases List.mem_append.1 hy with hy | hy
        · exact h y hy
        · rw [List.mem_singleton.1 hy]; exact hx
    · intro y hy
      rcases List.mem_append.1 hy with hy | hy
      · exact h y hy
      · rw [List.mem_singleton.1 hy]; exact hx
theorem fold_wht : ∀ (l out : Row), goodS out → (∀ y ∈ out, y.2.1.1 = 0) → (∀ x ∈ l, vld x.1 = true) → goodS ((l.map wht).foldl snoc out) ∧ ∀ y ∈ (l.map wht).foldl snoc out, y.2.1.1 = 0
  | [], _, h1, h2, _ => ⟨h1, h2⟩
  | x :: l, out, h1, h2, hv => by
    rw [List.map_cons, List.foldl_cons]
    exact fold_wht l _ (snoc_good h1 (hv x List.mem_cons_self) (by show n8 0 ≤ 6; decide) rfl) (snoc_col h2 rfl) fun y hy => hv y (List.mem_cons_of_mem _ hy)
theorem carr_good {r : Row} (h : rowChk r = 0) : goodS (carr r) ∧ ∀ y ∈ carr r, y.2.1.1 = 0 :=
  fold_wht r [] ⟨rfl, fun x hx => by cases hx⟩ (fun x hx => by cases hx) fun x hx => ((rowChk_ok h).2 x hx).1
/-- the text of a row leads back to it -/
theorem carr_back {r : Row} (h : rowChk r = 0) (hx : hasX (plainT r) = false) : pmS ((carr r).flatMap wrX) = carr r := by
  obtain ⟨g1, g2⟩ := carr_good h
  have hp : plainC (carr r) := fun y hy => by
    refine ⟨?_, g2 y hy, g1.2 y hy⟩
    rw [← carr_plain, hasX_flat] at hx
    rw [← Bool.not_eq_true]
    intro k
    rw [List.any_eq_true.2 ⟨y, hy, k⟩] at hx
    cases hx
  have e : pmS ((carr r).flatMap wrX) = (pm ((carr r).flatMap wrX) [] [] plainS).foldl snoc [] := rfl
  rw [e, pm_runs _ _ _ hp]
  show (carr r).foldl snoc (snoc [] ([], plainS, [])) = _
  rw [snoc_nil]
  exact (norm_id (carr r) [] g1.1).trans (List.nil_append _)
theorem mkS_len {r : Row} (hs : smallR r) (h : rowChk r = 0) : ((carr r).flatMap wrX).length ≤ tot r + 224 := by
  have h1 := wr_len (carr r)
  obtain ⟨h2, h3⟩ := carr_len r
  have h4 := (okR_of hs h).1
  omega
theorem returns19_true {x : Row} (hb : bkL wtU x + 1 ≤ 1048576) : l19_SubripReturns fuelH x = some true := by
  unfold l19_SubripReturns
  obtain ⟨e3, e4⟩ := min_take x 20
  have e3 : ltake (toN (imin (len x) (20 : Int))) x = x.take 20 := e3
  have hs : smallR (x.take 20) := cut_small (by omega)
  have htt : tot (x.take 20) ≤ 1048576 := by
    have h1 := bk_take (f := wtU) 20 x
    have h2 := cost_wt (x.take 20)
    have h3 := tot_cost (x.take 20)
    omega
  rw [awake19, bnd_some', cnd_f (by rfl), grd_t (show in2 (imin (len x) (20 : Int)) (len x) = true from e4), e3]
  generalize x.take 20 = r at hs htt ⊢
  rw [sub_markup hs, bnd_some']
  unfold mkS
  by_cases hc : rowChk r ≠ 0
  · rw [if_pos hc, cnd_t (ine_t hc)]; rfl
  have hc : rowChk r = 0 := by simpa using hc
  rw [if_neg (by rw [hc]; simp)]
  cases hx : hasX (plainT r) with
  | true => rw [if_pos rfl]; rfl
  | false =>
    have hok := okR_of hs hc
    have h16 := hok.1
    rw [if_neg (by simp), cnd_f (ine_f rfl), jn_e]
    refine loop_inv (n := r.length) (fun (b : Row) (j : Nat) => ((j : Int), b)) (fun j b => b = (r.take j).map wht) _ (fun self b j hj hJ => ?_) (fun self b hJ => ?_) fuelH 0 [] (Nat.zero_le _) (by have := fuelH_eq; omega) rfl
    · refine ⟨b ++ [wht r[j]], ?_, by rw [hJ, List.take_succ_eq_append_getElem hj, List.map_append]; rfl⟩
      have hbl : b.length ≤ 4000000 := by rw [hJ, List.length_map, List.length_take]; omega
      simp only
      rw [cnd_t (ilt_t (by simp only [len]; omega)), grd_t (inb_t (by simp only [len]; omega)), lget_i hj, grd_t (room_t (by simp only [iadd, len, List.length_singleton]; omega)), w64_succ hj (by omega)]
      rfl
    · have hml := mkS_len hs hc
      simp only
      rw [cnd_f (ilt_f (by simp only [len]; omega)), hJ, List.take_length, sub_pm (by omega), bnd_some', style_Norm_eq (by rw [List.length_map]; omega) (by rw [wht_tot]; omega), bnd_some', carr_back hc hx]
      show bnd (style_Same fuelH (carr r, carr r)) _ = _
      rw [same_row _ _ (by have := (carr_len r).1; omega), bnd_some', decide_eq_true rfl]
end
end Go.Mo
end
