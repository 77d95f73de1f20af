/-
  Texts put together, in build order: PA PB PC PD PE PF PG PHa PHb PHc PHd PMa PPa QA QB QC QD QE QF QG.
-/
import Derived.Test.YtlljakdlfbgdhaaGreatDoorSxA
import Derived.KernelRfl
import Derived.Lib.ValidLaws
import Derived.Lib.TrimUEq
import Derived.Lib.MapLaws
import Derived.Test.YtlljakdlfbgdhaaGreatDoorZC
set_option linter.all false

section
/-
  Plain facts on the words of models; what is made of bytes.
-/
namespace Go.Mo
open Go Go.W

/-! ### words -/
theorem grd_t {α : Type} {b : Bool} {k : Option α} (h : b = true) : grd b k = k := by subst h; rfl
theorem cnd_t {α : Type} {b : Bool} {x y : Option α} (h : b = true) : cnd b x y = x := by subst h; rfl
theorem cnd_f {α : Type} {b : Bool} {x y : Option α} (h : b = false) : cnd b x y = y := by subst h; rfl
theorem bnd_s {α β : Type} {x : Option α} {a : α} {k : α → Option β} (h : x = some a) : bnd x k = k a := by subst h; rfl
theorem jn_e {F α : Type} {k : F} {t : F → Option α} : jn k t = t k := rfl
theorem fixN_s {V R : Type} {F : (V → Option R) → V → Option R} {n : Nat} {v : V} : fixN F (n + 1) v = F (fixN F n) v := rfl
theorem w64_id {x : Int} (h : -9223372036854775808 ≤ x ∧ x ≤ 9223372036854775807) : w64 x = x := by
  show IntKind.wrap .i64 x = x
  unfold IntKind.wrap
  simp only [IntKind.bits, IntKind.signed, Bool.true_and, decide_eq_true_eq, show (2 : Int) ^ 64 = 18446744073709551616 from rfl, show (2 : Int) ^ (64 - 1) = 9223372036854775808 from rfl]
  split <;> omega
theorem wru64_id {x : Int} (h : 0 ≤ x ∧ x < 18446744073709551616) : wr .u64 x = x := by
  show IntKind.wrap .u64 x = x
  unfold IntKind.wrap
  simp only [IntKind.bits, IntKind.signed, Bool.false_and, Bool.false_eq_true, if_false]
  omega
theorem ilt_t {a b : Int} (h : a < b) : ilt a b = true := decide_eq_true h
theorem ilt_f {a b : Int} (h : ¬ a < b) : ilt a b = false := decide_eq_false h
theorem ile_t {a b : Int} (h : a ≤ b) : ile a b = true := decide_eq_true h
theorem ile_f {a b : Int} (h : ¬ a ≤ b) : ile a b = false := decide_eq_false h
theorem ieq_t {a b : Int} (h : a = b) : ieq a b = true := by subst h; simp [ieq]
theorem ieq_f {a b : Int} (h : a ≠ b) : ieq a b = false := by simp [ieq, h]
theorem ine_t {a b : Int} (h : a ≠ b) : ine a b = true := by simp [ine, h]
theorem ine_f {a b : Int} (h : a = b) : ine a b = false := by simp [ine, h]
theorem inb_t {i n : Int} (h : 0 ≤ i ∧ i < n) : inb i n = true := decide_eq_true h
theorem in2_t {i n : Int} (h : 0 ≤ i ∧ i ≤ n) : in2 i n = true := decide_eq_true h
theorem in3_t {l h n : Int} (q : 0 ≤ l ∧ l ≤ h ∧ h ≤ n) : in3 l h n = true := decide_eq_true q
theorem room_t {n : Int} {b : Nat} (h : n * b ≤ 140737488355328) : room n b = true := decide_eq_true h
theorem mkOk_t {l c : Int} {b : Nat} (h : 0 ≤ l ∧ l ≤ c ∧ c * b ≤ 140737488355328) : mkOk l c b = true := decide_eq_true h

/-! ### bytes.Clone -/
theorem rep_loop {b : UInt8} {n : Nat} (hn : n ≤ 1024) : ∀ (fuel bp : Nat) (buf : List UInt8), n - bp < fuel → 1 ≤ bp → bp ≤ n → buf.length = n → buf.take bp = List.replicate bp b →
    fixN (fun v5 (v6 : Int × List UInt8) =>
                cnd (ilt v6.1 (n : Int))
                  (grd (in2 v6.1 (ofN (nlen v6.2)))
                    (grd (in2 (imin v6.1 (n : Int)) (ofN (nlen v6.2)))
                      (v5 (w64 (iadd v6.1 (imin (len (cutl v6.2 0 (toN (imin v6.1 (n : Int))))) (ofN (nsub (nlen v6.2) (toN v6.1))))), putl v6.2 (toN v6.1) (ltake (nsub (nlen v6.2) (toN v6.1)) (cutl v6.2 0 (toN (imin v6.1 (n : Int)))))))))
                  (some v6.2)) fuel ((bp : Int), buf) = some (List.replicate n b)
  | 0, bp, buf, h, _, _, _, _ => by omega
  | fuel + 1, bp, buf, h, h1, h2, h3, h4 => by
    rw [fixN_s]
    simp only
    by_cases he : bp = n
    · subst he
      rw [cnd_f (ilt_f (by omega))]
      rw [← h3, List.take_length, h3] at h4
      rw [h4]
    · have hmin : imin (bp : Int) (n : Int) = (bp : Int) := by show min (bp : Int) n = bp; omega
      rw [cnd_t (ilt_t (by omega)), grd_t (in2_t (by simp only [ofN, nlen]; omega)), hmin, grd_t (in2_t (by simp only [ofN, nlen]; omega))]
      have hc : cutl buf 0 (toN (bp : Int)) = List.replicate bp b := by
        simp only [cutl, toN, List.drop_zero, Int.toNat_natCast]
        exact h4
      have hsub : nsub (nlen buf) (toN (bp : Int)) = n - bp := by simp [nsub, nlen, toN, h3]
      rw [hc, hsub]
      have hl : imin (len (List.replicate bp b)) (ofN (n - bp)) = ((min bp (n - bp) : Nat) : Int) := by
        simp only [imin, len, ofN, List.length_replicate]; omega
      have hw : w64 (iadd (bp : Int) (imin (len (List.replicate bp b)) (ofN (n - bp)))) = ((bp + min bp (n - bp) : Nat) : Int) := by
        rw [hl]
        simp only [iadd]
        rw [w64_id (by omega)]
        omega
      rw [hw]
      have ht : ltake (n - bp) (List.replicate bp b) = List.replicate (min bp (n - bp)) b := by
        simp only [ltake, List.take_replicate]
        rw [Nat.min_comm]
      rw [ht]
      have hp : putl buf (toN (bp : Int)) (List.replicate (min bp (n - bp)) b) = List.replicate (bp + min bp (n - bp)) b ++ buf.drop (bp + min bp (n - bp)) := by
        simp only [putl, toN, Int.toNat_natCast, List.length_replicate]
        rw [h4, List.replicate_append_replicate]
      rw [hp]
      refine rep_loop hn fuel _ _ (by omega) (by omega) (by omega) ?_ ?_
      · simp [h3]; omega
      · rw [List.take_left' (by simp)]
theorem n8_inj {a b : UInt8} (h : n8 a = n8 b) : a = b := by
  unfold n8 at h
  apply UInt8.toNat_inj.1
  omega
theorem equal_loop {x y : List UInt8} (hl : x.length = y.length) (hb : x.length ≤ 100000000) : ∀ (fuel i : Nat), x.length - i < fuel → i ≤ x.length → x.take i = y.take i →
    fixN (fun v2 (v3 : Int) =>
      cnd (ilt v3 (len x))
        (grd (inb v3 (len x))
          (grd (inb v3 (len y))
            (cnd (ine (n8 (lget x (toN v3) (0 : UInt8))) (n8 (lget y (toN v3) (0 : UInt8))))
              (some false)
              (v2 (w64 (iadd v3 (1 : Int)))))))
        (some true)) fuel (i : Int) = some (decide (x = y))
  | 0, i, h, _, _ => by omega
  | fuel + 1, i, h, h1, h2 => by
    rw [fixN_s]
    by_cases he : i = x.length
    · rw [cnd_f (ilt_f (by simp only [len]; omega))]
      rw [he, List.take_length, hl, List.take_length] at h2
      simp [h2]
    · have hx : i < x.length := by omega
      have hy : i < y.length := by omega
      rw [cnd_t (ilt_t (by simp only [len]; omega)), grd_t (inb_t (by simp only [len]; omega)), grd_t (inb_t (by simp only [len]; omega))]
      have gx : lget x (toN (i : Int)) 0 = x[i] := by simp [lget, toN, hx]
      have gy : lget y (toN (i : Int)) 0 = y[i] := by simp [lget, toN, hy]
      rw [gx, gy]
      by_cases hc : x[i] = y[i]
      · rw [cnd_f (ine_f (by rw [hc]))]
        have hw : w64 (iadd (i : Int) 1) = ((i + 1 : Nat) : Int) := by
          simp only [iadd]; rw [w64_id (by omega)]; omega
        rw [hw]
        exact equal_loop hl hb fuel (i + 1) (by omega) (by omega) (by rw [List.take_succ_eq_append_getElem hx, List.take_succ_eq_append_getElem hy, h2, hc])
      · rw [cnd_t (ine_t fun h => hc (n8_inj h))]
        have : x ≠ y := fun h => hc (by subst h; rfl)
        simp [this]
theorem equal_eq {N : Nat} (x y : List UInt8) (hb : x.length ≤ 100000000) (hN : 100000001 ≤ N ∨ x.length < N) : slices_Equal_Lbyte_byte N (x, y) = some (decide (x = y)) := by
  unfold slices_Equal_Lbyte_byte
  simp only [jn_e]
  by_cases hl : x.length = y.length
  · rw [cnd_f (ine_f (by simp only [len]; omega))]
    exact equal_loop hl hb N 0 (by omega) (Nat.zero_le _) rfl
  · rw [cnd_t (ine_t (by simp only [len]; omega))]
    have : x ≠ y := fun h => hl (by rw [h])
    simp [this]

end Go.Mo
end

section
/-
  Plain facts: rates, labels, the repertoire of characters.
-/
namespace Go.Mo
open Go Go.W
set_option maxRecDepth 100000

theorem all_u8 {P : UInt8 → Bool} (h : ((List.range 256).all fun n => P (UInt8.ofNat n)) = true) (x : UInt8) : P x = true := by
  have h1 : x.toNat < 256 := x.toNat_lt
  have := List.all_eq_true.1 h x.toNat (List.mem_range.2 h1)
  simpa using this
end Go.Mo
end

section
/-
  Plain facts: the repertoire of characters.
-/
namespace Go.Mo
open Go Go.W
set_option maxRecDepth 100000
/-- some number: the kernel does not know which -/
noncomputable def fuelM : Nat := Classical.choose (⟨7995000, rfl⟩ : ∃ n : Nat, n = 7995000)
noncomputable def fuelH : Nat := fuelM + 5000
theorem fuelH_eq : fuelH = 8000000 := by
  have h : fuelM = 7995000 := Classical.choose_spec (⟨7995000, rfl⟩ : ∃ n : Nat, n = 7995000)
  unfold fuelH
  rw [h]
/-- the characters behind ASCII -/
noncomputable def hiRunes : List Int := [161, 162, 163, 164, 165, 166, 167, 169, 171, 174, 176, 183, 187, 189, 191, 192, 193, 194, 195, 196, 197, 198, 199, 200, 201, 202, 203, 204, 205, 206, 207, 209, 210, 211, 212, 213, 214, 216, 217, 218, 219, 220, 223, 224, 225, 226, 227, 228, 229, 230, 231, 232, 233, 234, 235, 236, 237, 238, 239, 241, 242, 243, 244, 245, 246, 248, 249, 250, 251, 252, 338, 339, 8212, 8216, 8217, 8220, 8221, 8226, 8230, 8482, 9834]
noncomputable def loRunes : List Int := (List.range 95).map fun n => ((n + 32 : Nat) : Int)
noncomputable def chain : List Int → Int → Int → Option Int
  | [], _, _ => some (-1)
  | c :: l, i, r => cnd (ieq c r) (some i) (chain l (iadd i 1) r)
noncomputable def rep : List UInt8 := match r08_Repertoire 0 () with
  | some s => s
  | none => []
theorem place_eqN (N : Nat) (r : Int) : charset_place (N + 300) (rep, r) = chain (loRunes ++ hiRunes) 0 r := by kernel_rfl
theorem place_eq (r : Int) : charset_place fuelH (rep, r) = chain (loRunes ++ hiRunes) 0 r := place_eqN (fuelM + 4700) r
theorem r08_indexN (N : Nat) (r : Int) : r08_Index N r = cnd (ile 32 r) (cnd (ile r 126) (some (w64 (wr .i32 (isub r 32)))) (charset_place N (rep, r))) (charset_place N (rep, r)) := by kernel_rfl
theorem r08_index (r : Int) : r08_Index fuelH r = cnd (ile 32 r) (cnd (ile r 126) (some (w64 (wr .i32 (isub r 32)))) (charset_place fuelH (rep, r))) (charset_place fuelH (rep, r)) := r08_indexN fuelH r
theorem ch_indexN (N : Nat) (r : Int) : charset_Index N r = cnd (ile 32 r) (cnd (ile r 126) (some (w64 (wr .i32 (isub r 32)))) (bnd (charset_place N (rep, r)) fun v => some v)) (bnd (charset_place N (rep, r)) fun v => some v) := by kernel_rfl
theorem ch_index (r : Int) : charset_Index fuelH r = cnd (ile 32 r) (cnd (ile r 126) (some (w64 (wr .i32 (isub r 32)))) (bnd (charset_place fuelH (rep, r)) fun v => some v)) (bnd (charset_place fuelH (rep, r)) fun v => some v) := ch_indexN fuelH r
theorem chain_ok : ∀ (l : List Int) (i r : Int), 0 ≤ i → ∃ k, chain l i r = some k ∧ (k < 0 ↔ l.contains r = false)
  | [], i, r, _ => ⟨-1, rfl, by simp⟩
  | c :: l, i, r, h => by
    by_cases hc : c = r
    · exact ⟨i, by simp only [chain]; rw [cnd_t (ieq_t hc)], by subst hc; simp; omega⟩
    · obtain ⟨k, h1, h2⟩ := chain_ok l (iadd i 1) r (by show 0 ≤ i + 1; omega)
      refine ⟨k, by simp only [chain]; rw [cnd_f (ieq_f hc)]; exact h1, ?_⟩
      rw [h2]
      simp only [List.contains_cons, Bool.or_eq_false_iff]
      exact ⟨fun h => ⟨by simpa using fun e => hc e.symm, h⟩, fun h => h.2⟩
noncomputable def inRep (r : Int) : Bool := (decide (32 ≤ r) && decide (r ≤ 126)) || hiRunes.contains r
theorem wi32_id {x : Int} (h : 0 ≤ x ∧ x < 1000) : wr .i32 x = x := by
  show IntKind.wrap .i32 x = x
  unfold IntKind.wrap
  simp only [IntKind.bits, IntKind.signed, Bool.true_and, decide_eq_true_eq, show (2 : Int) ^ 32 = 4294967296 from rfl, show (2 : Int) ^ (32 - 1) = 2147483648 from rfl]
  split <;> omega
theorem lo_mem (r : Int) : loRunes.contains r = (decide (32 ≤ r) && decide (r ≤ 126)) := by
  rw [Bool.eq_iff_iff]
  simp only [loRunes, List.contains_iff_mem, List.mem_map, List.mem_range, Bool.and_eq_true, decide_eq_true_eq]
  constructor
  · rintro ⟨n, hn, rfl⟩; omega
  · intro h; exact ⟨(r - 32).toNat, by omega, by omega⟩
theorem index_some (r : Int) : ∃ i, charset_Index fuelH r = some i ∧ r08_Index fuelH r = some i ∧ (i < 0 ↔ inRep r = false) := by
  rw [ch_index, r08_index, place_eq]
  obtain ⟨k, h1, h2⟩ := chain_ok (loRunes ++ hiRunes) 0 r (Int.le_refl _)
  have hin : (loRunes ++ hiRunes).contains r = inRep r := by
    unfold inRep
    rw [← lo_mem]
    simp [List.contains_eq_mem, List.mem_append]
  rw [hin] at h2
  by_cases ha : 32 ≤ r
  · rw [cnd_t (ile_t ha), cnd_t (ile_t ha)]
    by_cases hb : r ≤ 126
    · rw [cnd_t (ile_t hb), cnd_t (ile_t hb)]
      refine ⟨_, rfl, rfl, ?_⟩
      have : w64 (wr .i32 (isub r 32)) = r - 32 := by
        simp only [isub]
        rw [wi32_id (by omega), w64_id (by omega)]
      rw [this]
      simp [inRep, ha, hb]
    · rw [cnd_f (ile_f hb), cnd_f (ile_f hb)]
      exact ⟨k, by rw [bnd_s h1], h1, h2⟩
  · rw [cnd_f (ile_f ha), cnd_f (ile_f ha)]
    exact ⟨k, by rw [bnd_s h1], h1, h2⟩
end Go.Mo
end

section
/-
  Plain facts: texts of the repertoire.
-/
namespace Go.Mo
open Go Go.W Go.Lib
set_option maxRecDepth 100000

theorem dec_pos (l : List UInt8) : 1 ≤ (decodeL l).2 := by
  unfold decodeL Utf8.decode
  simp only
  repeat' split
  all_goals first | exact Nat.le_refl _ | (show 1 ≤ _; omega)
theorem decR_eq (s : List UInt8) (p : Nat) : decR s p = ((decodeL (s.drop p)).1 : Int) := by
  have := decodeL_drop (bst s) p
  have e : (bst s).data.toList = s := rfl
  rw [e] at this
  unfold decR
  rw [this]
theorem decW_eq (s : List UInt8) (p : Nat) : decW s p = (decodeL (s.drop p)).2 := by
  have := decodeL_drop (bst s) p
  have e : (bst s).data.toList = s := rfl
  rw [e] at this
  unfold decW
  rw [this]

noncomputable def rok : Nat → List UInt8 → Bool
  | 0, _ => true
  | n + 1, l => if l = [] then true else if inRep ((decodeL l).1 : Int) = true then rok n (l.drop (decodeL l).2) else false
/-- characters of the repertoire alone -/
noncomputable def vld (l : List UInt8) : Bool := rok l.length l
theorem rok_nil : ∀ n, rok n [] = true
  | 0 => rfl
  | n + 1 => by simp [rok]
theorem rok_fuel : ∀ (n m : Nat) (l : List UInt8), l.length ≤ n → l.length ≤ m → rok n l = rok m l
  | 0, m, l, h, _ => by
    have : l = [] := List.eq_nil_of_length_eq_zero (by omega)
    subst this
    rw [rok_nil, rok_nil]
  | n + 1, 0, l, _, h => by
    have : l = [] := List.eq_nil_of_length_eq_zero (by omega)
    subst this
    rw [rok_nil, rok_nil]
  | n + 1, m + 1, l, h1, h2 => by
    by_cases hl : l = []
    · subst hl; rw [rok_nil, rok_nil]
    · have hp := dec_pos l
      have hlen : 0 < l.length := List.length_pos_iff.2 hl
      simp only [rok, hl, if_false]
      split
      · exact rok_fuel n m _ (by simp; omega) (by simp; omega)
      · rfl
theorem vld_nil : vld [] = true := rfl
theorem vld_step (l : List UInt8) (hl : l ≠ []) : vld l = if inRep ((decodeL l).1 : Int) = true then vld (l.drop (decodeL l).2) else false := by
  have hp := dec_pos l
  have hlen : 0 < l.length := List.length_pos_iff.2 hl
  unfold vld
  obtain ⟨n, hn⟩ : ∃ n, l.length = n + 1 := ⟨l.length - 1, by omega⟩
  rw [hn]
  simp only [rok, hl, if_false]
  split
  · exact rok_fuel _ _ _ (by simp; omega) (Nat.le_refl _)
  · rfl
theorem vld_valid : ∀ (n : Nat) (l : List UInt8), l.length ≤ n → vld l = true → validD l = true
  | n, l, h, hv => by
    by_cases hl : l = []
    · subst hl; rfl
    · have hlen : 0 < l.length := List.length_pos_iff.2 hl
      have hp := dec_pos l
      rw [vld_step l hl] at hv
      split at hv
      · rename_i hr
        rw [validD_step l hl, if_neg ?_]
        · cases n with
          | zero => omega
          | succ n => exact vld_valid n _ (by simp; omega) hv
        · rintro ⟨e, _⟩
          rw [e] at hr
          exact absurd hr (by decide)
      · cases hv

theorem valid_loop {s : List UInt8} (hs : s.length ≤ 100000000) (Ix : Int → Option Int) (hI : ∀ r : Int, ∃ i, Ix r = some i ∧ (i < 0 ↔ inRep r = false)) : ∀ (fuel p : Nat), s.length - p < fuel → p ≤ s.length →
    fixN (fun v2 (v3 : (List UInt8) × Int) =>
    cnd (nlt (toN v3.2) (nlen v3.1))
      (bnd (Ix (decR v3.1 (toN v3.2))) fun v4 =>
      cnd (ilt v4 (0 : Int))
        (some false)
        (v2 (v3.1, ofN (nadd (toN v3.2) (decW v3.1 (toN v3.2))))))
      (some true)) fuel (s, ofN p) = some (vld (s.drop p))
  | 0, p, h, _ => by omega
  | fuel + 1, p, h, hp => by
    rw [fixN_s]
    have et : toN (ofN p) = p := by simp [toN, ofN]
    simp only [et]
    by_cases hl : p < s.length
    · have hne : s.drop p ≠ [] := by intro e; have := congrArg List.length e; simp at this; omega
      have hw := dec_pos (s.drop p)
      have hle := decodeL_le (s.drop p) hne
      rw [List.length_drop] at hle
      rw [cnd_t (show nlt p (nlen s) = true from decide_eq_true hl)]
      obtain ⟨i, h1, h2⟩ := hI (decR s p)
      rw [bnd_s h1]
      rw [vld_step _ hne, ← decR_eq]
      by_cases hi : i < 0
      · rw [cnd_t (ilt_t hi), if_neg (by rw [h2.1 hi]; decide)]
      · rw [cnd_f (ilt_f hi)]
        have hin : inRep (decR s p) = true := by
          cases hq : inRep (decR s p) with
          | true => rfl
          | false => exact absurd (h2.2 hq) hi
        rw [if_pos hin, decW_eq, List.drop_drop]
        show fixN _ fuel (s, ofN (p + (decodeL (s.drop p)).2)) = _
        exact valid_loop hs Ix hI fuel _ (by omega) (by omega)
    · rw [cnd_f (show nlt p (nlen s) = false from decide_eq_false hl)]
      have : s.drop p = [] := by simp; omega
      rw [this]
      rfl
theorem r08_valid (s : List UInt8) (hs : s.length ≤ 4000000) : r08_Valid fuelH s = some (vld s) := by
  unfold r08_Valid
  simp only [jn_e]
  have := valid_loop (s := s) (by omega) (r08_Index fuelH) (fun r => by obtain ⟨i, _, h2, h3⟩ := index_some r; exact ⟨i, h2, h3⟩) fuelH 0 (by have := fuelH_eq; omega) (Nat.zero_le _)
  simpa using this
theorem ch_valid (s : List UInt8) (hs : s.length ≤ 4000000) : charset_Valid fuelH s = some (vld s) := by
  unfold charset_Valid
  have hv : utf8_ValidString fuelH s = some (validD s) := by
    show grd (catOk (len s)) (some (validD s)) = _
    exact grd_t (decide_eq_true (by simp only [len]; omega))
  rw [bnd_s hv]
  simp only [jn_e]
  cases hd : validD s with
  | false =>
    rw [cnd_t (show bnot false = true from rfl)]
    cases hq : vld s with
    | false => rfl
    | true => rw [vld_valid _ s (Nat.le_refl _) hq] at hd; cases hd
  | true =>
    rw [cnd_f (show bnot true = false from rfl)]
    have := valid_loop (s := s) (by omega) (charset_Index fuelH) (fun r => by obtain ⟨i, h2, _, h3⟩ := index_some r; exact ⟨i, h2, h3⟩) fuelH 0 (by have := fuelH_eq; omega) (Nat.zero_le _)
    simpa using this
end Go.Mo
end

section
/-
  Plain facts: names; the check of a header.
-/
namespace Go.Mo
open Go Go.W Go.Lib
set_option maxRecDepth 100000

theorem cnd_dec {α : Type} {p : Prop} [Decidable p] {x y : Option α} : cnd (decide p) x y = if p then x else y := by
  by_cases h : p
  · rw [cnd_t (decide_eq_true h), if_pos h]
  · rw [cnd_f (decide_eq_false h), if_neg h]
theorem cnd_ilt {α : Type} {a b : Int} {x y : Option α} : cnd (ilt a b) x y = if a < b then x else y := cnd_dec
theorem cnd_ile {α : Type} {a b : Int} {x y : Option α} : cnd (ile a b) x y = if a ≤ b then x else y := cnd_dec
theorem cnd_ieq {α : Type} {a b : Int} {x y : Option α} : cnd (ieq a b) x y = if a = b then x else y := by
  by_cases h : a = b
  · rw [cnd_t (ieq_t h), if_pos h]
  · rw [cnd_f (ieq_f h), if_neg h]
theorem cnd_ine {α : Type} {a b : Int} {x y : Option α} : cnd (ine a b) x y = if a ≠ b then x else y := by
  by_cases h : a = b
  · rw [cnd_f (ine_f h), if_neg (by simp [h])]
  · rw [cnd_t (ine_t h), if_pos h]
/-- may stand in a name -/
noncomputable def okc (c : Int) : Bool := decide ((65 ≤ c ∧ c ≤ 90) ∨ (48 ≤ c ∧ c ≤ 57) ∨ c = 95 ∨ c = 45)
theorem nm_body (c : Int) (X : Option Bool) :
    (cnd (ilt c (n8 (65 : UInt8)))
                    (cnd (ilt c (n8 (48 : UInt8)))
                      (cnd (ine c (n8 (95 : UInt8)))
                        (cnd (ine c (n8 (45 : UInt8)))
                          (some false)
                          X)
                        X)
                      (cnd (ilt (n8 (57 : UInt8)) c)
                        (cnd (ine c (n8 (95 : UInt8)))
                          (cnd (ine c (n8 (45 : UInt8)))
                            (some false)
                            X)
                          X)
                        X))
                    (cnd (ilt (n8 (90 : UInt8)) c)
                      (cnd (ilt c (n8 (48 : UInt8)))
                        (cnd (ine c (n8 (95 : UInt8)))
                          (cnd (ine c (n8 (45 : UInt8)))
                            (some false)
                            X)
                          X)
                        (cnd (ilt (n8 (57 : UInt8)) c)
                          (cnd (ine c (n8 (95 : UInt8)))
                            (cnd (ine c (n8 (45 : UInt8)))
                              (some false)
                              X)
                            X)
                          X))
                      X)) = cnd (okc c) X (some false) := by
  have e1 : n8 (65 : UInt8) = 65 := rfl
  have e2 : n8 (48 : UInt8) = 48 := rfl
  have e3 : n8 (95 : UInt8) = 95 := rfl
  have e4 : n8 (45 : UInt8) = 45 := rfl
  have e5 : n8 (57 : UInt8) = 57 := rfl
  have e6 : n8 (90 : UInt8) = 90 := rfl
  rw [e1, e2, e3, e4, e5, e6]
  simp only [cnd_ilt, cnd_ine, okc, cnd_dec]
  repeat' split
  all_goals first | rfl | (exfalso; omega)
noncomputable def upc (c : Int) : Bool := decide (65 ≤ c ∧ c ≤ 90)
/-- a name -/
noncomputable def nm (s : List UInt8) : Bool := decide (1 ≤ s.length ∧ s.length ≤ 16) && upc (n8 (s.getD 0 0)) && s.all fun c => okc (n8 c)
theorem all_step {s : List UInt8} {i : Nat} (h : i < s.length) (P : UInt8 → Bool) : (s.drop i).all P = (P s[i] && (s.drop (i + 1)).all P) := by
  rw [List.drop_eq_getElem_cons h, List.all_cons]
theorem nm_loop {s : List UInt8} (hs : s.length ≤ 16) : ∀ (fuel i : Nat), s.length - i < fuel → i ≤ s.length →
    fixN (fun v2 (v3 : Int) =>
                cnd (ilt v3 (len s))
                  (grd (inb v3 (len s)) (cnd (okc (n8 (lget s (toN v3) (0 : UInt8)))) (v2 (w64 (iadd v3 (1 : Int)))) (some false)))
                  (some true)) fuel (i : Int) = some ((s.drop i).all fun c => okc (n8 c))
  | 0, i, h, _ => by omega
  | fuel + 1, i, h, hi => by
    rw [fixN_s]
    by_cases hl : i < s.length
    · have g : lget s (toN (i : Int)) 0 = s[i] := by simp [lget, toN, hl]
      rw [cnd_t (ilt_t (by simp only [len]; omega)), grd_t (inb_t (by simp only [len]; omega)), g, all_step hl]
      have hw : w64 (iadd (i : Int) 1) = ((i + 1 : Nat) : Int) := by
        simp only [iadd]; rw [w64_id (by omega)]; omega
      rw [hw, nm_loop hs fuel (i + 1) (by omega) (by omega)]
      cases okc (n8 s[i]) <;> rfl
    · rw [cnd_f (ilt_f (by simp only [len]; omega))]
      have : s.drop i = [] := by simp; omega
      rw [this]
      rfl
theorem lines_name (s : List UInt8) : lines_Name fuelH s = some (nm s) := by
  unfold lines_Name
  simp only [jn_e, nm_body]
  by_cases h1 : s.length < 1
  · rw [cnd_t (ilt_t (by simp only [len]; omega))]
    simp [nm]; omega
  · rw [cnd_f (ilt_f (by simp only [len]; omega))]
    by_cases h2 : 16 < s.length
    · rw [cnd_t (ilt_t (by simp only [len]; omega))]
      simp [nm]; omega
    · rw [cnd_f (ilt_f (by simp only [len]; omega)), grd_t (inb_t (by simp only [len]; omega))]
      have e0 : lget s (toN 0) 0 = s.getD 0 0 := rfl
      have e1 : n8 (65 : UInt8) = 65 := rfl
      have e2 : n8 (90 : UInt8) = 90 := rfl
      rw [e0, e1, e2, cnd_ilt]
      have hd : decide (1 ≤ s.length ∧ s.length ≤ 16) = true := decide_eq_true (by omega)
      split
      · rename_i h3
        have : upc (n8 (s.getD 0 0)) = false := decide_eq_false (by omega)
        simp only [nm, this, Bool.and_false, Bool.false_and]
      · rw [grd_t (inb_t (by simp only [len]; omega)), cnd_ilt]
        split
        · rename_i h4
          have : upc (n8 (s.getD 0 0)) = false := decide_eq_false (by omega)
          simp only [nm, this, Bool.and_false, Bool.false_and]
        · have hu : upc (n8 (s.getD 0 0)) = true := decide_eq_true (by omega)
          have := nm_loop (s := s) (by omega) fuelH 0 (by have := fuelH_eq; omega) (Nat.zero_le _)
          simp only [nm, hu, hd, Bool.true_and]
          simpa using this
end Go.Mo
end

section
/-
  Plain facts: the check of a header.
-/
namespace Go.Mo
open Go Go.W Go.Lib
set_option maxRecDepth 100000
abbrev Lbl := Int × Int × Int × Int × Bool
abbrev Hdr := UInt8 × (List UInt8) × (List UInt8) × Int × Int × Lbl × Lbl × Int × Int
theorem cnd_bnot {α : Type} {p : Prop} [Decidable p] {x y : Option α} : cnd (bnot (decide p)) x y = if p then y else x := by
  by_cases hp : p <;> simp [hp, bnot, cnd]
theorem bnd_some' {α β : Type} {a : α} {k : α → Option β} : bnd (some a) k = k a := rfl
theorem rng_eq {α : Type} {n lo hi : Int} {x r : Option α} : cnd (bnot (decide (lo ≤ n ∧ n ≤ hi))) x r = cnd (ilt n lo) x (cnd (ilt hi n) x r) := by
  rw [cnd_bnot, cnd_ilt, cnd_ilt]
  repeat' split
  all_goals first | rfl | (exfalso; omega)
end Go.Mo
end

section
/-
  Plain facts: the characters of a text, and the text of characters.
-/
namespace Go.Mo
open Go Go.W Go.Lib
set_option maxRecDepth 100000

noncomputable def rnsF : Nat → List UInt8 → List Int
  | 0, _ => []
  | n + 1, l => if l = [] then [] else ((decodeL l).1 : Int) :: rnsF n (l.drop (decodeL l).2)
/-- the characters of a text -/
noncomputable def rns (l : List UInt8) : List Int := rnsF l.length l
/-- the text of characters -/
noncomputable def ofR (l : List Int) : List UInt8 := l.flatMap enc
theorem rnsF_nil : ∀ n, rnsF n [] = []
  | 0 => rfl
  | n + 1 => by simp [rnsF]
theorem rnsF_fuel : ∀ (n m : Nat) (l : List UInt8), l.length ≤ n → l.length ≤ m → rnsF n l = rnsF m l
  | 0, m, l, h, _ => by
    have : l = [] := List.eq_nil_of_length_eq_zero (by omega)
    subst this
    rw [rnsF_nil, rnsF_nil]
  | n + 1, 0, l, _, h => by
    have : l = [] := List.eq_nil_of_length_eq_zero (by omega)
    subst this
    rw [rnsF_nil, rnsF_nil]
  | n + 1, m + 1, l, h1, h2 => by
    by_cases hl : l = []
    · subst hl; rw [rnsF_nil, rnsF_nil]
    · have hp := dec_pos l
      have hlen : 0 < l.length := List.length_pos_iff.2 hl
      simp only [rnsF, hl, if_false]
      rw [rnsF_fuel n m _ (by simp; omega) (by simp; omega)]
theorem rns_nil : rns [] = [] := rfl
theorem rns_step (l : List UInt8) (hl : l ≠ []) : rns l = ((decodeL l).1 : Int) :: rns (l.drop (decodeL l).2) := by
  have hp := dec_pos l
  have hlen : 0 < l.length := List.length_pos_iff.2 hl
  unfold rns
  obtain ⟨n, hn⟩ : ∃ n, l.length = n + 1 := ⟨l.length - 1, by omega⟩
  rw [hn]
  simp only [rnsF, hl, if_false]
  rw [rnsF_fuel n _ _ (by simp; omega) (Nat.le_refl _)]
theorem rep_mem {r : Int} (h : inRep r = true) : r ∈ loRunes ++ hiRunes := by
  unfold inRep at h
  rw [← lo_mem, Bool.or_eq_true] at h
  rw [List.mem_append]
  rcases h with h | h
  · exact .inl (List.contains_iff_mem.1 h)
  · exact .inr (List.contains_iff_mem.1 h)
theorem all_rep {P : Int → Bool} (h : ((loRunes ++ hiRunes).all P) = true) {r : Int} (hr : inRep r = true) : P r = true :=
  List.all_eq_true.1 h r (rep_mem hr)
theorem enc_rep {r : Int} (hr : inRep r = true) : enc r = encodeRune r :=
  of_decide_eq_true (all_rep (P := fun r => decide (enc r = encodeRune r)) (by kernel_rfl) hr)
theorem enc_dec (l : List UInt8) (hl : l ≠ []) (hr : inRep ((decodeL l).1 : Int) = true) : enc ((decodeL l).1 : Int) = l.take (decodeL l).2 := by
  rw [enc_rep hr]
  refine encode_decode l hl ?_
  rintro ⟨e, _⟩
  rw [e] at hr
  exact absurd hr (by decide)
theorem rns_rep : ∀ (n : Nat) (l : List UInt8), l.length ≤ n → vld l = true → (rns l).all inRep = true ∧ ofR (rns l) = l
  | n, l, h, hv => by
    by_cases hl : l = []
    · subst hl; exact ⟨rfl, rfl⟩
    · have hlen : 0 < l.length := List.length_pos_iff.2 hl
      have hp := dec_pos l
      rw [vld_step l hl] at hv
      split at hv
      · rename_i hr
        cases n with
        | zero => omega
        | succ n =>
          obtain ⟨h1, h2⟩ := rns_rep n _ (by simp; omega) hv
          rw [rns_step l hl]
          refine ⟨by rw [List.all_cons, hr, h1]; rfl, ?_⟩
          unfold ofR at h2 ⊢
          rw [List.flatMap_cons, h2, enc_dec l hl hr, List.take_append_drop]
      · cases hv
theorem rns_ok {l : List UInt8} (h : vld l = true) : (rns l).all inRep = true := (rns_rep _ l (Nat.le_refl _) h).1
theorem ofR_rns {l : List UInt8} (h : vld l = true) : ofR (rns l) = l := (rns_rep _ l (Nat.le_refl _) h).2
theorem rns_len : ∀ (n : Nat) (l : List UInt8), l.length ≤ n → (rns l).length ≤ l.length
  | n, l, h => by
    by_cases hl : l = []
    · subst hl; exact Nat.le_refl _
    · have hlen : 0 < l.length := List.length_pos_iff.2 hl
      have hp := dec_pos l
      rw [rns_step l hl]
      cases n with
      | zero => omega
      | succ n =>
        have := rns_len n (l.drop (decodeL l).2) (by simp; omega)
        simp at this ⊢
        omega

/-! ### loops -/
noncomputable def foldR {σ R : Type} (g : Int → σ → (σ → Option R) → Option R) (e : σ → Option R) : List Int → σ → Option R
  | [], a => e a
  | r :: l, a => g r a fun a' => foldR g e l a'
/-- a loop over the characters of a text -/
theorem str_loop {V R σ : Type} {F : (V → Option R) → V → Option R} {s : List UInt8} (st : σ → Nat → V) (g : Int → σ → (σ → Option R) → Option R) (e : σ → Option R)
    (hstep : ∀ self a p, p < s.length → F self (st a p) = g (decR s p) a fun a' => self (st a' (p + decW s p)))
    (hend : ∀ self a p, s.length ≤ p → F self (st a p) = e a) : ∀ (fuel p : Nat) (a : σ), s.length - p < fuel → fixN F fuel (st a p) = foldR g e (rns (s.drop p)) a
  | 0, p, a, h => by omega
  | fuel + 1, p, a, h => by
    rw [fixN_s]
    by_cases hp : p < s.length
    · have hne : s.drop p ≠ [] := by intro e; have := congrArg List.length e; simp at this; omega
      have hw := dec_pos (s.drop p)
      rw [hstep _ _ _ hp, rns_step _ hne, ← decR_eq, foldR, List.drop_drop, ← decW_eq]
      congr 1
      funext a'
      rw [decW_eq]
      have := str_loop st g e hstep hend fuel (p + (decodeL (s.drop p)).2) a' (by omega)
      exact this
    · rw [hend _ _ _ (by omega)]
      have : s.drop p = [] := by simp; omega
      rw [this]
      rfl
noncomputable def foldI {α σ R : Type} (g : Nat → α → σ → (σ → Option R) → Option R) (e : σ → Option R) : Nat → List α → σ → Option R
  | _, [], a => e a
  | i, x :: l, a => g i x a fun a' => foldI g e (i + 1) l a'
/-- a loop over the elements of a list -/
theorem lst_loop {V R σ α : Type} {F : (V → Option R) → V → Option R} {l : List α} (st : σ → Nat → V) (g : Nat → α → σ → (σ → Option R) → Option R) (e : σ → Option R)
    (hstep : ∀ self a i (h : i < l.length), F self (st a i) = g i l[i] a fun a' => self (st a' (i + 1)))
    (hend : ∀ self a, F self (st a l.length) = e a) : ∀ (fuel i : Nat) (a : σ), i ≤ l.length → l.length - i < fuel → fixN F fuel (st a i) = foldI g e i (l.drop i) a
  | 0, i, a, _, h => by omega
  | fuel + 1, i, a, hi, h => by
    rw [fixN_s]
    by_cases hl : i < l.length
    · rw [hstep _ _ _ hl, List.drop_eq_getElem_cons hl, foldI]
      congr 1
      funext a'
      exact lst_loop st g e hstep hend fuel (i + 1) a' (by omega) (by omega)
    · obtain rfl : i = l.length := by omega
      rw [hend, List.drop_length]
      rfl
theorem w64_succ {i n : Nat} (h : i < n) (hn : n ≤ 9223372036854775807) : w64 (iadd (i : Int) 1) = ((i + 1 : Nat) : Int) := by
  simp only [iadd]; rw [w64_id (by omega)]; omega
theorem lget_i {α : Type} {l : List α} {i : Nat} {d : α} (h : i < l.length) : lget l (toN (i : Int)) d = l[i] := by simp [lget, toN, h]
theorem nlt_t {a b : Nat} (h : a < b) : nlt a b = true := decide_eq_true h
theorem nlt_f {a b : Nat} (h : ¬ a < b) : nlt a b = false := decide_eq_false h
theorem toN_ofN (n : Nat) : toN (ofN n) = n := by simp [toN, ofN]
end Go.Mo
end

section
/-
  Plain facts: the characters of the tape form.
-/
namespace Go.Mo
open Go Go.W Go.Lib
set_option maxRecDepth 100000

/-! ### the layer's own functions -/
noncomputable def ixE (r : Int) : Option Int := cnd (ile 32 r) (cnd (ile r 126) (some (w64 (wr .i32 (isub r 32)))) (chain (loRunes ++ hiRunes) 0 r)) (chain (loRunes ++ hiRunes) 0 r)
theorem bnd_id {α : Type} (x : Option α) : (bnd x fun v => some v) = x := by cases x <;> rfl
theorem ch_ix (r : Int) : charset_Index fuelH r = ixE r := by
  rw [ch_index, place_eq, bnd_id]
  rfl
theorem r08_ix (r : Int) : r08_Index fuelH r = ixE r := by
  rw [r08_index, place_eq]
  rfl
noncomputable def ix (r : Int) : Int := (ixE r).getD 0
theorem ix_tab : ((loRunes ++ hiRunes).all fun r => decide (ixE r = some (ix r) ∧ 0 ≤ ix r)) = true := by kernel_rfl
theorem ix_ok {r : Int} (hr : inRep r = true) : ixE r = some (ix r) ∧ 0 ≤ ix r := of_decide_eq_true (all_rep (P := fun r => decide (ixE r = some (ix r) ∧ 0 ≤ ix r)) ix_tab hr)
/-- the capital letter -/
noncomputable def up (r : Int) : Int := if (97 ≤ r ∧ r ≤ 122) ∨ (224 ≤ r ∧ r ≤ 255) then r - 32 else if r = 339 then 338 else r
noncomputable def upK (x v0 : Int) : Option Int :=
  cnd (ilt v0 (0 : Int))
    (some (0 : Int))
    (jn (fun (v1 : Bool) =>
      cnd v1
        (some (wr .i32 (isub x (32 : Int))))
        (cnd (ieq x (339 : Int))
          (some (338 : Int))
          (some x)))
    fun v2 =>
    cnd (ile (97 : Int) x)
      (cnd (ile x (122 : Int))
        (v2 (ile x (122 : Int)))
        (cnd (ile (224 : Int) x)
          (v2 (ile x (255 : Int)))
          (v2 false)))
      (cnd (ile (224 : Int) x)
        (v2 (ile x (255 : Int)))
        (v2 false)))
theorem upper_eq {r : Int} (hr : inRep r = true) : charset_Upper fuelH r = some (up r) := by
  have h : charset_Upper fuelH r = bnd (charset_Index fuelH r) (upK r) := rfl
  rw [h, ch_ix, (ix_ok hr).1, bnd_some']
  exact of_decide_eq_true (all_rep (P := fun r => decide (upK r (ix r) = some (up r))) (by kernel_rfl) hr)
/-- the letter of a letter with a diacritic -/
noncomputable def basT : List Int := [33, 99, 76, 36, 89, 124, 83, 67, 34, 82, 111, 46, 34, 50, 63, 65, 65, 65, 65, 65, 65, 65, 67, 69, 69, 69, 69, 73, 73, 73, 73, 78, 79, 79, 79, 79, 79, 79, 85, 85, 85, 85, 115, 97, 97, 97, 97, 97, 97, 97, 99, 101, 101, 101, 101, 105, 105, 105, 105, 110, 111, 111, 111, 111, 111, 111, 117, 117, 117, 117, 79, 111, 45, 39, 39, 34, 34, 46, 46, 84, 35]
noncomputable def bas (r : Int) : Int := if r < 127 then r else basT.getD ((ix r).toNat - 95) 0
noncomputable def basB : List UInt8 := [33, 99, 76, 36, 89, 124, 83, 67, 34, 82, 111, 46, 34, 50, 63, 65, 65, 65, 65, 65, 65, 65, 67, 69, 69, 69, 69, 73, 73, 73, 73, 78, 79, 79, 79, 79, 79, 79, 85, 85, 85, 85, 115, 97, 97, 97, 97, 97, 97, 97, 99, 101, 101, 101, 101, 105, 105, 105, 105, 110, 111, 111, 111, 111, 111, 111, 117, 117, 117, 117, 79, 111, 45, 39, 39, 34, 34, 46, 46, 84, 35]
noncomputable def basK (x v0 : Int) : Option Int :=
  cnd (ilt v0 (0 : Int))
    (some (0 : Int))
    (cnd (ilt v0 (95 : Int))
      (some x)
      (grd (inb (w64 (isub v0 (95 : Int))) (len basB))
        (some (wr .i32 (n8 (lget basB (toN (w64 (isub v0 (95 : Int)))) (0 : UInt8)))))))
theorem base_eq {r : Int} (hr : inRep r = true) : charset_Base fuelH r = some (bas r) := by
  have h : charset_Base fuelH r = bnd (charset_Index fuelH r) (basK r) := by kernel_rfl
  rw [h, ch_ix, (ix_ok hr).1, bnd_some']
  exact of_decide_eq_true (all_rep (P := fun r => decide (basK r (ix r) = some (bas r))) (by kernel_rfl) hr)
/-- the bytes of diacritics, and their letters -/
noncomputable def accs : List (UInt8 × List UInt8 × List Int) := [(193, [195, 128, 195, 136, 195, 140, 195, 146, 195, 153], [192, 200, 204, 210, 217]), (194, [195, 129, 195, 137, 195, 141, 195, 147, 195, 154], [193, 201, 205, 211, 218]), (195, [195, 130, 195, 138, 195, 142, 195, 148, 195, 155], [194, 202, 206, 212, 219]), (196, [195, 131, 195, 145, 195, 149], [195, 209, 213]), (197, [], []), (198, [], []), (199, [], []), (200, [195, 132, 195, 139, 195, 143, 195, 150, 195, 156], [196, 203, 207, 214, 220]), (201, [], []), (202, [195, 133], [197]), (203, [195, 135], [199])]
theorem cont_tab : (accs.all fun a => (loRunes ++ hiRunes).all fun r => decide (strings_ContainsRune fuelH (a.2.1, up r) = some (a.2.2.contains (up r)))) = true := by kernel_rfl
theorem cont_eq {a : UInt8 × List UInt8 × List Int} (ha : a ∈ accs) {r : Int} (hr : inRep r = true) : strings_ContainsRune fuelH (a.2.1, up r) = some (a.2.2.contains (up r)) :=
  of_decide_eq_true (all_rep (P := fun r => decide (strings_ContainsRune fuelH (a.2.1, up r) = some (a.2.2.contains (up r)))) (List.all_eq_true.1 cont_tab a ha) hr)
noncomputable def sgs : List (Int × UInt8) := [(161, 161), (162, 162), (163, 163), (164, 164), (165, 165), (166, 166), (167, 167), (169, 168), (8216, 169), (8220, 170), (171, 171), (174, 172), (8212, 173), (8226, 174), (8230, 175), (176, 176), (8482, 180), (183, 183), (8217, 185), (8221, 186), (187, 187), (189, 189), (191, 191), (9834, 213), (198, 225), (216, 233), (338, 234), (230, 241), (248, 249), (339, 250), (223, 251)]
noncomputable def sgC : List (Int × UInt8) → Int → Option (List UInt8) → Option (List UInt8)
  | [], _, k => k
  | (c, b) :: l, r, k => cnd (ieq c r) (some [b]) (sgC l r k)
noncomputable def acC : List (UInt8 × List UInt8 × List Int) → Int → Option (List UInt8)
  | [], _ => some []
  | (b, s, _) :: l, r => bnd (charset_Upper fuelH r) fun v7 => bnd (strings_ContainsRune fuelH (s, v7)) fun v8 => cnd v8 (bnd (charset_Base fuelH r) fun v9 => some [b, b8 v9]) (acC l r)
theorem latin_put_eq (r : Int) : latin_Put fuelH r = bnd (latin_Carries fuelH r) fun v0 => cnd (bnot v0) (some []) (cnd (ilt r 127) (some [b8 r]) (sgC sgs r (acC accs r))) := by kernel_rfl
/-- the same without calls -/
noncomputable def acP : List (UInt8 × List UInt8 × List Int) → Int → List UInt8
  | [], _ => []
  | (b, _, l) :: r, x => if l.contains (up x) then [b, b8 (bas x)] else acP r x
theorem acC_eq {r : Int} (hr : inRep r = true) : ∀ (l : List (UInt8 × List UInt8 × List Int)), (∀ a ∈ l, a ∈ accs) → acC l r = some (acP l r)
  | [], _ => rfl
  | (b, s, m) :: l, h => by
    simp only [acC, acP]
    have := cont_eq (h (b, s, m) (by simp)) hr
    rw [upper_eq hr, bnd_some', bnd_s this, base_eq hr, bnd_some', acC_eq hr l fun a ha => h a (by simp [ha])]
    cases m.contains (up r) <;> rfl
noncomputable def sgP : List (Int × UInt8) → Int → List UInt8 → List UInt8
  | [], _, k => k
  | (c, b) :: l, r, k => if c = r then [b] else sgP l r k
theorem sgC_eq : ∀ (l : List (Int × UInt8)) (r : Int) (k : List UInt8), sgC l r (some k) = some (sgP l r k)
  | [], _, _ => rfl
  | (c, b) :: l, r, k => by
    simp only [sgC, sgP]
    rw [sgC_eq l r k]
    by_cases h : c = r
    · rw [cnd_t (ieq_t h), if_pos h]
    · rw [cnd_f (ieq_f h), if_neg h]
/-- the bytes of a character -/
noncomputable def lat (r : Int) : List UInt8 := if r < 127 then [b8 r] else sgP sgs r (acP accs r)
theorem latin_put {r : Int} (hr : inRep r = true) : latin_Put fuelH r = some (lat r) := by
  have hc : latin_Carries fuelH r = some true := by
    unfold latin_Carries
    rw [ch_ix, (ix_ok hr).1, bnd_some', ile_t (ix_ok hr).2]
  rw [latin_put_eq, bnd_s hc, cnd_f (by rfl), acC_eq hr accs fun a h => h, sgC_eq, cnd_ilt]
  unfold lat
  split <;> rfl


/-! ### the specification's functions -/
/-- the character of a byte -/
noncomputable def sgl (c : UInt8) : Int := if 32 ≤ n8 c ∧ n8 c ≤ 126 then n8 c else ((sgs.find? fun x => x.2 == c).map (·.1)).getD 0
theorem single_eq (c : UInt8) : r22_single fuelH c = some (sgl c) :=
  of_decide_eq_true (all_u8 (P := fun c => decide (r22_single fuelH c = some (sgl c))) (by kernel_rfl) c)
/-- the character of two bytes -/
noncomputable def dbT : List (UInt8 × List Int) := accs.map fun a => (a.1, a.2.2)
noncomputable def dbl (a b : UInt8) : Int :=
  let c := if 97 ≤ n8 b ∧ n8 b ≤ 122 then b - 32 else b
  match (accs.filter fun x => x.1 == a).flatMap fun x => x.2.2.filter fun r => bas r == n8 c with
  | [] => 0
  | r :: _ => if 97 ≤ n8 b ∧ n8 b ≤ 122 then r + 32 else r
theorem double_eq {n k : Nat} (hn : n < 11) (hk : k < 58) : r22_double fuelH (UInt8.ofNat (n + 193), UInt8.ofNat (k + 65)) = some (dbl (UInt8.ofNat (n + 193)) (UInt8.ofNat (k + 65))) := by
  have : ((List.range 11).all fun n => (List.range 58).all fun k => decide (r22_double fuelH (UInt8.ofNat (n + 193), UInt8.ofNat (k + 65)) = some (dbl (UInt8.ofNat (n + 193)) (UInt8.ofNat (k + 65))))) = true := by kernel_rfl
  exact of_decide_eq_true (List.all_eq_true.1 (List.all_eq_true.1 this n (List.mem_range.2 hn)) k (List.mem_range.2 hk))
/-- the first number with a property -/
noncomputable def fst1 (P : Nat → Bool) : Nat → Nat → Option Nat
  | 0, _ => none
  | n + 1, i => if P i then some i else fst1 P n (i + 1)
noncomputable def sg256 : List Int := (List.range 256).map fun n => sgl (UInt8.ofNat n)
noncomputable def db638 : List (List Int) := (List.range 11).map fun n => (List.range 58).map fun k => dbl (UInt8.ofNat (n + 193)) (UInt8.ofNat (k + 65))
noncomputable def idxI : List Int → Int → Nat → Option Nat
  | [], _, _ => none
  | c :: l, r, i => if c = r then some i else idxI l r (i + 1)
noncomputable def idxII : List (List Int) → Int → Nat → Option (Nat × Nat)
  | [], _, _ => none
  | c :: l, r, i => match idxI c r 0 with
    | some k => some (i, k)
    | none => idxII l r (i + 1)
noncomputable def latR (r : Int) : List UInt8 := match idxI sg256 r 0 with
  | some i => [UInt8.ofNat i]
  | none => match idxII db638 r 0 with
    | some (a, b) => [UInt8.ofNat (a + 193), UInt8.ofNat (b + 65)]
    | none => []
theorem latR_eq {r : Int} (hr : inRep r = true) : latR r = lat r :=
  of_decide_eq_true (all_rep (P := fun r => decide (latR r = lat r)) (by kernel_rfl) hr)
end Go.Mo
end

section
/-
  Plain facts: the bytes of a character by the specification.
-/
namespace Go.Mo
open Go Go.W Go.Lib
set_option maxRecDepth 100000

theorem b8_nat {n : Nat} (h : n < 256) : b8 (n : Int) = UInt8.ofNat n := by
  unfold b8
  congr 1
  omega
theorem foldI_idx {R : Type} (r : Int) (y : Nat → R) (K : Option R) : ∀ (l : List Int) (i : Nat), foldI (fun i c (_ : Unit) self => cnd (ieq c r) (some (y i)) (self ())) (fun _ => K) i l () = match idxI l r i with
    | some j => some (y j)
    | none => K
  | [], i => rfl
  | c :: l, i => by
    simp only [foldI, idxI]
    by_cases h : c = r
    · rw [cnd_t (ieq_t h), if_pos h]
    · rw [cnd_f (ieq_f h), if_neg h]
      exact foldI_idx r y K l (i + 1)
theorem foldI_idx2 {R : Type} (r : Int) (y : Nat → Nat → R) (K : Option R) : ∀ (l : List (List Int)) (i : Nat), foldI (fun i c (_ : Unit) self => match idxI c r 0 with
    | some k => some (y i k)
    | none => self ()) (fun _ => K) i l () = match idxII l r i with
    | some (j, k) => some (y j k)
    | none => K
  | [], i => rfl
  | c :: l, i => by
    simp only [foldI, idxII]
    cases idxI c r 0 with
    | some k => rfl
    | none => exact foldI_idx2 r y K l (i + 1)
theorem put_loops {r : Int} (T : List Int) (hT : T.length = 256) (hg : ∀ (i : Nat) (h : i < T.length), T[i] = sgl (UInt8.ofNat i)) (D : List (List Int)) (hD : D.length = 11)
    (hd : ∀ (i : Nat) (h : i < D.length), D[i].length = 58 ∧ ∀ (k : Nat) (h' : k < D[i].length), D[i][k] = dbl (UInt8.ofNat (i + 193)) (UInt8.ofNat (k + 65))) (hc : r22_Carries fuelH r = some true) :
    r22_Put fuelH r = match idxI T r 0 with
      | some i => some [UInt8.ofNat i]
      | none => match idxII D r 0 with
        | some (a, b) => some [UInt8.ofNat (a + 193), UInt8.ofNat (b + 65)]
        | none => some [] := by
  have h5 : fuelH = 8000000 := fuelH_eq
  unfold r22_Put
  rw [bnd_s hc, cnd_f (by rfl), jn_e, jn_e]
  generalize hQ : fuelH = Q at h5 ⊢
  have hsg : ∀ c, r22_single Q c = some (sgl c) := by rw [← hQ]; exact single_eq
  have hdb : ∀ n k : Nat, n < 11 → k < 58 → r22_double Q (UInt8.ofNat (n + 193), UInt8.ofNat (k + 65)) = some (dbl (UInt8.ofNat (n + 193)) (UInt8.ofNat (k + 65))) := by rw [← hQ]; exact fun n k h h' => double_eq h h'
  refine Eq.trans (lst_loop (l := T) (fun (_ : Unit) (p : Nat) => (p : Int)) (fun i c (_ : Unit) self => cnd (ieq c r) (some [UInt8.ofNat i]) (self ())) (fun _ => match idxII D r 0 with
        | some (a, b) => some [UInt8.ofNat (a + 193), UInt8.ofNat (b + 65)]
        | none => some []) (fun self a i hi => ?_) (fun self a => ?_) Q 0 () (Nat.zero_le _) (by rw [hT, h5]; decide)) ?_
  · have h1 : i < 256 := by omega
    rw [cnd_t (ilt_t (by omega)), b8_nat h1, hsg, bnd_some', w64_succ h1 (by omega), hg i hi]
  · rw [hT, cnd_f (ilt_f (by omega))]
    show fixN _ Q 193 = _
    rw [show (193 : Int) = ((0 + 193 : Nat) : Int) from rfl]
    refine Eq.trans (lst_loop (l := D) (fun (_ : Unit) (p : Nat) => ((p + 193 : Nat) : Int)) (fun i c (_ : Unit) self => match idxI c r 0 with
      | some k => some [UInt8.ofNat (i + 193), UInt8.ofNat (k + 65)]
      | none => self ()) (fun _ => some []) (fun self a i hi => ?_) (fun self a => ?_) Q 0 () (Nat.zero_le _) (by rw [hD, h5]; decide)) ?_
    · have h1 : i < 11 := by omega
      obtain ⟨hl, hr⟩ := hd i hi
      rw [cnd_t (ile_t (by omega)), jn_e, b8_nat (show i + 193 < 256 by omega), show (65 : Int) = ((0 + 65 : Nat) : Int) from rfl]
      have hw : w64 (iadd ((i + 193 : Nat) : Int) 1) = ((i + 1 + 193 : Nat) : Int) := by
        simp only [iadd]; rw [w64_id (by omega)]; omega
      rw [hw]
      refine Eq.trans (lst_loop (l := D[i]) (fun (_ : Unit) (p : Nat) => ((p + 65 : Nat) : Int)) (fun k c (_ : Unit) self => cnd (ieq c r) (some [UInt8.ofNat (i + 193), UInt8.ofNat (k + 65)]) (self ())) (fun _ => self ((i + 1 + 193 : Nat) : Int)) (fun self a k hk => ?_) (fun self a => ?_) Q 0 () (Nat.zero_le _) (by rw [hl, h5]; decide)) ?_
      · have h2 : k < 58 := by omega
        rw [cnd_t (ile_t (by omega)), b8_nat (show k + 65 < 256 by omega), hdb i k h1 h2, bnd_some', hr k hk]
        have hw : wr .i32 (iadd ((k + 65 : Nat) : Int) 1) = ((k + 1 + 65 : Nat) : Int) := by
          rw [wi32_id (by simp only [iadd]; omega)]
          simp only [iadd]; omega
        rw [hw]
      · rw [hl, cnd_f (ile_f (by omega))]
      · rw [List.drop_zero, foldI_idx r (fun k => [UInt8.ofNat (i + 193), UInt8.ofNat (k + 65)])]
    · rw [hD, cnd_f (ile_f (by omega))]
    · rw [List.drop_zero, foldI_idx2 r (fun i k => [UInt8.ofNat (i + 193), UInt8.ofNat (k + 65)])]
  · rw [List.drop_zero, foldI_idx r (fun k => [UInt8.ofNat k])]
theorem r22_put {r : Int} (hr : inRep r = true) : r22_Put fuelH r = some (lat r) := by
  have hc : r22_Carries fuelH r = some true := by
    unfold r22_Carries
    rw [r08_ix, (ix_ok hr).1, bnd_some', ile_t (ix_ok hr).2]
  rw [← latR_eq hr, put_loops sg256 (by unfold sg256; rw [List.length_map, List.length_range]) (fun i h => by simp only [sg256, List.getElem_map, List.getElem_range]) db638 (by unfold db638; rw [List.length_map, List.length_range])
    (fun i h => by
      have e : db638[i] = (List.range 58).map fun k => dbl (UInt8.ofNat (i + 193)) (UInt8.ofNat (k + 65)) := by simp only [db638, List.getElem_map, List.getElem_range]
      refine ⟨by rw [e, List.length_map, List.length_range], fun k h' => ?_⟩
      simp only [e, List.getElem_map, List.getElem_range]) hc]
  unfold latR
  generalize idxI sg256 r 0 = a
  generalize idxII db638 r 0 = b
  cases a with
  | some j => rfl
  | none => cases b with
    | some p => rfl
    | none => rfl
theorem lat_tab : ((loRunes ++ hiRunes).all fun r => decide ((lat r).length ≤ (enc r).length ∧ 0 < (lat r).length)) = true := by kernel_rfl
theorem lat_ok {r : Int} (hr : inRep r = true) : latin_Put fuelH r = some (lat r) ∧ (lat r).length ≤ (enc r).length ∧ 0 < (lat r).length ∧ r22_Put fuelH r = some (lat r) := by
  have := of_decide_eq_true (all_rep (P := fun r => decide ((lat r).length ≤ (enc r).length ∧ 0 < (lat r).length)) lat_tab hr)
  exact ⟨latin_put hr, this.1, this.2, r22_put hr⟩
end Go.Mo
end

section
/-
  Plain facts: texts in the characters of the tape form.
-/
namespace Go.Mo
open Go Go.W Go.Lib
set_option maxRecDepth 100000

/-- the bytes of a text -/
noncomputable def latE (s : List UInt8) : List UInt8 := (rns s).flatMap lat
theorem lat_len : ∀ (l : List Int), l.all inRep = true → (l.flatMap lat).length ≤ (ofR l).length
  | [], _ => Nat.le_refl _
  | r :: l, h => by
    rw [List.all_cons, Bool.and_eq_true] at h
    have h1 := (lat_ok h.1).2.1
    have h2 := lat_len l h.2
    unfold ofR at h2 ⊢
    simp only [List.flatMap_cons, List.length_append]
    omega
theorem latE_len {s : List UInt8} (h : vld s = true) : (latE s).length ≤ s.length := by
  have := lat_len (rns s) (rns_ok h)
  rwa [ofR_rns h] at this
/-- all the bytes of characters behind bytes -/
theorem put_fold {R : Type} (Put : Int → Option (List UInt8)) (hP : ∀ r, inRep r = true → Put r = some (lat r)) (k : List UInt8 → Option R) : ∀ (l : List Int) (out : List UInt8), l.all inRep = true → out.length + (ofR l).length ≤ 100000000 →
    foldR (fun r out self => bnd (Put r) fun v => grd (room (iadd (len out) (len v)) 1) (self (lapp out v))) k l out = k (out ++ l.flatMap lat)
  | [], out, _, _ => by simp [foldR]
  | r :: l, out, h, hb => by
    rw [List.all_cons, Bool.and_eq_true] at h
    have h1 := (lat_ok h.1).2.1
    simp only [ofR, List.flatMap_cons, List.length_append] at hb
    rw [foldR, bnd_s (hP r h.1), grd_t (room_t (by simp only [iadd, len]; omega))]
    show foldR _ _ _ (lapp out (lat r)) = _
    rw [put_fold Put hP k l _ h.2 (by simp only [lapp, List.length_append, ofR]; omega)]
    simp [lapp]
theorem latin_encode {s : List UInt8} (hs : s.length ≤ 4000000) : latin_Encode fuelH s = if vld s = true then some (latE s, 0) else some ([], 10) := by
  unfold latin_Encode
  rw [bnd_s (ch_valid s hs)]
  cases hv : vld s with
  | false => rfl
  | true =>
    rw [cnd_f (by rfl), jn_e, if_pos rfl]
    rw [show (([] : List UInt8), s, ofN 0) = (fun (a : List UInt8) (p : Nat) => (a, s, ofN p)) [] 0 from rfl]
    refine (str_loop (s := s) (fun (a : List UInt8) (p : Nat) => (a, s, ofN p)) (fun r out self => bnd (latin_Put fuelH r) fun v => grd (room (iadd (len out) (len v)) 1) (self (lapp out v))) (fun out => some (out, 0)) (fun self a p hp => ?_) (fun self a p hp => ?_) fuelH 0 [] (by have := fuelH_eq; omega)).trans ?_
    · simp only [toN_ofN]
      rw [cnd_t (nlt_t (show p < nlen s from hp))]
      rfl
    · simp only [toN_ofN]
      rw [cnd_f (nlt_f (show ¬ p < nlen s by unfold nlen; omega))]
    · rw [List.drop_zero, put_fold (latin_Put fuelH) (fun r h => (lat_ok h).1) _ _ _ (rns_ok hv) (by rw [ofR_rns hv]; simp; omega)]
      rfl
theorem snoc_fold {R : Type} (k : List Int → Option R) : ∀ (l out : List Int), out.length + l.length ≤ 100000000 →
    foldR (fun r out self => grd (room (iadd (len out) (len [r])) 4) (self (lapp out [r]))) k l out = k (out ++ l)
  | [], out, _ => by simp [foldR]
  | r :: l, out, h => by
    simp only [List.length_cons] at h
    rw [foldR, grd_t (room_t (by simp [iadd, len]; omega))]
    show foldR _ _ _ (lapp out [r]) = _
    rw [snoc_fold k l _ (by simp [lapp]; omega)]
    simp [lapp]
theorem r08_runes_eq {s : List UInt8} (hs : s.length ≤ 4000000) : r08_runes fuelH s = some (rns s) := by
  unfold r08_runes
  rw [jn_e]
  rw [show (([] : List Int), s, ofN 0) = (fun (a : List Int) (p : Nat) => (a, s, ofN p)) [] 0 from rfl]
  refine (str_loop (s := s) (fun (a : List Int) (p : Nat) => (a, s, ofN p)) (fun r out self => grd (room (iadd (len out) (len [r])) 4) (self (lapp out [r]))) (fun out => some out) (fun self a p hp => ?_) (fun self a p hp => ?_) fuelH 0 [] (by have := fuelH_eq; omega)).trans ?_
  · simp only [toN_ofN]
    rw [cnd_t (nlt_t (show p < nlen s from hp))]
    rfl
  · simp only [toN_ofN]
    rw [cnd_f (nlt_f (show ¬ p < nlen s by unfold nlen; omega))]
  · have := rns_len _ s (Nat.le_refl _)
    rw [List.drop_zero, snoc_fold _ _ _ (by simp; omega)]
    rfl
theorem put_foldI {R : Type} (Put : Int → Option (List UInt8)) (hP : ∀ r, inRep r = true → Put r = some (lat r)) (k : List UInt8 → Option R) : ∀ (l : List Int) (i : Nat) (out : List UInt8), l.all inRep = true → out.length + (ofR l).length ≤ 100000000 →
    foldI (fun _ r out self => bnd (Put r) fun v => grd (room (iadd (len out) (len v)) 1) (self (lapp out v))) k i l out = k (out ++ l.flatMap lat)
  | [], i, out, _, _ => by simp [foldI]
  | r :: l, i, out, h, hb => by
    rw [List.all_cons, Bool.and_eq_true] at h
    have h1 := (lat_ok h.1).2.1
    simp only [ofR, List.flatMap_cons, List.length_append] at hb
    rw [foldI, bnd_s (hP r h.1), grd_t (room_t (by simp only [iadd, len]; omega))]
    show foldI _ _ _ _ (lapp out (lat r)) = _
    rw [put_foldI Put hP k l (i + 1) _ h.2 (by simp only [lapp, List.length_append, ofR]; omega)]
    simp [lapp]
theorem r22_encode {s : List UInt8} (hs : s.length ≤ 4000000) : r22_Encode fuelH s = if vld s = true then some (latE s, 0) else some ([], 10) := by
  unfold r22_Encode
  rw [bnd_s (r08_valid s hs)]
  cases hv : vld s with
  | false => rfl
  | true =>
    have hc : r08_Chars fuelH s = some (rns s) := by
      unfold r08_Chars
      rw [bnd_s (r08_valid s hs), hv, cnd_f (by rfl), bnd_s (r08_runes_eq hs)]
    have hl := rns_len _ s (Nat.le_refl _)
    rw [cnd_f (by rfl), jn_e, if_pos rfl, bnd_s hc]
    rw [show (([] : List UInt8), (0 : Int)) = (fun (a : List UInt8) (p : Nat) => (a, (p : Int))) [] 0 from rfl]
    refine (lst_loop (l := rns s) (fun (a : List UInt8) (p : Nat) => (a, (p : Int))) (fun _ r out self => bnd (r22_Put fuelH r) fun v => grd (room (iadd (len out) (len v)) 1) (self (lapp out v))) (fun out => some (out, 0)) (fun self a i hi => ?_) (fun self a => ?_) fuelH 0 [] (Nat.zero_le _) (by have := fuelH_eq; omega)).trans ?_
    · rw [cnd_t (ilt_t (by simp only [len]; omega)), grd_t (inb_t (by simp only [len]; omega)), lget_i hi, w64_succ hi (by omega)]
    · rw [cnd_f (ilt_f (by simp only [len]; omega))]
    · rw [List.drop_zero, put_foldI (r22_Put fuelH) (fun r h => (lat_ok h).2.2.2) _ _ _ _ (rns_ok hv) (by rw [ofR_rns hv]; simp; omega)]
      rfl
end Go.Mo
end

section
/-
  Small plain facts: bytes, lengths, equality of texts.
-/
namespace Go.Mo
open Go Go.W Go.Lib
set_option maxRecDepth 100000
noncomputable section
theorem catOk_t {n : Int} (h : n ≤ 9223372036854775807) : catOk n = true := decide_eq_true h
theorem n8_rng (c : UInt8) : 0 ≤ n8 c ∧ n8 c < 256 := by
  unfold n8
  have : c.toNat < 256 := c.toNat_lt
  omega
theorem enc_len {r : Int} (hr : inRep r = true) : (enc r).length ≤ 4 :=
  of_decide_eq_true (all_rep (P := fun r => decide ((enc r).length ≤ 4)) (by kernel_rfl) hr)
theorem sgs_rep : (sgs.all fun x => inRep x.1) = true := by kernel_rfl
theorem seq_dec (x y : List UInt8) : seq x y = decide (x = y) := by
  unfold seq
  by_cases h : x = y
  · subst h; simp
  · rw [decide_eq_false h]
    simpa using h
end
end Go.Mo
end

section
/-
  Plain facts: characters of the tape form read back.
-/
namespace Go.Mo
open Go Go.W Go.Lib
set_option maxRecDepth 100000
noncomputable section

/-! ### tables -/
/-- the small letter -/
noncomputable def low (r : Int) : Int := if (65 ≤ r ∧ r ≤ 90) ∨ (192 ≤ r ∧ r < 223) then r + 32 else if r = 338 then 339 else r
noncomputable def lowK (x v0 : Int) : Option Int :=
  cnd (ilt v0 (0 : Int))
    (some (0 : Int))
    (jn (fun (v1 : Bool) =>
      cnd v1
        (some (wr .i32 (iadd x (32 : Int))))
        (cnd (ieq x (338 : Int))
          (some (339 : Int))
          (some x)))
    fun v2 =>
    cnd (ile (65 : Int) x)
      (cnd (ile x (90 : Int))
        (v2 (ile x (90 : Int)))
        (cnd (ile (192 : Int) x)
          (v2 (ilt x (223 : Int)))
          (v2 false)))
      (cnd (ile (192 : Int) x)
        (v2 (ilt x (223 : Int)))
        (v2 false)))
theorem lower_eq {r : Int} (hr : inRep r = true) : charset_Lower fuelH r = some (low r) := by
  have h : charset_Lower fuelH r = bnd (charset_Index fuelH r) (lowK r) := by kernel_rfl
  rw [h, ch_ix, (ix_ok hr).1, bnd_some']
  exact of_decide_eq_true (all_rep (P := fun r => decide (lowK r (ix r) = some (low r))) (by kernel_rfl) hr)
/-- the letters of the byte of a diacritic: their bytes, and themselves -/
noncomputable def accS (a : UInt8) : List UInt8 := match accs.find? fun x => x.1 == a with
  | some x => x.2.1
  | none => []
noncomputable def accR (a : UInt8) : List Int := match accs.find? fun x => x.1 == a with
  | some x => x.2.2
  | none => []
theorem accR_tab (a : UInt8) : latin_accented fuelH a = some (accS a) ∧ rns (accS a) = accR a ∧ (accR a).all (fun r => inRep r && inRep (low r)) = true :=
  of_decide_eq_true (all_u8 (P := fun a => decide (latin_accented fuelH a = some (accS a) ∧ rns (accS a) = accR a ∧ (accR a).all (fun r => inRep r && inRep (low r)) = true)) (by kernel_rfl) a)
noncomputable def sgStr : List UInt8 := [194, 161, 194, 162, 194, 163, 194, 164, 194, 165, 194, 166, 194, 167, 194, 169, 226, 128, 152, 226, 128, 156, 194, 171, 194, 174, 226, 128, 148, 226, 128, 162, 226, 128, 166, 194, 176, 226, 132, 162, 194, 183, 226, 128, 153, 226, 128, 157, 194, 187, 194, 189, 194, 191, 226, 153, 170, 195, 134, 195, 152, 197, 146, 195, 166, 195, 184, 197, 147, 195, 159]
noncomputable def sgB : List UInt8 := [161, 162, 163, 164, 165, 166, 167, 168, 169, 170, 171, 172, 173, 174, 175, 176, 180, 183, 185, 186, 187, 189, 191, 213, 225, 233, 234, 241, 249, 250, 251]
theorem sgStr_rns : rns sgStr = sgs.map (·.1) := by kernel_rfl

/-! ### the character at the beginning of bytes -/
noncomputable def gS (a : UInt8) (r i : Int) (self : Int → Option (Int × Int)) : Option (Int × Int) :=
  grd (inb i (len sgB)) (cnd (ieq (n8 (lget sgB (toN i) (0 : UInt8))) (n8 a)) (some (r, (1 : Int))) (self (w64 (iadd i (1 : Int)))))
noncomputable def sgG : List (Int × UInt8) → UInt8 → Option (Int × Int) → Option (Int × Int)
  | [], _, K => K
  | (r, b) :: l, a, K => cnd (ieq (n8 b) (n8 a)) (some (r, (1 : Int))) (sgG l a K)
theorem gS_eq (a : UInt8) (K : Option (Int × Int)) : foldR (gS a) (fun _ => K) (sgs.map (·.1)) 0 = sgG sgs a K := by kernel_rfl
noncomputable def inner (r w : Int) (x : List UInt8) (K : Option (Int × Int)) : Option (Int × Int) :=
  fixN (fun v8 (v9 : Int) =>
                cnd (ilt v9 (2 : Int))
                  (grd (inb v9 (ofN 2))
                    (bnd (charset_Base fuelH (lget ([r, w] : List Int) (toN v9) (0 : Int))) fun v10 =>
                    grd (inb (1 : Int) (len x)) <|
                    cnd (ieq v10 (wr .i32 (n8 (lget x (toN (1 : Int)) (0 : UInt8)))))
                      (some (lget ([r, w] : List Int) (toN v9) (0 : Int), (2 : Int)))
                      (v8 (w64 (iadd v9 (1 : Int))))))
                  K) fuelH (0 : Int)
theorem wr8 (c : UInt8) : wr .i32 (n8 c) = n8 c := by
  have := n8_rng c
  exact wi32_id (by omega)
theorem inner_eq {r w : Int} (hr : inRep r = true) (hw : inRep w = true) (a b : UInt8) (t : List UInt8) (K : Option (Int × Int)) :
    inner r w (a :: b :: t) K = cnd (ieq (bas r) (n8 b)) (some (r, 2)) (cnd (ieq (bas w) (n8 b)) (some (w, 2)) K) := by
  unfold inner
  refine Eq.trans (lst_loop (l := [r, w]) (fun (_ : Unit) (p : Nat) => (p : Int)) (fun _ c (_ : Unit) self => bnd (charset_Base fuelH c) fun v10 => cnd (ieq v10 (n8 b)) (some (c, (2 : Int))) (self ())) (fun _ => K) (fun self a' i hi => ?_) (fun self a => ?_) fuelH 0 () (Nat.zero_le _) (by have := fuelH_eq; show 2 - 0 < fuelH; omega)) ?_
  · have hi2 : i < 2 := hi
    rw [cnd_t (ilt_t (by omega)), grd_t (inb_t (by simp only [ofN]; omega)), lget_i hi, w64_succ hi2 (by omega)]
    rw [show lget (a :: b :: t) (toN (1 : Int)) 0 = b from rfl, wr8]
    have hg : inb (1 : Int) (len (a :: b :: t)) = true := inb_t (by simp only [len, List.length_cons]; omega)
    rw [hg]
    rfl
  · exact cnd_f (by rfl)
  · rw [List.drop_zero]
    simp only [foldI]
    rw [base_eq hr, base_eq hw]
    rfl
noncomputable def acG : List Int → UInt8 → Option (Int × Int)
  | [], _ => some (0, 0)
  | r :: l, b => cnd (ieq (bas r) (n8 b)) (some (r, (2 : Int))) (cnd (ieq (bas (low r)) (n8 b)) (some (low r, (2 : Int))) (acG l b))
theorem acG_eq (a b : UInt8) (t : List UInt8) : ∀ l : List Int, l.all (fun r => inRep r && inRep (low r)) = true →
    foldR (fun r (_ : Unit) self => bnd (charset_Lower fuelH r) fun v7 => inner r v7 (a :: b :: t) (self ())) (fun _ => some (0, 0)) l () = acG l b
  | [], _ => rfl
  | r :: l, h => by
    rw [List.all_cons, Bool.and_eq_true, Bool.and_eq_true] at h
    rw [foldR, lower_eq h.1.1, bnd_some', inner_eq h.1.1 h.1.2]
    show cnd _ _ (cnd _ _ (foldR _ _ l ())) = _
    rw [acG_eq a b t l h.2]
    rfl
noncomputable def acH (a : UInt8) : List UInt8 → Option (Int × Int)
  | [] => some (0, 0)
  | b :: _ => acG (accR a) b
noncomputable def gtX (a : UInt8) (t : List UInt8) : Option (Int × Int) := sgG sgs a (acH a t)
noncomputable def gtZ (x : List UInt8) : Option (Int × Int) :=
      jn (fun (v1 : Unit) =>
        cnd (ilt (len x) (2 : Int))
          (some ((0 : Int), (0 : Int)))
          (jn (fun (v2 : Unit) =>
            some ((0 : Int), (0 : Int)))
          fun v3 =>
          grd (inb (0 : Int) (len x)) <|
          bnd (latin_accented fuelH (lget x (toN (0 : Int)) (0 : UInt8))) fun v4 =>
          fixN (fun v5 (v6 : (List UInt8) × Int) =>
            cnd (nlt (toN v6.2) (nlen v6.1))
              (bnd (charset_Lower fuelH (decR v6.1 (toN v6.2))) fun v7 =>
              inner (decR v6.1 (toN v6.2)) v7 x (v5 (v6.1, ofN (nadd (toN v6.2) (decW v6.1 (toN v6.2))))))
              (v3 ())) fuelH (v4, ofN 0)))
      fun v11 =>
      fixN (fun v12 (v13 : Int × (List UInt8) × Int) =>
        cnd (nlt (toN v13.2.2) (nlen v13.2.1))
          (grd (inb v13.1 (len sgB))
            (grd (inb (0 : Int) (len x))
              (cnd (ieq (n8 (lget sgB (toN v13.1) (0 : UInt8))) (n8 (lget x (toN (0 : Int)) (0 : UInt8))))
                (some (decR v13.2.1 (toN v13.2.2), (1 : Int)))
                (v12 (w64 (iadd v13.1 (1 : Int)), v13.2.1, ofN (nadd (toN v13.2.2) (decW v13.2.1 (toN v13.2.2))))))))
          (v11 ())) fuelH ((0 : Int), sgStr, ofN 0)
noncomputable def gtY (x : List UInt8) : Option (Int × Int) :=
  jn (fun (_ : Unit) =>
      gtZ x)
    fun v14 =>
    grd (inb (0 : Int) (len x)) <|
    cnd (ile (n8 (32 : UInt8)) (n8 (lget x (toN (0 : Int)) (0 : UInt8))))
      (grd (inb (0 : Int) (len x))
        (cnd (ilt (n8 (lget x (toN (0 : Int)) (0 : UInt8))) (n8 (127 : UInt8)))
          (grd (inb (0 : Int) (len x))
            (some (wr .i32 (n8 (lget x (toN (0 : Int)) (0 : UInt8))), (1 : Int))))
          (v14 ())))
      (v14 ())
theorem gtY_eq (x : List UInt8) : latin_Get fuelH x = cnd (ieq (len x) (0 : Int)) (some ((0 : Int), (0 : Int))) (gtY x) := by kernel_rfl
theorem gtZ_eq (a : UInt8) (t : List UInt8) : gtZ (a :: t) = gtX a t := by
  have hb : inb (0 : Int) (len (a :: t)) = true := inb_t (by simp only [len, List.length_cons]; omega)
  have g0 : lget (a :: t) (toN (0 : Int)) 0 = a := rfl
  have hS : sgStr.length = 71 := by kernel_rfl
  unfold gtZ
  rw [jn_e, hb, g0]
  have e : ∀ K : Option (Int × Int), fixN (fun v12 (v13 : Int × (List UInt8) × Int) =>
        cnd (nlt (toN v13.2.2) (nlen v13.2.1))
          (grd (inb v13.1 (len sgB))
            (grd true
              (cnd (ieq (n8 (lget sgB (toN v13.1) (0 : UInt8))) (n8 a))
                (some (decR v13.2.1 (toN v13.2.2), (1 : Int)))
                (v12 (w64 (iadd v13.1 (1 : Int)), v13.2.1, ofN (nadd (toN v13.2.2) (decW v13.2.1 (toN v13.2.2))))))))
          K) fuelH ((0 : Int), sgStr, ofN 0) = sgG sgs a K := by
    intro K
    refine Eq.trans (str_loop (s := sgStr) (fun (i : Int) (p : Nat) => (i, sgStr, ofN p)) (gS a) (fun _ => K) (fun self i p hp => ?_) (fun self i p hp => ?_) fuelH 0 0 (by rw [hS]; decide)) ?_
    · rw [cnd_t (nlt_t (show toN (ofN p) < nlen sgStr by rw [toN_ofN]; exact hp))]
      simp only [toN_ofN]
      rfl
    · rw [cnd_f (nlt_f (show ¬ toN (ofN p) < nlen sgStr by rw [toN_ofN]; unfold nlen; omega))]
    · rw [List.drop_zero, sgStr_rns, gS_eq]
  have e' : acH a t = cnd (ilt (len (a :: t)) (2 : Int))
          (some ((0 : Int), (0 : Int)))
          (jn (fun (v2 : Unit) =>
            some ((0 : Int), (0 : Int)))
          fun v3 =>
          grd true <|
          bnd (latin_accented fuelH a) fun v4 =>
          fixN (fun v5 (v6 : (List UInt8) × Int) =>
            cnd (nlt (toN v6.2) (nlen v6.1))
              (bnd (charset_Lower fuelH (decR v6.1 (toN v6.2))) fun v7 =>
              inner (decR v6.1 (toN v6.2)) v7 (a :: t) (v5 (v6.1, ofN (nadd (toN v6.2) (decW v6.1 (toN v6.2))))))
              (v3 ())) fuelH (v4, ofN 0)) := by
    cases t with
    | nil => rfl
    | cons b t =>
      obtain ⟨h1, h2, h3⟩ := accR_tab a
      have hl : (accS a).length < 100 := of_decide_eq_true (all_u8 (P := fun a => decide ((accS a).length < 100)) (by kernel_rfl) a)
      rw [cnd_f (ilt_f (by simp only [len, List.length_cons]; omega)), jn_e, h1, grd_t rfl, bnd_some']
      refine Eq.symm (Eq.trans (str_loop (s := accS a) (fun (_ : Unit) (p : Nat) => (accS a, ofN p)) (fun r (_ : Unit) self => bnd (charset_Lower fuelH r) fun v7 => inner r v7 (a :: b :: t) (self ())) (fun _ => some (0, 0)) (fun self i p hp => ?_) (fun self i p hp => ?_) fuelH 0 () (by have := fuelH_eq; omega)) ?_)
      · rw [cnd_t (nlt_t (show toN (ofN p) < nlen (accS a) by rw [toN_ofN]; exact hp))]
        simp only [toN_ofN]
        rfl
      · rw [cnd_f (nlt_f (show ¬ toN (ofN p) < nlen (accS a) by rw [toN_ofN]; unfold nlen; omega))]
      · rw [List.drop_zero, h2, acG_eq a b t _ h3]
        rfl
  unfold gtX
  rw [e']
  exact e _
theorem latin_get_cons (a : UInt8) (t : List UInt8) : latin_Get fuelH (a :: t) = cnd (ile 32 (n8 a)) (cnd (ilt (n8 a) 127) (some (n8 a, 1)) (gtX a t)) (gtX a t) := by
  have hb : inb (0 : Int) (len (a :: t)) = true := inb_t (by simp only [len, List.length_cons]; omega)
  have g0 : lget (a :: t) (toN (0 : Int)) 0 = a := rfl
  rw [gtY_eq, cnd_f (ieq_f (by simp only [len, List.length_cons]; omega))]
  unfold gtY
  rw [jn_e, hb, g0, wr8]
  show grd true (cnd _ (grd true (cnd _ (grd true _) (gtZ (a :: t)))) (gtZ (a :: t))) = _
  rw [gtZ_eq]
  rfl
noncomputable def sgF (a : UInt8) : Option (Int × UInt8) := sgs.find? fun x => n8 x.2 == n8 a
theorem sgG_eq (a : UInt8) (K : Option (Int × Int)) : ∀ l : List (Int × UInt8), sgG l a K = match l.find? fun x => n8 x.2 == n8 a with
    | some x => some (x.1, 1)
    | none => K
  | [] => rfl
  | (r, b) :: l => by
    simp only [sgG, List.find?_cons]
    by_cases h : n8 b = n8 a
    · rw [cnd_t (ieq_t h), show (n8 b == n8 a) = true from by simp [h]]
    · rw [cnd_f (ieq_f h), show (n8 b == n8 a) = false from by simp [h], sgG_eq a K l]
/-- what the bytes of a character say -/
noncomputable def latB (r : Int) : Bool := match lat r with
  | [a] => (decide (32 ≤ n8 a) && decide (n8 a < 127) && decide (n8 a = r)) || (!(decide (32 ≤ n8 a) && decide (n8 a < 127)) && decide ((sgF a).map (·.1) = some r))
  | [a, b] => !(decide (32 ≤ n8 a) && decide (n8 a < 127)) && (sgF a).isNone && decide (acG (accR a) b = some (r, 2))
  | _ => false
theorem latin_get_lat {r : Int} (hr : inRep r = true) (t : List UInt8) : latin_Get fuelH (lat r ++ t) = some (r, ((lat r).length : Int)) := by
  have hb : latB r = true := all_rep (P := latB) (by kernel_rfl) hr
  unfold latB at hb
  have hx : ∀ a (u : List UInt8), (decide (32 ≤ n8 a) && decide (n8 a < 127)) = false → latin_Get fuelH (a :: u) = gtX a u := by
    intro a u h
    rw [latin_get_cons, cnd_ile, cnd_ilt]
    simp only [Bool.and_eq_false_iff, decide_eq_false_iff_not] at h
    split
    · rw [if_neg (by omega)]
    · rfl
  split at hb
  · rename_i a he
    rw [he]
    show latin_Get fuelH (a :: t) = some (r, 1)
    simp only [Bool.or_eq_true, Bool.and_eq_true, decide_eq_true_eq, Bool.not_eq_true'] at hb
    rcases hb with ⟨⟨h1, h2⟩, h3⟩ | ⟨h1, h2⟩
    · rw [latin_get_cons, cnd_t (ile_t h1), cnd_t (ilt_t h2), h3]
    · rw [hx a t h1]
      unfold gtX
      rw [sgG_eq]
      unfold sgF at h2
      cases hf : sgs.find? fun x => n8 x.2 == n8 a with
      | none => rw [hf] at h2; simp at h2
      | some x =>
        rw [hf] at h2
        simp only [Option.map_some, Option.some.injEq] at h2
        simp only [h2]
  · rename_i a b he
    rw [he]
    show latin_Get fuelH (a :: b :: t) = some (r, 2)
    simp only [Bool.and_eq_true, decide_eq_true_eq, Bool.not_eq_true', Option.isNone_iff_eq_none] at hb
    rw [hx a _ hb.1.1]
    unfold gtX
    rw [sgG_eq]
    have := hb.1.2
    unfold sgF at this
    rw [this]
    exact hb.2
  · cases hb
end
end Go.Mo
end

section
/-
  Plain facts: the specification's reader of headers.
-/
namespace Go.Mo
open Go Go.W Go.Lib
set_option maxRecDepth 100000
noncomputable section

/-! ### characters -/
noncomputable def mks : List UInt8 := [193, 193, 193, 193, 193, 194, 194, 194, 194, 194, 195, 195, 195, 195, 195, 196, 196, 196, 200, 200, 200, 200, 200, 202, 203]
noncomputable def lts : List UInt8 := [65, 69, 73, 79, 85, 65, 69, 73, 79, 85, 65, 69, 73, 79, 85, 65, 78, 79, 65, 69, 73, 79, 85, 65, 67]
noncomputable def chs : List Int := [192, 200, 204, 210, 217, 193, 201, 205, 211, 218, 194, 202, 206, 212, 219, 195, 209, 213, 196, 203, 207, 214, 220, 197, 199]
noncomputable def dblK (a : UInt8) (v0 : Bool) (v1 : UInt8) : Option Int :=
  jn (fun (_ : Unit) => some (0 : Int)) fun v3 =>
  fixN (fun v4 (v5 : Int) =>
        cnd (ilt v5 (len mks))
          (grd (inb v5 (len mks))
            (cnd (ieq (n8 (lget mks (toN v5) (0 : UInt8))) (n8 a))
              (grd (inb v5 (len lts))
                (cnd (ieq (n8 (lget lts (toN v5) (0 : UInt8))) (n8 v1))
                  (cnd v0
                    (grd (inb v5 (len chs))
                      (some (wr .i32 (iadd (lget chs (toN v5) (0 : Int)) (32 : Int)))))
                    (grd (inb v5 (len chs))
                      (some (lget chs (toN v5) (0 : Int)))))
                  (v4 (w64 (iadd v5 (1 : Int))))))
              (v4 (w64 (iadd v5 (1 : Int))))))
          (v3 ())) fuelH (0 : Int)
noncomputable def dblV (a b : UInt8) (v0 : Bool) : Option Int :=
  jn (fun (v1 : UInt8) => dblK a v0 v1) fun v6 => cnd v0 (v6 (b8 (isub (n8 b) (n8 (32 : UInt8))))) (v6 b)
theorem double_form (a b : UInt8) : r22_double fuelH (a, b) = jn (fun (v0 : Bool) => dblV a b v0) fun v7 => cnd (ile (n8 (97 : UInt8)) (n8 b)) (v7 (ile (n8 b) (n8 (122 : UInt8)))) (v7 false) := by kernel_rfl
theorem dblK_none {a : UInt8} (h : mks.all (fun m => n8 m != n8 a) = true) (v0 : Bool) (v1 : UInt8) : dblK a v0 v1 = some 0 := by
  unfold dblK
  rw [jn_e]
  have hl : mks.length = 25 := rfl
  refine Eq.trans (lst_loop (l := mks) (fun (_ : Unit) (p : Nat) => (p : Int)) (fun _ _ (_ : Unit) self => self ()) (fun _ => some 0) (fun self a' i hi => ?_) (fun self a => ?_) fuelH 0 () (Nat.zero_le _) (by rw [hl]; decide)) ?_
  · have hm : n8 mks[i] ≠ n8 a := by
      have := List.all_eq_true.1 h mks[i] (List.getElem_mem hi)
      simpa using this
    rw [cnd_t (ilt_t (by simp only [len]; omega)), grd_t (inb_t (by simp only [len]; omega)), lget_i hi, cnd_f (ieq_f hm), w64_succ hi (by omega)]
  · rw [cnd_f (ilt_f (by simp only [len]; omega))]
  · rfl
theorem cnd_same {α : Type} {b : Bool} {x y r : Option α} (hx : x = r) (hy : y = r) : cnd b x y = r := by cases b <;> assumption
theorem double_none {a : UInt8} (h : mks.all (fun m => n8 m != n8 a) = true) (b : UInt8) : r22_double fuelH (a, b) = some 0 := by
  have hv : ∀ v0, dblV a b v0 = some 0 := by
    intro v0
    unfold dblV
    rw [jn_e]
    exact cnd_same (dblK_none h _ _) (dblK_none h _ _)
  rw [double_form, jn_e]
  exact cnd_same (hv _) (hv _)
noncomputable def mk7 : List UInt8 := [193, 194, 195, 196, 200, 202, 203]
theorem mk7_tab (a : UInt8) : mk7.contains a = true ∨ (mks.all (fun m => n8 m != n8 a) = true ∧ accR a = []) :=
  of_decide_eq_true (all_u8 (P := fun a => decide (mk7.contains a = true ∨ (mks.all (fun m => n8 m != n8 a) = true ∧ accR a = []))) (by kernel_rfl) a)
noncomputable def dok (a b : UInt8) : Bool := match r22_double fuelH (a, b) with
  | some d => decide (acG (accR a) b = if d = 0 then some (0, 0) else some (d, 2))
  | none => false
theorem dok_tab (b : UInt8) : (mk7.all fun a => dok a b) = true := all_u8 (P := fun b => mk7.all fun a => dok a b) (by kernel_rfl) b
theorem double_acG (a b : UInt8) : ∃ d, r22_double fuelH (a, b) = some d ∧ acG (accR a) b = if d = 0 then some (0, 0) else some (d, 2) := by
  rcases mk7_tab a with h | ⟨h, h2⟩
  · have := List.all_eq_true.1 (dok_tab b) a (List.contains_iff_mem.1 h)
    unfold dok at this
    cases hd : r22_double fuelH (a, b) with
    | none => rw [hd] at this; cases this
    | some d => rw [hd] at this; exact ⟨d, rfl, of_decide_eq_true this⟩
  · exact ⟨0, double_none h b, by rw [h2]; rfl⟩
noncomputable def sok (a : UInt8) : Bool := if 32 ≤ n8 a ∧ n8 a < 127 then decide (sgl a = n8 a) else match sgF a with
  | some x => decide (sgl a = x.1 ∧ x.1 ≠ 0)
  | none => decide (sgl a = 0)
theorem sok_tab (a : UInt8) : sok a = true := all_u8 (P := sok) (by kernel_rfl) a
theorem get_same (x : List UInt8) : r22_Get fuelH x = latin_Get fuelH x := by
  cases x with
  | nil => kernel_rfl
  | cons a t =>
    have hR : latin_Get fuelH (a :: t) = if 32 ≤ n8 a ∧ n8 a < 127 then some (n8 a, 1) else gtX a t := by
      rw [latin_get_cons, cnd_ile, cnd_ilt]
      by_cases h1 : 32 ≤ n8 a
      · rw [if_pos h1]
        by_cases h2 : n8 a < 127
        · rw [if_pos h2, if_pos ⟨h1, h2⟩]
        · rw [if_neg h2, if_neg (fun h => h2 h.2)]
      · rw [if_neg h1, if_neg (fun h => h1 h.1)]
    unfold r22_Get
    have hb : inb (0 : Int) (len (a :: t)) = true := inb_t (by simp only [len, List.length_cons]; omega)
    have g0 : lget (a :: t) (toN (0 : Int)) 0 = a := rfl
    rw [cnd_f (ieq_f (by simp only [len, List.length_cons]; omega)), grd_t hb, g0, single_eq, bnd_some', cnd_ine, hR]
    have hs := sok_tab a
    unfold sok at hs
    have hX : sgl a = 0 → sgF a = none → (cnd (ilt (1 : Int) (len (a :: t)))
          (grd (inb (0 : Int) (len (a :: t)))
            (grd (inb (1 : Int) (len (a :: t)))
              (bnd (r22_double fuelH (a, lget (a :: t) (toN (1 : Int)) (0 : UInt8))) fun v1 =>
              cnd (ine v1 (0 : Int))
                (some (v1, (2 : Int)))
                (some ((0 : Int), (0 : Int))))))
          (some ((0 : Int), (0 : Int)))) = gtX a t := by
      intro h0 hf
      unfold gtX
      rw [sgG_eq]
      unfold sgF at hf
      rw [hf]
      cases t with
      | nil => rfl
      | cons b t =>
        obtain ⟨d, h1, h2⟩ := double_acG a b
        rw [cnd_t (ilt_t (by simp only [len, List.length_cons]; omega)), grd_t (inb_t (by simp only [len, List.length_cons]; omega)), grd_t (inb_t (by simp only [len, List.length_cons]; omega))]
        show bnd (r22_double fuelH (a, b)) _ = acG (accR a) b
        rw [h1, bnd_some', h2, cnd_ine]
        by_cases hd : d = 0
        · rw [if_neg (by simp [hd]), if_pos hd]
        · rw [if_pos hd, if_neg hd]
    have hY : (if sgl a ≠ 0 then some (sgl a, (1 : Int)) else (cnd (ilt (1 : Int) (len (a :: t)))
          (grd (inb (0 : Int) (len (a :: t)))
            (grd (inb (1 : Int) (len (a :: t)))
              (bnd (r22_double fuelH (a, lget (a :: t) (toN (1 : Int)) (0 : UInt8))) fun v1 =>
              cnd (ine v1 (0 : Int))
                (some (v1, (2 : Int)))
                (some ((0 : Int), (0 : Int))))))
          (some ((0 : Int), (0 : Int))))) = if 32 ≤ n8 a ∧ n8 a < 127 then some (n8 a, 1) else gtX a t := by
      by_cases hc : 32 ≤ n8 a ∧ n8 a < 127
      · rw [if_pos hc] at hs
        have := of_decide_eq_true hs
        rw [if_pos hc, this, if_pos (by omega)]
      · rw [if_neg hc] at hs
        rw [if_neg hc]
        cases hf : sgF a with
        | some y =>
          rw [hf] at hs
          have := of_decide_eq_true hs
          rw [this.1, if_pos this.2]
          unfold gtX
          rw [sgG_eq]
          unfold sgF at hf
          rw [hf]
        | none =>
          rw [hf] at hs
          have := of_decide_eq_true hs
          rw [if_neg (by simp [this])]
          exact hX this hf
    exact hY
theorem of_eq {l : List Int} (hl : l.length ≤ 4000000) (h : l.all inRep = true) : r08_Of fuelH l = some (ofR l) := by
  unfold r08_Of
  rw [jn_e, show (([] : List UInt8), (0 : Int)) = (fun (s : List UInt8) (p : Nat) => (s, (p : Int))) [] 0 from rfl]
  refine Eq.trans (lst_loop (l := l) (fun (s : List UInt8) (p : Nat) => (s, (p : Int))) (fun _ r s self => bnd (r08_Index fuelH r) fun v4 => cnd (ilt v4 (0 : Int)) (some ([] : List UInt8)) (grd (catOk (iadd (len s) (len (enc r)))) (self (lapp s (enc r))))) (fun s => some s) (fun self s i hi => ?_) (fun self s => ?_) fuelH 0 [] (Nat.zero_le _) (by have := fuelH_eq; omega)) ?_
  · rw [cnd_t (ilt_t (by simp only [len]; omega)), grd_t (inb_t (by simp only [len]; omega)), lget_i hi, w64_succ hi (by omega)]
  · rw [cnd_f (ilt_f (by simp only [len]; omega))]
  · rw [List.drop_zero]
    have : ∀ (l : List Int) (i : Nat) (s : List UInt8), l.all inRep = true → s.length + 4 * l.length ≤ 100000000 → foldI (fun _ r s self => bnd (r08_Index fuelH r) fun v4 => cnd (ilt v4 (0 : Int)) (some ([] : List UInt8)) (grd (catOk (iadd (len s) (len (enc r)))) (self (lapp s (enc r))))) (fun s => some s) i l s = some (s ++ ofR l) := by
      intro l
      induction l with
      | nil => intro i s _ _; simp [foldI, ofR]
      | cons r l ih =>
        intro i s h hb
        rw [List.all_cons, Bool.and_eq_true] at h
        simp only [List.length_cons] at hb
        have he := enc_len h.1
        have hx := (ix_ok h.1).2
        rw [foldI, r08_ix, (ix_ok h.1).1, bnd_some', cnd_f (ilt_f (by omega)), grd_t (catOk_t (by simp only [iadd, len]; omega))]
        show foldI _ _ _ l (s ++ enc r) = _
        rw [ih (i + 1) (s ++ enc r) h.2 (by rw [List.length_append]; omega)]
        unfold ofR
        rw [List.flatMap_cons, List.append_assoc]
    rw [this l 0 [] h (by simp only [List.length_nil]; omega)]
    rfl
theorem ofR_len : ∀ l : List Int, l.all inRep = true → (ofR l).length ≤ 4 * l.length
  | [], _ => Nat.le_refl _
  | r :: l, h => by
    rw [List.all_cons, Bool.and_eq_true] at h
    have h1 := enc_len h.1
    have h2 := ofR_len l h.2
    unfold ofR at h2 ⊢
    rw [List.flatMap_cons, List.length_append, List.length_cons]
    omega
noncomputable def dec22F : ((List UInt8) × List Int → Option (List UInt8 × Int)) → (List UInt8) × List Int → Option (List UInt8 × Int) := fun v3 (v4 : (List UInt8) × List Int) =>
    cnd (ilt (0 : Int) (len v4.1))
      (bnd (r22_Get fuelH v4.1) fun v5 =>
      cnd (ieq v5.2 (0 : Int))
        (some (([] : List UInt8), (4 : Int)))
        (grd (room (iadd (len v4.2) (len ([v5.1] : List Int))) 4)
          (grd (in2 v5.2 (len v4.1))
            (v3 (ldrop (toN v5.2) v4.1, lapp v4.2 ([v5.1] : List Int))))))
      (bnd (r08_Of fuelH v4.2) fun v1 => some (v1, (0 : Int)))
theorem dec22_form (x : List UInt8) : r22_Decode fuelH x = fixN dec22F fuelH (x, []) := by
  unfold r22_Decode
  rw [jn_e]
  exact congrArg (fun F => fixN F fuelH (x, ([] : List Int))) (rfl : _ = dec22F)
end
end Go.Mo
end

section
/-
  Plain facts: rows of text, their check, their normal form.
-/
namespace Go.Mo
open Go Go.W Go.Lib
set_option maxRecDepth 100000
abbrev Sty := UInt8 × Bool × Bool
abbrev Run := List UInt8 × Sty × List UInt8
abbrev Row := List Run

/-! ### conditions -/
theorem cnd_ite {α : Type} {b : Bool} {x y : Option α} : cnd b x y = if b = true then x else y := by cases b <;> rfl
theorem bnot_dec {p : Prop} [Decidable p] : bnot (decide p) = decide (¬ p) := by by_cases h : p <;> simp [bnot, h]
theorem bnot_t {b : Bool} : (bnot b = true) = (b = false) := by cases b <;> simp [bnot]
theorem seq_t {a b : List UInt8} : (seq a b = true) = (a = b) := by rw [seq_dec]; simp
theorem ieq_tt {a b : Int} : (ieq a b = true) = (a = b) := by simp [ieq]
theorem ine_tt {a b : Int} : (ine a b = true) = (a ≠ b) := by simp [ine]
theorem ilt_tt {a b : Int} : (ilt a b = true) = (a < b) := by simp [ilt]
theorem ile_tt {a b : Int} : (ile a b = true) = (a ≤ b) := by simp [ile]
theorem beqb_t {a b : Bool} : (beqb a b = true) = (a = b) := by simp [beqb]
theorem bneb_t {a b : Bool} : (bneb a b = true) = (a ≠ b) := by simp [bneb]
theorem band_tt {a b : Bool} : (band a b = true) = (a = true ∧ b = true) := by simp [band]
theorem n8_eq {a b : UInt8} : (n8 a = n8 b) = (a = b) := propext ⟨n8_inj, fun h => by rw [h]⟩
theorem w64_pred {i : Nat} (h : 0 < i) (hn : i ≤ 9223372036854775807) : w64 (isub (i : Int) 1) = ((i - 1 : Nat) : Int) := by
  simp only [isub]; rw [w64_id (by omega)]; omega
theorem w64_back {i : Nat} (hn : i < 9223372036854775807) : w64 (isub ((i + 1 : Nat) : Int) 1) = (i : Int) := by
  rw [w64_pred (Nat.succ_pos i) (by omega)]; rfl
theorem sty_eq {a b : Sty} : (a = b) = (a.1 = b.1 ∧ a.2.1 = b.2.1 ∧ a.2.2 = b.2.2) := by
  obtain ⟨a1, a2, a3⟩ := a; obtain ⟨b1, b2, b3⟩ := b; simp

/-! ### the check of a row -/
noncomputable def alikeP (a b : Run) : Prop := a.2.1 = b.2.1 ∧ a.2.2 = [] ∧ b.2.2 = []
instance (a b : Run) : Decidable (alikeP a b) := by unfold alikeP; infer_instance
/-- a run that follows another one -/
noncomputable def runChk (p : Option Run) (x : Run) : Int :=
  if vld x.1 = false then 10 else if x.1 = [] then 4 else if ¬ n8 x.2.1.1 ≤ 6 then 12 else if vld x.2.2 = false then 10 else match p with
    | none => 0
    | some p => if alikeP p x then 8 else 0
noncomputable def chkL : Option Run → List Run → Int
  | _, [] => 0
  | p, x :: r => if runChk p x ≠ 0 then runChk p x else chkL (some x) r
noncomputable def rowChk (l : Row) : Int := if 16 < l.length then 9 else chkL none l
noncomputable def shortR (l : Row) : Prop := ∀ x ∈ l, x.1.length ≤ 4000000 ∧ x.2.2.length ≤ 4000000
/-- the element ahead -/
noncomputable def before {α : Type} (l : List α) : Nat → Option α
  | 0 => none
  | i + 1 => l[i]?
theorem foldI_chk (l : Row) : ∀ (r : List Run) (i : Nat), l.drop i = r → i ≤ l.length → foldI (fun i (x : Run) (_ : Unit) self => if runChk (before l i) x ≠ 0 then some (runChk (before l i) x) else self ()) (fun _ => some (0 : Int)) i r () = some (chkL (before l i) r)
  | [], i, _, _ => rfl
  | x :: r, i, h, hi => by
    have hx : l[i]? = some x := by rw [← List.head?_drop, h]; rfl
    have hr : l.drop (i + 1) = r := by rw [← List.drop_drop, h]; rfl
    have hl : i < l.length := (List.getElem?_eq_some_iff.1 hx).1
    simp only [foldI, chkL]
    rw [foldI_chk l r (i + 1) hr (by omega)]
    have e : before l (i + 1) = some x := hx
    rw [e]
    by_cases hc : runChk (before l i) x ≠ 0
    · rw [if_pos hc, if_pos hc]
    · rw [if_neg hc, if_neg hc]
theorem style_alike_eq (N : Nat) (a b : Run) : style_alike N (a, b) = some (decide (alikeP a b)) := by
  unfold style_alike
  simp only [cnd_ite, band_tt, ieq_tt, beqb_t, n8_eq, seq_dec, decide_eq_true_eq]
  by_cases h1 : a.2.1.1 = b.2.1.1 ∧ a.2.1.2.1 = b.2.1.2.1 ∧ a.2.1.2.2 = b.2.1.2.2
  · rw [if_pos h1]
    have : a.2.1 = b.2.1 := by rw [sty_eq]; exact h1
    by_cases h2 : a.2.2 = []
    · rw [if_pos h2]; simp [alikeP, this, h2]
    · rw [if_neg h2]; simp [alikeP, h2]
  · rw [if_neg h1]
    have : ¬ a.2.1 = b.2.1 := by rw [sty_eq]; exact h1
    simp [alikeP, this]
theorem style_check {l : Row} (hl : shortR l) : style_Check fuelH l = some (rowChk l) := by
  unfold style_Check
  by_cases h : 16 < l.length
  · rw [cnd_t (ilt_t (by simp only [len]; omega))]; simp [rowChk, h]
  · rw [cnd_f (ilt_f (by simp only [len]; omega)), jn_e]
    refine Eq.trans (lst_loop (l := l) (fun (_ : Unit) (p : Nat) => (p : Int)) (fun i (x : Run) (_ : Unit) self => if runChk (before l i) x ≠ 0 then some (runChk (before l i) x) else self ()) (fun _ => some (0 : Int)) (fun self a i hi => ?_) (fun self a => ?_) fuelH 0 () (Nat.zero_le _) (by have := fuelH_eq; omega)) ?_
    · rw [cnd_t (ilt_t (by simp only [len]; omega)), grd_t (inb_t (by simp only [len]; omega)), lget_i hi]
      obtain ⟨b1, b2⟩ := hl l[i] (List.getElem_mem hi)
      rw [bnd_s (ch_valid _ b1), bnd_s (show style_Valid fuelH l[i].2.1 = some (ile (n8 l[i].2.1.1) 6) from rfl), bnd_s (ch_valid _ b2)]
      simp only [cnd_ite, bnot_t, seq_t, ile, decide_eq_false_iff_not]
      rw [w64_succ hi (by omega)]
      cases i with
      | zero =>
        have e0 : before l 0 = none := rfl
        rw [e0, if_neg (show ¬ ilt (0 : Int) ((0 : Nat) : Int) = true by decide)]
        simp only [runChk]
        repeat' split
        all_goals first | rfl | (exfalso; omega) | simp_all
      | succ i =>
        have e0 : before l (i + 1) = some l[i] := by simp only [before]; exact List.getElem?_eq_getElem (by omega)
        rw [e0, if_pos (show ilt (0 : Int) ((i + 1 : Nat) : Int) = true from ilt_t (by omega)), w64_back (by omega), grd_t (inb_t (by simp only [len]; omega)), lget_i (show i < l.length by omega), bnd_s (style_alike_eq _ _ _)]
        simp only [runChk, decide_eq_true_eq]
        repeat' split
        all_goals first | rfl | (exfalso; omega) | simp_all
    · rw [cnd_f (ilt_f (by simp only [len]; omega))]
    · rw [List.drop_zero, foldI_chk l l 0 rfl (Nat.zero_le _)]
      simp [rowChk, h, before]
theorem r09_check {l : Row} (hl : shortR l) : r09_Check fuelH l = some (rowChk l) := by
  unfold r09_Check
  by_cases h : 16 < l.length
  · rw [cnd_t (ilt_t (by simp only [len]; omega))]; simp [rowChk, h]
  · rw [cnd_f (ilt_f (by simp only [len]; omega)), jn_e]
    refine Eq.trans (lst_loop (l := l) (fun (_ : Unit) (p : Nat) => (p : Int)) (fun i (x : Run) (_ : Unit) self => if runChk (before l i) x ≠ 0 then some (runChk (before l i) x) else self ()) (fun _ => some (0 : Int)) (fun self a i hi => ?_) (fun self a => ?_) fuelH 0 () (Nat.zero_le _) (by have := fuelH_eq; omega)) ?_
    · rw [cnd_t (ilt_t (by simp only [len]; omega)), grd_t (inb_t (by simp only [len]; omega)), lget_i hi]
      obtain ⟨b1, b2⟩ := hl l[i] (List.getElem_mem hi)
      rw [bnd_s (r08_valid _ b1), bnd_s (show r09_Valid fuelH l[i].2.1 = some (ile (n8 l[i].2.1.1) 6) from rfl), bnd_s (r08_valid _ b2)]
      simp only [cnd_ite, bnot_t, seq_t, ile, decide_eq_false_iff_not]
      rw [w64_succ hi (by omega)]
      cases i with
      | zero =>
        have e0 : before l 0 = none := rfl
        rw [e0, if_neg (show ¬ ilt (0 : Int) ((0 : Nat) : Int) = true by decide)]
        simp only [runChk]
        repeat' split
        all_goals first | rfl | (exfalso; omega) | simp_all
      | succ i =>
        have e0 : before l (i + 1) = some l[i] := by simp only [before]; exact List.getElem?_eq_getElem (by omega)
        have hin : inb ((i : Nat) : Int) (len l) = true := inb_t (by simp only [len]; omega)
        rw [e0, if_pos (show ilt (0 : Int) ((i + 1 : Nat) : Int) = true from ilt_t (by omega)), w64_back (by omega), grd_t hin, grd_t hin, lget_i (show i < l.length by omega)]
        simp only [runChk, alikeP, band_tt, ieq_tt, beqb_t, n8_eq, ← sty_eq]
        repeat' split
        all_goals first | rfl | (exfalso; omega) | simp_all
    · rw [cnd_f (ilt_f (by simp only [len]; omega))]
    · rw [List.drop_zero, foldI_chk l l 0 rfl (Nat.zero_le _)]
      simp [rowChk, h, before]
end Go.Mo
end

section
/-
  Plain facts: loops with an invariant; the normal form of a row.
-/
namespace Go.Mo
open Go Go.W Go.Lib
set_option maxRecDepth 100000

/-! ### loops with an invariant -/
noncomputable def itI {α σ R : Type} (f : Nat → α → σ → Option R ⊕ σ) (e : σ → Option R) : Nat → List α → σ → Option R
  | _, [], a => e a
  | i, x :: l, a => match f i x a with
    | .inl r => r
    | .inr a' => itI f e (i + 1) l a'
/-- one round: it ends with r, or goes on -/
noncomputable def Rnd {V R σ : Type} (X : Option R) (self : V → Option R) (next : σ → V) (I : σ → Prop) : Option R ⊕ σ → Prop
  | .inl r => X = r
  | .inr a => X = self (next a) ∧ I a
theorem lst_it {V R σ α : Type} {F : (V → Option R) → V → Option R} {l : List α} (st : σ → Nat → V) (f : Nat → α → σ → Option R ⊕ σ) (e : σ → Option R) (I : Nat → σ → Prop)
    (hstep : ∀ self a i (h : i < l.length), I i a → Rnd (F self (st a i)) self (fun a => st a (i + 1)) (I (i + 1)) (f i l[i] a))
    (hend : ∀ self a, I l.length a → F self (st a l.length) = e a) : ∀ (fuel i : Nat) (a : σ), i ≤ l.length → l.length - i < fuel → I i a → fixN F fuel (st a i) = itI f e i (l.drop i) a
  | 0, i, a, _, h, _ => by omega
  | fuel + 1, i, a, hi, h, hI => by
    rw [fixN_s]
    by_cases hl : i < l.length
    · rw [List.drop_eq_getElem_cons hl, itI]
      have hs := hstep (fixN F fuel) a i hl hI
      cases hf : f i l[i] a with
      | inl r => rw [hf] at hs; exact hs
      | inr a' =>
        rw [hf] at hs
        rw [hs.1]
        exact lst_it st f e I hstep hend fuel (i + 1) a' (by omega) (by omega) hs.2
    · obtain rfl : i = l.length := by omega
      rw [hend _ _ hI, List.drop_length]
      rfl
theorem itI_go {α σ R : Type} (f : Nat → α → σ → σ) (e : σ → Option R) : ∀ (i : Nat) (l : List α) (a : σ), itI (fun i x a => .inr (f i x a)) e i l a = e ((l.foldl (fun (p : Nat × σ) x => (p.1 + 1, f p.1 x p.2)) (i, a)).2)
  | _, [], _ => rfl
  | i, x :: l, a => by simp only [itI, List.foldl_cons]; exact itI_go f e (i + 1) l (f i x a)
theorem itI_fold {α σ R : Type} (f : α → σ → σ) (e : σ → Option R) : ∀ (i : Nat) (l : List α) (a : σ), itI (fun _ x a => .inr (f x a)) e i l a = e (l.foldl (fun a x => f x a) a)
  | _, [], _ => rfl
  | i, x :: l, a => by simp only [itI, List.foldl_cons]; exact itI_fold f e (i + 1) l (f x a)

/-! ### the normal form -/
noncomputable def snoc (out : Row) (x : Run) : Row :=
  if x.1 = [] then out else match out.getLast? with
    | some p => if alikeP p x then out.dropLast ++ [(p.1 ++ x.1, p.2)] else out ++ [x]
    | none => out ++ [x]
noncomputable def normR (l : Row) : Row := l.foldl snoc []
/-- the letters of a row -/
noncomputable def tot : Row → Nat
  | [] => 0
  | x :: r => x.1.length + tot r
theorem tot_app (a b : Row) : tot (a ++ b) = tot a + tot b := by
  induction a with
  | nil => simp [tot]
  | cons x a ih => simp only [List.cons_append, tot, ih]; omega
theorem last_eq {l : Row} {p : Run} (h : l.getLast? = some p) : l = l.dropLast ++ [p] := by
  cases l with
  | nil => cases h
  | cons x l =>
    rw [List.getLast?_eq_some_getLast (List.cons_ne_nil x l)] at h
    injection h with h
    rw [← h]
    exact (List.dropLast_concat_getLast (List.cons_ne_nil x l)).symm
theorem snoc_tot (out : Row) (x : Run) : tot (snoc out x) = tot out + x.1.length := by
  unfold snoc
  split
  · rename_i h; rw [h]; rfl
  · split
    · rename_i p hp
      split
      · have := congrArg tot (last_eq hp)
        rw [tot_app] at this
        rw [tot_app]
        simp only [tot, List.length_append, Nat.add_zero] at this ⊢
        omega
      · rw [tot_app]; simp [tot]
    · rw [tot_app]; simp [tot]
theorem snoc_len (out : Row) (x : Run) : (snoc out x).length ≤ out.length + 1 := by
  unfold snoc
  split
  · omega
  · split
    · split
      · simp only [List.length_append, List.length_dropLast, List.length_singleton]; omega
      · simp
    · simp
theorem lget_last {out : Row} {p : Run} (h : out.getLast? = some p) (hb : out.length ≤ 100000000) (d : Run) : 0 < out.length ∧ w64 (isub (len out) 1) = ((out.length - 1 : Nat) : Int) ∧ lget out (toN (w64 (isub (len out) 1))) d = p := by
  have hl : 0 < out.length := by
    cases out with
    | nil => cases h
    | cons x l => simp
  have hw : w64 (isub (len out) 1) = ((out.length - 1 : Nat) : Int) := w64_pred hl (by omega)
  refine ⟨hl, hw, ?_⟩
  rw [hw, lget_i (show out.length - 1 < out.length by omega)]
  rw [List.getLast?_eq_getElem?, List.getElem?_eq_getElem (by omega)] at h
  injection h
theorem lset_last {out : Row} {p : Run} (h : out.getLast? = some p) (y : Run) : lset out (out.length - 1) y = out.dropLast ++ [y] := by
  have e := last_eq h
  have hl : out.length - 1 = out.dropLast.length := by simp
  rw [hl]
  conv => lhs; rw [e]
  unfold lset
  rw [List.set_append_right _ _ (by simp)]
  simp
theorem last_tot {out : Row} {p : Run} (h : out.getLast? = some p) : p.1.length ≤ tot out := by
  have := congrArg tot (last_eq h)
  rw [tot_app] at this
  simp only [tot, Nat.add_zero] at this
  omega
theorem tot_mem {l : Row} {x : Run} (h : x ∈ l) : x.1.length ≤ tot l := by
  induction l with
  | nil => cases h
  | cons y l ih =>
    simp only [tot]
    rcases List.mem_cons.1 h with rfl | h
    · omega
    · have := ih h; omega
noncomputable def NI (l : Row) (i : Nat) (out : Row) : Prop := out.length ≤ i ∧ tot out + tot (l.drop i) = tot l
theorem NI_step {l : Row} {i : Nat} (h : i < l.length) {out : Row} (hI : NI l i out) : NI l (i + 1) (snoc out l[i]) := by
  refine ⟨Nat.le_trans (snoc_len _ _) (Nat.succ_le_succ hI.1), ?_⟩
  have := hI.2
  rw [List.drop_eq_getElem_cons h] at this
  rw [snoc_tot]
  simp only [tot] at this
  omega
theorem style_norm_eq {l : Row} (hl : l.length ≤ 4000000) (ht : tot l ≤ 8000000) : style_norm fuelH l = some (normR l) := by
  unfold style_norm
  rw [jn_e]
  refine Eq.trans (lst_it (l := l) (fun (a : Row) (p : Nat) => ((p : Int), a)) (fun _ x a => .inr (snoc a x)) (fun a => some a) (NI l) (fun self a i hi hI => ?_) (fun self a _ => ?_) fuelH 0 [] (Nat.zero_le _) (by have := fuelH_eq; omega) ⟨Nat.le_refl _, by simp [tot]⟩) ?_
  · refine ⟨?_, NI_step hi hI⟩
    have hI1 := hI.1
    have hb : tot a ≤ 8000000 := by have := hI.2; omega
    have hx : l[i].1.length ≤ 8000000 := Nat.le_trans (tot_mem (List.getElem_mem hi)) ht
    simp only
    rw [cnd_t (ilt_t (by simp only [len]; omega)), grd_t (inb_t (by simp only [len]; omega)), lget_i hi, w64_succ hi (by omega)]
    have hroom : room (iadd (len a) (len ([l[i]] : Row))) 40 = true := room_t (by simp only [iadd, len, List.length_singleton]; omega)
    rw [grd_t hroom]
    simp only [cnd_ite, seq_t]
    by_cases he : l[i].1 = []
    · rw [if_pos he]; simp only [snoc, he, if_true]
    · rw [if_neg he]
      cases hla : a.getLast? with
      | none =>
        have ha : a = [] := List.getLast?_eq_none_iff.1 hla
        subst ha
        rw [if_neg (show ¬ ilt (0 : Int) (len ([] : Row)) = true by decide)]
        simp only [snoc, if_neg he, hla]
        rfl
      | some p =>
        obtain ⟨q1, q2, q3⟩ := lget_last hla (by omega) ([], (((0 : UInt8), (false, false)), []))
        have hin : inb (w64 (isub (len a) 1)) (len a) = true := by rw [q2]; exact inb_t (by simp only [len]; omega)
        have hp := last_tot hla
        rw [if_pos (show ilt (0 : Int) (len a) = true from ilt_t (by simp only [len]; omega)), grd_t hin, q3, bnd_s (style_alike_eq _ _ _), grd_t hin, grd_t (show catOk (iadd (len p.1) (len l[i].1)) = true from decide_eq_true (by simp only [iadd, len]; omega)), grd_t hin, q2]
        simp only [decide_eq_true_eq, snoc, if_neg he, hla]
        by_cases hk : alikeP p l[i]
        · rw [if_pos hk, if_pos hk]
          have : toN ((a.length - 1 : Nat) : Int) = a.length - 1 := by simp [toN]
          rw [this, lset_last hla]
          rfl
        · rw [if_neg hk, if_neg hk]; rfl
  · simp only
    rw [cnd_f (ilt_f (by simp only [len]; omega))]
  · rw [List.drop_zero, itI_fold]
    rfl
theorem style_Norm_eq {l : Row} (hl : l.length ≤ 4000000) (ht : tot l ≤ 8000000) : style_Norm fuelH l = some (normR l) := by
  unfold style_Norm
  rw [bnd_s (style_norm_eq hl ht)]
theorem r09_Norm_eq {l : Row} (hl : l.length ≤ 4000000) (ht : tot l ≤ 8000000) : r09_Norm fuelH l = some (normR l) := by
  unfold r09_Norm
  rw [jn_e]
  refine Eq.trans (lst_it (l := l) (fun (a : Row) (p : Nat) => (a, (p : Int))) (fun _ x a => .inr (snoc a x)) (fun a => some a) (NI l) (fun self a i hi hI => ?_) (fun self a _ => ?_) fuelH 0 [] (Nat.zero_le _) (by have := fuelH_eq; omega) ⟨Nat.le_refl _, by simp [tot]⟩) ?_
  · refine ⟨?_, NI_step hi hI⟩
    have hI1 := hI.1
    have hb : tot a ≤ 8000000 := by have := hI.2; omega
    have hx : l[i].1.length ≤ 8000000 := Nat.le_trans (tot_mem (List.getElem_mem hi)) ht
    simp only
    rw [cnd_t (ilt_t (by simp only [len]; omega)), grd_t (inb_t (by simp only [len]; omega)), lget_i hi, w64_succ hi (by omega), jn_e]
    have hroom : room (iadd (len a) (len ([l[i]] : Row))) 40 = true := room_t (by simp only [iadd, len, List.length_singleton]; omega)
    rw [grd_t hroom]
    simp only [cnd_ite, seq_t]
    by_cases he : l[i].1 = []
    · rw [if_pos he]; simp only [snoc, he, if_true]
    · rw [if_neg he]
      cases hla : a.getLast? with
      | none =>
        have ha : a = [] := List.getLast?_eq_none_iff.1 hla
        subst ha
        rw [if_neg (show ¬ ilt (0 : Int) (len ([] : Row)) = true by decide)]
        simp only [snoc, if_neg he, hla]
        rfl
      | some p =>
        obtain ⟨q1, q2, q3⟩ := lget_last hla (by omega) ([], (((0 : UInt8), (false, false)), []))
        have hin : inb (w64 (isub (len a) 1)) (len a) = true := by rw [q2]; exact inb_t (by simp only [len]; omega)
        have hp := last_tot hla
        rw [if_pos (show ilt (0 : Int) (len a) = true from ilt_t (by simp only [len]; omega)), grd_t hin, q3, grd_t hin, grd_t hin, grd_t (show catOk (iadd (len p.1) (len l[i].1)) = true from decide_eq_true (by simp only [iadd, len]; omega)), grd_t hin, q2]
        simp only [band_tt, ieq_tt, beqb_t, n8_eq, ← sty_eq]
        simp only [snoc, if_neg he, hla, alikeP]
        have : toN ((a.length - 1 : Nat) : Int) = a.length - 1 := by simp [toN]
        rw [this, lset_last hla]
        by_cases h1 : p.2.1 = l[i].2.1
        · by_cases h2 : p.2.2 = []
          · by_cases h3 : l[i].2.2 = []
            · simp only [h1, h2, h3, if_true, and_self]; rfl
            · simp only [h1, h2, h3, if_true, and_false, if_false]; rfl
          · simp only [h1, h2, if_true, false_and, and_false, if_false]; rfl
        · simp only [h1, false_and, if_false]; rfl
  · simp only
    rw [cnd_f (ilt_f (by simp only [len]; omega))]
  · rw [List.drop_zero, itI_fold]
    rfl
end Go.Mo
end

section
/-
  Plain facts: the bytes of rows.
-/
namespace Go.Mo
open Go Go.W Go.Lib
set_option maxRecDepth 100000
noncomputable section

theorem chkL_ok : ∀ (l : List Run) (p : Option Run), chkL p l = 0 → ∀ x ∈ l, vld x.1 = true ∧ x.1 ≠ [] ∧ n8 x.2.1.1 ≤ 6 ∧ vld x.2.2 = true
  | [], _, _, x, hx => by cases hx
  | y :: l, p, h, x, hx => by
    simp only [chkL] at h
    split at h
    · rename_i hc; exact absurd h hc
    · rename_i hc
      rcases List.mem_cons.1 hx with rfl | hx
      · have hc : runChk p x = 0 := by simpa using hc
        unfold runChk at hc
        split at hc
        · cases hc
        · split at hc
          · cases hc
          · split at hc
            · cases hc
            · split at hc
              · cases hc
              · rename_i h1 h2 h3 h4
                exact ⟨by simpa using h1, h2, by omega, by simpa using h4⟩
      · exact chkL_ok l _ h x hx
theorem rowChk_ok {l : Row} (h : rowChk l = 0) : l.length ≤ 16 ∧ ∀ x ∈ l, vld x.1 = true ∧ x.1 ≠ [] ∧ n8 x.2.1.1 ≤ 6 ∧ vld x.2.2 = true := by
  unfold rowChk at h
  split at h
  · cases h
  · exact ⟨by omega, chkL_ok l _ h⟩

/-! ### the bytes -/
noncomputable def colT : List UInt8 := [7, 2, 4, 6, 1, 3, 5]
noncomputable def colB (c : UInt8) : UInt8 := lget colT (toN (n8 c)) 0
theorem colB_eq (N : Nat) {c : UInt8} (h : n8 c ≤ 6) : stl_colorByte N c = some (colB c) := by
  unfold stl_colorByte
  rw [grd_t (inb_t (by have := n8_rng c; simp only [ofN]; omega))]
  rfl
noncomputable def runB (now : Sty) (x : Run) : List UInt8 :=
  (if x.2.1.1 ≠ now.1 then [colB x.2.1.1] else []) ++ (if x.2.1.2.1 ≠ now.2.1 then [if x.2.1.2.1 = true then 128 else 129] else []) ++ (if x.2.1.2.2 ≠ now.2.2 then [if x.2.1.2.2 = true then 130 else 131] else []) ++ latE x.1
noncomputable def rowB : Sty → Row → List UInt8
  | _, [] => []
  | now, x :: r => runB now x ++ rowB x.2.1 r
noncomputable def plainS : Sty := (0, false, false)
noncomputable def cost : Row → Nat
  | [] => 0
  | x :: r => 3 + x.1.length + cost r
theorem runB_len {now : Sty} {x : Run} (h : vld x.1 = true) : (runB now x).length ≤ 3 + x.1.length := by
  have := latE_len h
  have h1 : ∀ (p : Prop) [Decidable p] (y : UInt8), (if p then [y] else []).length ≤ 1 := fun p _ y => by split <;> simp
  have a1 := h1 (x.2.1.1 ≠ now.1) (colB x.2.1.1)
  have a2 := h1 (x.2.1.2.1 ≠ now.2.1) (if x.2.1.2.1 = true then 128 else 129)
  have a3 := h1 (x.2.1.2.2 ≠ now.2.2) (if x.2.1.2.2 = true then 130 else 131)
  unfold runB
  rw [List.length_append, List.length_append, List.length_append]
  omega
theorem rowB_len : ∀ {l : Row} {now : Sty}, (∀ x ∈ l, vld x.1 = true) → (rowB now l).length ≤ cost l
  | [], _, _ => Nat.le_refl _
  | x :: l, now, h => by
    have h1 := runB_len (now := now) (h x List.mem_cons_self)
    have h2 := rowB_len (l := l) (now := x.2.1) fun y hy => h y (List.mem_cons_of_mem _ hy)
    simp only [rowB, cost, List.length_append]
    omega
theorem cost_eq (l : Row) : cost l = 3 * l.length + tot l := by
  induction l with
  | nil => rfl
  | cons x l ih => simp only [cost, tot, List.length_cons, ih]; omega
theorem rowB_fold : ∀ (l : Row) (out : List UInt8) (now : Sty), (l.foldl (fun (a : List UInt8 × Sty) x => (a.1 ++ runB a.2 x, x.2.1)) (out, now)).1 = out ++ rowB now l
  | [], out, now => by simp [rowB]
  | x :: l, out, now => by simp only [List.foldl_cons, rowB]; rw [rowB_fold l]; simp
/-- a row's runs may be written -/
noncomputable def fits (l : Row) : Prop := ∀ x ∈ l, vld x.1 = true ∧ n8 x.2.1.1 ≤ 6 ∧ x.1.length ≤ 4000000
noncomputable def RI (l : Row) (B : Nat) (i : Nat) (a : List UInt8 × Sty) : Prop := a.1.length + cost (l.drop i) ≤ B
theorem RI_step {l : Row} {B i : Nat} (h : i < l.length) (hf : fits l) {a : List UInt8 × Sty} (hI : RI l B i a) : RI l B (i + 1) (a.1 ++ runB a.2 l[i], l[i].2.1) ∧ a.1.length + 3 + l[i].1.length ≤ B := by
  unfold RI at hI ⊢
  rw [List.drop_eq_getElem_cons h] at hI
  have := runB_len (now := a.2) (hf l[i] (List.getElem_mem h)).1
  simp only [cost] at hI
  simp only [List.length_append]
  omega
theorem room1 {n : Nat} (l : List UInt8) (h : l.length + n ≤ 100000000) (y : List UInt8) (hy : y.length ≤ n) : room (iadd (len l) (len y)) 1 = true := room_t (by simp only [iadd, len]; omega)

/-! ### the colours of the reference -/
theorem r24_col {N : Nat} {c : UInt8} (hc : n8 c ≤ 6) (out : List UInt8) (ho : out.length ≤ 90000000) {R : Type} (K : List UInt8 → Option R) (hN : 8 ≤ N) :
    fixN (fun v16 (v17 : (List UInt8) × Int) =>
          cnd (ilt v17.2 (len ([4, 1, 5, 2, 6, 3, 0] : List UInt8)))
            (grd (inb v17.2 (len ([4, 1, 5, 2, 6, 3, 0] : List UInt8)))
              (cnd (ieq (n8 (lget ([4, 1, 5, 2, 6, 3, 0] : List UInt8) (toN v17.2) (0 : UInt8))) (n8 c))
                (grd (room (iadd (len v17.1) (len ([b8 (w64 (iadd v17.2 (1 : Int)))] : List UInt8))) 1)
                  (v16 (lapp v17.1 ([b8 (w64 (iadd v17.2 (1 : Int)))] : List UInt8), w64 (iadd v17.2 (1 : Int)))))
                (v16 (v17.1, w64 (iadd v17.2 (1 : Int))))))
            (K v17.1)) N (out, (0 : Int)) = K (out ++ [colB c]) := by
  have hl : ([4, 1, 5, 2, 6, 3, 0] : List UInt8).length = 7 := rfl
  refine Eq.trans (lst_it (l := ([4, 1, 5, 2, 6, 3, 0] : List UInt8)) (fun (a : List UInt8) (p : Nat) => (a, (p : Int))) (fun i x a => .inr (if x = c then a ++ [UInt8.ofNat (i + 1)] else a)) (fun a => K a) (fun i a => a.length ≤ 90000000 + i) (fun self a i hi hI => ?_) (fun self a _ => ?_) N 0 out (Nat.zero_le _) (by omega) (by omega)) ?_
  · refine ⟨?_, ?_⟩
    · simp only
      have h7 : i < 7 := hi
      rw [cnd_t (ilt_t (by simp only [len, hl]; omega)), grd_t (inb_t (by simp only [len, hl]; omega)), lget_i hi, w64_succ hi (by omega), b8_nat (by omega), cnd_ite]
      simp only [ieq_tt, n8_eq]
      split
      · rw [grd_t (room_t (by simp only [iadd, len, List.length_singleton]; omega))]; rfl
      · rfl
    · split
      · simp; omega
      · omega
  · simp only
    rw [cnd_f (ilt_f (by simp only [len]; omega))]
  · rw [List.drop_zero]
    simp only [itI, Nat.zero_add]
    have hcs : c = 0 ∨ c = 1 ∨ c = 2 ∨ c = 3 ∨ c = 4 ∨ c = 5 ∨ c = 6 := by
      have : c.toNat ≤ 6 := by unfold n8 at hc; omega
      have e : c = UInt8.ofNat c.toNat := by simp
      generalize c.toNat = k at this e
      have : k = 0 ∨ k = 1 ∨ k = 2 ∨ k = 3 ∨ k = 4 ∨ k = 5 ∨ k = 6 := by omega
      rcases this with rfl | rfl | rfl | rfl | rfl | rfl | rfl <;> subst e <;> simp
    rcases hcs with rfl | rfl | rfl | rfl | rfl | rfl | rfl <;> rfl

theorem col_jn {c : UInt8} (hc : n8 c ≤ 6) (d : UInt8) (out : List UInt8) (ho : out.length ≤ 90000000) {R : Type} (K : List UInt8 → Option R) :
    jn K (fun w => cnd (ine (n8 c) (n8 d)) (bnd (r24_colors fuelH ()) fun v15 => fixN (fun v16 (v17 : (List UInt8) × Int) =>
          cnd (ilt v17.2 (len v15))
            (grd (inb v17.2 (len v15))
              (cnd (ieq (n8 (lget v15 (toN v17.2) (0 : UInt8))) (n8 c))
                (grd (room (iadd (len v17.1) (len ([b8 (w64 (iadd v17.2 (1 : Int)))] : List UInt8))) 1)
                  (v16 (lapp v17.1 ([b8 (w64 (iadd v17.2 (1 : Int)))] : List UInt8), w64 (iadd v17.2 (1 : Int)))))
                (v16 (v17.1, w64 (iadd v17.2 (1 : Int))))))
            (w v17.1)) fuelH (out, (0 : Int))) (w out)) = K (out ++ if c ≠ d then [colB c] else []) := by
  rw [jn_e, bnd_s (show r24_colors fuelH () = some ([4, 1, 5, 2, 6, 3, 0] : List UInt8) from rfl), r24_col hc out ho K (by have := fuelH_eq; omega), cnd_ite]
  simp only [ine_tt, ne_eq, n8_eq]
  split <;> simp

/-! ### the text of rows -/
noncomputable def textL : Bool → List Row → List UInt8 → List UInt8 × Int
  | _, [], out => (out, 0)
  | first, r :: l, out => if rowChk r ≠ 0 then ([], rowChk r) else textL false l (out ++ (if first then [] else [138]) ++ rowB plainS r)
noncomputable def costL : List Row → Nat
  | [] => 0
  | r :: l => 1 + cost r + costL l
theorem itI_text : ∀ (l : List Row) (i : Nat) (out : List UInt8), itI (fun i r (a : List UInt8) => if rowChk r ≠ 0 then .inl (some (([] : List UInt8), rowChk r)) else .inr (a ++ (if i = 0 then [] else [138]) ++ rowB plainS r)) (fun a => some (a, (0 : Int))) i l out = some (textL (decide (i = 0)) l out)
  | [], i, out => rfl
  | r :: l, i, out => by
    simp only [itI, textL]
    by_cases h : rowChk r ≠ 0
    · rw [if_pos h, if_pos h]
    · rw [if_neg h, if_neg h]
      simp only
      rw [itI_text l (i + 1)]
      have : decide (i + 1 = 0) = false := decide_eq_false (by omega)
      rw [this]
      by_cases h0 : i = 0
      · simp [h0]
      · simp [h0]
theorem app_if {R : Type} {b : Bool} {p : Prop} [Decidable p] (hb : (b = true) = p) {y : UInt8} {X : Option UInt8} (hX : X = some y) (out : List UInt8) (ho : out.length ≤ 90000000) (k : List UInt8 → Option R) :
    jn k (fun w => cnd b (bnd X fun v => grd (room (iadd (len out) (len ([v] : List UInt8))) 1) (w (lapp out ([v] : List UInt8)))) (w out)) = k (out ++ if p then [y] else []) := by
  rw [jn_e, hX, bnd_some', grd_t (room_t (by simp only [iadd, len, List.length_singleton]; omega)), cnd_ite]
  by_cases h : p
  · rw [if_pos (by rw [hb]; exact h), if_pos h]; rfl
  · rw [if_neg (by rw [hb]; exact h), if_neg h, List.append_nil]
theorem app_enc {R : Type} {X : Option (List UInt8 × Int)} {y : List UInt8} (hX : X = some (y, 0)) (hy : y.length ≤ 4000000) (out : List UInt8) (ho : out.length ≤ 90000000) (k : List UInt8 → Option R) :
    (bnd X fun v => grd (room (iadd (len out) (len v.1)) 1) (k (lapp out v.1))) = k (out ++ y) := by
  rw [hX, bnd_some', grd_t (room_t (by simp only [iadd, len]; omega))]; rfl
theorem on_eq (N : Nat) (b : Bool) (y z : UInt8) : stl_on N (b, y, z) = some (if b = true then y else z) := by cases b <;> rfl
theorem onOff_eq (N : Nat) (b : Bool) : r24_onOff N (b, 128) = some (if b = true then 128 else 129) ∧ r24_onOff N (b, 130) = some (if b = true then 130 else 131) := by cases b <;> exact ⟨rfl, rfl⟩
theorem if_len (p : Prop) [Decidable p] (y : UInt8) : (if p then [y] else []).length ≤ 1 := by split <;> simp
/-- the loop over the runs of a row, as the program has it -/
noncomputable def rowF {R : Type} (x : Row) (K : List UInt8 → Option R) (v8 : List UInt8 × Int × UInt8 × Bool × Bool → Option R) (v9 : List UInt8 × Int × UInt8 × Bool × Bool) : Option R :=
            cnd (ilt v9.2.1 (len x))
              (grd (inb v9.2.1 (len x))
                (jn (fun (v10 : List UInt8) =>
                  jn (fun (v11 : List UInt8) =>
                    jn (fun (v12 : List UInt8) =>
                      bnd (latin_Encode fuelH (lget x (toN v9.2.1) ([], (((0 : UInt8), (false, false)), []))).1) fun v13 =>
                      grd (room (iadd (len v12) (len v13.1)) 1) <|
                      v8 (lapp v12 v13.1, w64 (iadd v9.2.1 (1 : Int)), (lget x (toN v9.2.1) ([], (((0 : UInt8), (false, false)), []))).2.1))
                    fun v14 =>
                    cnd (bneb (lget x (toN v9.2.1) ([], (((0 : UInt8), (false, false)), []))).2.1.2.2 v9.2.2.2.2)
                      (bnd (stl_on fuelH ((lget x (toN v9.2.1) ([], (((0 : UInt8), (false, false)), []))).2.1.2.2, (130 : UInt8), (131 : UInt8))) fun v15 =>
                      grd (room (iadd (len v11) (len ([v15] : List UInt8))) 1) <|
                      v14 (lapp v11 ([v15] : List UInt8)))
                      (v14 v11))
                  fun v16 =>
                  cnd (bneb (lget x (toN v9.2.1) ([], (((0 : UInt8), (false, false)), []))).2.1.2.1 v9.2.2.2.1)
                    (bnd (stl_on fuelH ((lget x (toN v9.2.1) ([], (((0 : UInt8), (false, false)), []))).2.1.2.1, (128 : UInt8), (129 : UInt8))) fun v17 =>
                    grd (room (iadd (len v10) (len ([v17] : List UInt8))) 1) <|
                    v16 (lapp v10 ([v17] : List UInt8)))
                    (v16 v10))
                fun v18 =>
                cnd (ine (n8 (lget x (toN v9.2.1) ([], (((0 : UInt8), (false, false)), []))).2.1.1) (n8 v9.2.2.1))
                  (bnd (stl_colorByte fuelH (lget x (toN v9.2.1) ([], (((0 : UInt8), (false, false)), []))).2.1.1) fun v19 =>
                  grd (room (iadd (len v9.1) (len ([v19] : List UInt8))) 1) <|
                  v18 (lapp v9.1 ([v19] : List UInt8)))
                  (v18 v9.1)))
              (K v9.1)
theorem rowF_eq {R : Type} {x : Row} (hf : fits x) (hx : x.length ≤ 1000000) (K : List UInt8 → Option R) {b : List UInt8} (hb : b.length + cost x ≤ 80000000) : fixN (rowF x K) fuelH (b, (0 : Int), (0 : UInt8), false, false) = K (b ++ rowB plainS x) := by
  refine Eq.trans (lst_it (l := x) (fun (a : List UInt8 × Sty) (p : Nat) => (a.1, (p : Int), a.2)) (fun _ y a => .inr (a.1 ++ runB a.2 y, y.2.1)) (fun a => K a.1) (RI x 80000000) (fun self a j hj hJ => ?_) (fun self a _ => ?_) fuelH 0 (b, plainS) (Nat.zero_le _) (by have := fuelH_eq; omega) (by simpa [RI] using hb)) ?_
  · obtain ⟨s1, s2⟩ := RI_step hj hf hJ
    refine ⟨?_, s1⟩
    obtain ⟨f1, f2, f3⟩ := hf x[j] (List.getElem_mem hj)
    unfold rowF
    simp only
    rw [cnd_t (ilt_t (by simp only [len]; omega)), grd_t (inb_t (by simp only [len]; omega)), lget_i hj, w64_succ hj (by omega)]
    have le := latE_len f1
    have henc : latin_Encode fuelH x[j].1 = some (latE x[j].1, 0) := by rw [latin_encode f3, if_pos f1]
    have l1 := if_len (x[j].2.1.1 ≠ a.2.1) (colB x[j].2.1.1)
    have l2 := if_len (x[j].2.1.2.1 ≠ a.2.2.1) (if x[j].2.1.2.1 = true then 128 else 129)
    have l3 := if_len (x[j].2.1.2.2 ≠ a.2.2.2) (if x[j].2.1.2.2 = true then 130 else 131)
    refine Eq.trans (app_if (p := x[j].2.1.1 ≠ a.2.1) (by rw [ine_tt, ne_eq, n8_eq]) (colB_eq fuelH f2) a.1 (by omega) _) ?_
    refine Eq.trans (app_if (p := x[j].2.1.2.1 ≠ a.2.2.1) bneb_t (on_eq _ _ _ _) _ (by rw [List.length_append]; omega) _) ?_
    refine Eq.trans (app_if (p := x[j].2.1.2.2 ≠ a.2.2.2) bneb_t (on_eq _ _ _ _) _ (by rw [List.length_append, List.length_append]; omega) _) ?_
    refine Eq.trans (app_enc henc (by omega) _ (by rw [List.length_append, List.length_append, List.length_append]; omega) fun o => self (o, ((j + 1 : Nat) : Int), x[j].2.1)) ?_
    simp only [runB, List.append_assoc]
  · unfold rowF
    simp only
    rw [cnd_f (ilt_f (by simp only [len]; omega))]
  · rw [List.drop_zero, itI_fold, rowB_fold]
noncomputable def shortL (l : List Row) : Prop := ∀ r ∈ l, shortR r
theorem stl_text {l : List Row} (hs : shortL l) (hc : costL l ≤ 60000000) (hl : l.length ≤ 1000000) : stl_Text fuelH l = some (textL true l []) := by
  unfold stl_Text
  rw [jn_e]
  refine Eq.trans (lst_it (l := l) (fun (a : List UInt8) (p : Nat) => (a, (p : Int))) (fun i r a => if rowChk r ≠ 0 then .inl (some (([] : List UInt8), rowChk r)) else .inr (a ++ (if i = 0 then [] else [138]) ++ rowB plainS r)) (fun a => some (a, (0 : Int))) (fun i a => a.length + costL (l.drop i) ≤ 60000000) (fun self a i hi hI => ?_) (fun self a _ => ?_) fuelH 0 [] (Nat.zero_le _) (by have := fuelH_eq; omega) (by simpa using hc)) ?_
  · have hsr := hs l[i] (List.getElem_mem hi)
    rw [List.drop_eq_getElem_cons hi] at hI
    simp only [costL] at hI
    by_cases hk : rowChk l[i] ≠ 0
    · rw [if_pos hk]
      show _ = _
      simp only
      rw [cnd_t (ilt_t (by simp only [len]; omega)), jn_e, grd_t (inb_t (by simp only [len]; omega)), lget_i hi, bnd_s (style_check hsr), cnd_t (ine_t hk)]
    · rw [if_neg hk]
      have hk0 : rowChk l[i] = 0 := by simpa using hk
      obtain ⟨hk1, hk2⟩ := rowChk_ok hk0
      have hf : fits l[i] := fun x hx => ⟨(hk2 x hx).1, (hk2 x hx).2.2.1, (hsr x hx).1⟩
      have hrl := rowB_len (now := plainS) fun x hx => (hk2 x hx).1
      refine ⟨?_, ?_⟩
      · simp only
        rw [cnd_t (ilt_t (by simp only [len]; omega)), jn_e, grd_t (inb_t (by simp only [len]; omega)), lget_i hi, bnd_s (style_check hsr), cnd_f (ine_f hk0), jn_e, w64_succ hi (by omega)]
        by_cases h0 : i = 0
        · subst h0
          rw [cnd_f (ilt_f (by omega))]
          refine Eq.trans (rowF_eq hf (by omega) (fun b => self (b, ((0 + 1 : Nat) : Int))) (by omega)) ?_
          simp
        · rw [cnd_t (ilt_t (by omega)), grd_t (room_t (by simp only [iadd, len, List.length_singleton]; omega)), if_neg h0]
          refine Eq.trans (rowF_eq hf (by omega) (fun b => self (b, ((i + 1 : Nat) : Int))) (by simp only [lapp, List.length_append, List.length_singleton]; omega)) ?_
          rfl
      · simp only [List.length_append]
        split <;> simp <;> omega
  · simp only
    rw [cnd_f (ilt_f (by simp only [len]; omega))]
  · rw [List.drop_zero, itI_text]
    rfl
theorem r24_row_eq {x : Row} (hf : fits x) (hx : x.length ≤ 1000000) (hb : cost x ≤ 80000000) : r24_row fuelH x = some (rowB plainS x) := by
  unfold r24_row
  rw [jn_e]
  refine Eq.trans (lst_it (l := x) (fun (a : List UInt8 × Sty) (p : Nat) => (a.1, (p : Int), a.2)) (fun _ y a => .inr (a.1 ++ runB a.2 y, y.2.1)) (fun a => some a.1) (RI x 80000000) (fun self a j hj hJ => ?_) (fun self a _ => ?_) fuelH 0 ([], plainS) (Nat.zero_le _) (by have := fuelH_eq; omega) (by simpa [RI] using hb)) ?_
  · obtain ⟨s1, s2⟩ := RI_step hj hf hJ
    refine ⟨?_, s1⟩
    obtain ⟨f1, f2, f3⟩ := hf x[j] (List.getElem_mem hj)
    simp only
    rw [cnd_t (ilt_t (by simp only [len]; omega)), jn_e, grd_t (inb_t (by simp only [len]; omega)), lget_i hj, w64_succ hj (by omega)]
    have le := latE_len f1
    have henc : r22_Encode fuelH x[j].1 = some (latE x[j].1, 0) := by rw [r22_encode f3, if_pos f1]
    have l1 := if_len (x[j].2.1.1 ≠ a.2.1) (colB x[j].2.1.1)
    have l2 := if_len (x[j].2.1.2.1 ≠ a.2.2.1) (if x[j].2.1.2.1 = true then 128 else 129)
    have l3 := if_len (x[j].2.1.2.2 ≠ a.2.2.2) (if x[j].2.1.2.2 = true then 130 else 131)
    refine Eq.trans (col_jn f2 a.2.1 a.1 (by omega) _) ?_
    dsimp only
    refine Eq.trans (app_if (p := x[j].2.1.2.1 ≠ a.2.2.1) bneb_t (onOff_eq _ _).1 _ (by rw [List.length_append]; omega) _) ?_
    refine Eq.trans (app_if (p := x[j].2.1.2.2 ≠ a.2.2.2) bneb_t (onOff_eq _ _).2 _ (by rw [List.length_append, List.length_append]; omega) _) ?_
    refine Eq.trans (app_enc henc (by omega) _ (by rw [List.length_append, List.length_append, List.length_append]; omega) fun o => self (o, ((j + 1 : Nat) : Int), x[j].2.1)) ?_
    simp only [runB, List.append_assoc]
  · simp only
    rw [cnd_f (ilt_f (by simp only [len]; omega))]
  · rw [List.drop_zero, itI_fold, rowB_fold]
    rfl
theorem r24_text {l : List Row} (hs : shortL l) (hc : costL l ≤ 60000000) (hl : l.length ≤ 1000000) : r24_Text fuelH l = some (textL true l []) := by
  unfold r24_Text
  rw [jn_e]
  refine Eq.trans (lst_it (l := l) (fun (a : List UInt8) (p : Nat) => (a, (p : Int))) (fun i r a => if rowChk r ≠ 0 then .inl (some (([] : List UInt8), rowChk r)) else .inr (a ++ (if i = 0 then [] else [138]) ++ rowB plainS r)) (fun a => some (a, (0 : Int))) (fun i a => a.length + costL (l.drop i) ≤ 60000000) (fun self a i hi hI => ?_) (fun self a _ => ?_) fuelH 0 [] (Nat.zero_le _) (by have := fuelH_eq; omega) (by simpa using hc)) ?_
  · have hsr := hs l[i] (List.getElem_mem hi)
    rw [List.drop_eq_getElem_cons hi] at hI
    simp only [costL] at hI
    by_cases hk : rowChk l[i] ≠ 0
    · rw [if_pos hk]
      show _ = _
      simp only
      rw [cnd_t (ilt_t (by simp only [len]; omega)), grd_t (inb_t (by simp only [len]; omega)), lget_i hi, bnd_s (r09_check hsr), cnd_t (ine_t hk)]
    · rw [if_neg hk]
      have hk0 : rowChk l[i] = 0 := by simpa using hk
      obtain ⟨hk1, hk2⟩ := rowChk_ok hk0
      have hf : fits l[i] := fun x hx => ⟨(hk2 x hx).1, (hk2 x hx).2.2.1, (hsr x hx).1⟩
      have hrl := rowB_len (now := plainS) fun x hx => (hk2 x hx).1
      refine ⟨?_, ?_⟩
      · simp only
        rw [cnd_t (ilt_t (by simp only [len]; omega)), grd_t (inb_t (by simp only [len]; omega)), lget_i hi, bnd_s (r09_check hsr), cnd_f (ine_f hk0), w64_succ hi (by omega), r24_row_eq hf (by omega) (by omega), bnd_some', bnd_some']
        by_cases h0 : i = 0
        · subst h0
          rw [cnd_f (ilt_f (by omega)), grd_t (room_t (by simp only [iadd, len]; omega))]
          simp [lapp]
        · rw [cnd_t (ilt_t (by omega)), grd_t (room_t (by simp only [iadd, len, List.length_singleton]; omega)), if_neg h0, grd_t (room_t (by simp only [iadd, len, lapp, List.length_append, List.length_singleton]; omega))]
          rfl
      · simp only [List.length_append]
        split <;> simp <;> omega
  · simp only
    rw [cnd_f (ilt_f (by simp only [len]; omega))]
  · rw [List.drop_zero, itI_text]
    rfl
end
end Go.Mo
end

section
/-
  Plain facts: rows that are read from bytes, on both sides.
-/
namespace Go.Mo
open Go Go.W Go.Lib
set_option maxRecDepth 100000
noncomputable section

/-! ### one character -/
noncomputable def g1 (a : UInt8) : Option Int := if 32 ≤ n8 a ∧ n8 a < 127 then some (n8 a) else (sgF a).map (·.1)
noncomputable def g2 (a b : UInt8) : Int × Int := (acG (accR a) b).getD (0, 0)
noncomputable def getS (a : UInt8) (t : List UInt8) : Int × Int := match g1 a with
  | some r => (r, 1)
  | none => match t with
    | [] => (0, 0)
    | b :: _ => g2 a b
theorem g2_any (a b : UInt8) : acG (accR a) b = some (g2 a b) ∧ (g2 a b = (0, 0) ∨ ∃ r, g2 a b = (r, 2) ∧ inRep r = true) := by
  have h0 : ∀ l : List Int, l.all (fun r => inRep r && inRep (low r)) = true → ∃ p, acG l b = some p ∧ (p = (0, 0) ∨ ∃ r, p = (r, 2) ∧ inRep r = true) := by
    intro l
    induction l with
    | nil => intro _; exact ⟨(0, 0), rfl, .inl rfl⟩
    | cons r l ih =>
      intro h
      rw [List.all_cons, Bool.and_eq_true, Bool.and_eq_true] at h
      obtain ⟨p, h1, h2⟩ := ih h.2
      simp only [acG]
      by_cases c1 : bas r = n8 b
      · exact ⟨(r, 2), by rw [cnd_t (ieq_t c1)], .inr ⟨r, rfl, h.1.1⟩⟩
      · rw [cnd_f (ieq_f c1)]
        by_cases c2 : bas (low r) = n8 b
        · exact ⟨(low r, 2), by rw [cnd_t (ieq_t c2)], .inr ⟨_, rfl, h.1.2⟩⟩
        · rw [cnd_f (ieq_f c2)]
          exact ⟨p, h1, h2⟩
  obtain ⟨p, h1, h2⟩ := h0 _ (accR_tab a).2.2
  unfold g2
  rw [h1]
  exact ⟨rfl, h2⟩
theorem g1_rep {a : UInt8} {r : Int} (h : g1 a = some r) : inRep r = true := by
  unfold g1 at h
  split at h
  · rename_i hc
    injection h with h
    subst h
    unfold inRep
    rw [decide_eq_true hc.1, decide_eq_true (by omega : n8 a ≤ 126)]
    rfl
  · obtain ⟨x, h1, h2⟩ := Option.map_eq_some_iff.1 h
    subst h2
    exact List.all_eq_true.1 sgs_rep x (List.mem_of_find?_eq_some h1)
theorem get_form (a : UInt8) (t : List UInt8) : latin_Get fuelH (a :: t) = some (getS a t) := by
  rw [latin_get_cons, cnd_ile, cnd_ilt]
  have hx : gtX a t = match sgF a with
      | some x => some (x.1, 1)
      | none => match t with
        | [] => some (0, 0)
        | b :: _ => some (g2 a b) := by
    unfold gtX
    rw [sgG_eq]
    unfold sgF
    cases sgs.find? fun x => n8 x.2 == n8 a with
    | some x => rfl
    | none => cases t with
      | nil => rfl
      | cons b t => exact (g2_any a b).1
  unfold getS g1
  by_cases h : 32 ≤ n8 a ∧ n8 a < 127
  · rw [if_pos h.1, if_pos h.2, if_pos h]
  · rw [if_neg h]
    have : (if 32 ≤ n8 a then if n8 a < 127 then some (n8 a, (1 : Int)) else gtX a t else gtX a t) = gtX a t := by
      split
      · rw [if_neg (by omega)]
      · rfl
    rw [this, hx]
    cases sgF a with
    | some x => rfl
    | none => cases t <;> rfl
theorem getS_any (a : UInt8) (t : List UInt8) : getS a t = (0, 0) ∨ (∃ r, g1 a = some r ∧ getS a t = (r, 1) ∧ inRep r = true) ∨ (∃ r b t', g1 a = none ∧ t = b :: t' ∧ g2 a b = (r, 2) ∧ getS a t = (r, 2) ∧ inRep r = true) := by
  unfold getS
  cases h1 : g1 a with
  | some r => exact .inr (.inl ⟨r, rfl, rfl, g1_rep h1⟩)
  | none => cases t with
    | nil => exact .inl rfl
    | cons b t' =>
      rcases (g2_any a b).2 with h | ⟨r, h, hr⟩
      · exact .inl h
      · exact .inr (.inr ⟨r, b, t', rfl, rfl, h, h, hr⟩)
theorem g2_138 (a : UInt8) : g2 a 138 = (0, 0) := of_decide_eq_true (all_u8 (P := fun a => decide (g2 a 138 = (0, 0))) (by kernel_rfl) a)

/-! ### bytes that switch -/
noncomputable def swB (s : Sty) (b : UInt8) : Option Sty :=
  if b = 128 ∨ b = 129 then some (s.1, decide (b = 128), s.2.2) else if b = 130 ∨ b = 131 then some (s.1, s.2.1, decide (b = 130)) else if 1 ≤ n8 b ∧ n8 b ≤ 7 then some (lget [4, 1, 5, 2, 6, 3, 0] (toN (n8 b - 1)) 0, s.2) else none
noncomputable def turnR (s : Sty) (b : UInt8) : Sty × Bool := match swB s b with
  | some s' => (s', true)
  | none => (s, false)
theorem tab_get {α : Type} {f g : Nat → α} (h : (List.range 256).map f = (List.range 256).map g) (b : UInt8) : f b.toNat = g b.toNat := by
  have := congrArg (fun l => l[b.toNat]?) h
  have hb := b.toNat_lt
  simpa [hb] using this
theorem turned_tab (N : Nat) (a : UInt8) (b c : Bool) : (List.range 256).map (fun n => stl_turned (N + 10) ((a, b, c), UInt8.ofNat n)) = (List.range 256).map (fun n => some (turnR (a, b, c) (UInt8.ofNat n))) := by kernel_rfl
theorem switched_tab (N : Nat) (a : UInt8) (b c : Bool) : (List.range 256).map (fun n => r24_switched N ((a, b, c), UInt8.ofNat n)) = (List.range 256).map (fun n => some (turnR (a, b, c) (UInt8.ofNat n))) := by kernel_rfl
theorem turned_eq (s : Sty) (b : UInt8) : stl_turned fuelH (s, b) = some (turnR s b) := by
  have := tab_get (turned_tab (fuelM + 4990) s.1 s.2.1 s.2.2) b
  have e : fuelH = fuelM + 4990 + 10 := rfl
  rw [e]
  simpa using this
theorem switched_eq (s : Sty) (b : UInt8) : r24_switched fuelH (s, b) = some (turnR s b) := by
  have := tab_get (switched_tab fuelH s.1 s.2.1 s.2.2) b
  simpa using this
theorem swB_138 (s : Sty) : swB s 138 = none := by
  unfold swB
  rw [if_neg (by decide), if_neg (by decide), if_neg (by decide)]

/-! ### what the bytes say -/
noncomputable def prs : List UInt8 → Sty → Row → Option Row
  | [], _, row => some row
  | a :: t, now, row => match swB now a with
    | some s => prs t s row
    | none => match g1 a with
      | some r => prs t now (row ++ [(enc r, now, [])])
      | none => match t with
        | [] => none
        | b :: t' => if (g2 a b).2 = 0 then none else prs t' now (row ++ [(enc (g2 a b).1, now, [])])
noncomputable def spl : List UInt8 → List UInt8 × List (List UInt8)
  | [] => ([], [])
  | a :: t => if a = 138 then ([], (spl t).1 :: (spl t).2) else (a :: (spl t).1, (spl t).2)
noncomputable def runSeg : List (List UInt8) → List Row → List Row × Int
  | [], out => (out, 0)
  | s :: r, out => match prs s plainS [] with
    | none => ([], 4)
    | some row => runSeg r (out ++ [normR row])
noncomputable def rwS : List UInt8 → List Row → Sty → Row → List Row × Int
  | [], out, _, row => (out ++ [normR row], 0)
  | a :: t, out, now, row => if a = 138 then rwS t (out ++ [normR row]) plainS [] else match swB now a with
    | some s => rwS t out s row
    | none => match g1 a with
      | some r => rwS t out now (row ++ [(enc r, now, [])])
      | none => match t with
        | [] => ([], 4)
        | b :: t' => if (g2 a b).2 = 0 then ([], 4) else rwS t' out now (row ++ [(enc (g2 a b).1, now, [])])
noncomputable def thenS (x : Option Row) (r : List (List UInt8)) (out : List Row) : List Row × Int := match x with
  | none => ([], 4)
  | some row => runSeg r (out ++ [normR row])
theorem rwS_eq : ∀ (n : Nat) (p : List UInt8) (out : List Row) (now : Sty) (row : Row), p.length ≤ n → rwS p out now row = thenS (prs (spl p).1 now row) (spl p).2 out
  | _, [], out, now, row, _ => rfl
  | 0, a :: t, _, _, _, h => by simp at h
  | n + 1, a :: t, out, now, row, h => by
    simp only [List.length_cons] at h
    unfold rwS spl
    by_cases ha : a = 138
    · rw [if_pos ha, if_pos ha, rwS_eq n t _ _ _ (by omega)]
      rfl
    · rw [if_neg ha, if_neg ha]
      simp only
      conv => rhs; unfold prs
      cases hs : swB now a with
      | some s => simp only; rw [rwS_eq n t _ _ _ (by omega)]
      | none =>
        simp only
        cases hg : g1 a with
        | some r => simp only; rw [rwS_eq n t _ _ _ (by omega)]
        | none =>
          simp only
          cases t with
          | nil => rfl
          | cons b t' =>
            simp only [List.length_cons] at h
            simp only
            by_cases hb : b = 138
            · subst hb
              rw [g2_138, if_pos rfl]
              simp only [spl, if_true]
              rfl
            · simp only [spl, if_neg hb]
              by_cases h2 : (g2 a b).2 = 0
              · rw [if_pos h2, if_pos h2]; rfl
              · rw [if_neg h2, if_neg h2, rwS_eq n t' _ _ _ (by omega)]
theorem enc_len4 {r : Int} (h : inRep r = true) : (enc r).length ≤ 4 := enc_len h
/-- what the rows hold so far -/
noncomputable def GI (B : Nat) (p : List UInt8) (row : Row) : Prop := row.length + p.length ≤ B ∧ tot row ≤ 4 * row.length
theorem GI_app {B : Nat} {p q : List UInt8} {row : Row} {r : Int} {s : Sty} (h : GI B p row) (hr : inRep r = true) (hq : q.length < p.length) : GI B q (row ++ [(enc r, s, [])]) := by
  have := enc_len4 hr
  have h2 := h.2
  have h1 := h.1
  refine ⟨by rw [List.length_append, List.length_singleton]; omega, ?_⟩
  rw [tot_app, List.length_append, List.length_singleton]
  simp only [tot]
  omega
theorem stl_rows_loop {B : Nat} (hB : B ≤ 1100000) : ∀ (fuel : Nat) (p : List UInt8) (out : List Row) (now : Sty) (row : Row), p.length < fuel → GI B p row → out.length + p.length ≤ B →
    fixN (fun v3 (v4 : (List UInt8) × (List Row) × Sty × Row) =>
    cnd (ilt (0 : Int) (len v4.1))
      (grd (inb (0 : Int) (len v4.1))
        (cnd (ieq (n8 (lget v4.1 (toN (0 : Int)) (0 : UInt8))) (n8 (138 : UInt8)))
          (bnd (style_Norm fuelH v4.2.2.2) fun v5 =>
          grd (room (iadd (len v4.2.1) (len ([v5] : List Row))) 24) <|
          grd (in2 (1 : Int) (len v4.1)) <|
          v3 (ldrop (toN (1 : Int)) v4.1, lapp v4.2.1 ([v5] : List Row), ((0 : UInt8), false, false), ([] : Row)))
          (grd (inb (0 : Int) (len v4.1))
            (bnd (stl_turned fuelH (v4.2.2.1, lget v4.1 (toN (0 : Int)) (0 : UInt8))) fun v6 =>
            cnd v6.2
              (grd (in2 (1 : Int) (len v4.1))
                (v3 (ldrop (toN (1 : Int)) v4.1, v4.2.1, v6.1, v4.2.2.2)))
              (bnd (latin_Get fuelH v4.1) fun v7 =>
              cnd (ieq v7.2 (0 : Int))
                (some (([] : List Row), (4 : Int)))
                (grd (room (iadd (len v4.2.2.2) (len ([(enc v7.1, v4.2.2.1, ([] : List UInt8))] : Row))) 40)
                  (grd (in2 v7.2 (len v4.1))
                    (v3 (ldrop (toN v7.2) v4.1, v4.2.1, v4.2.2.1, lapp v4.2.2.2 ([(enc v7.1, v4.2.2.1, ([] : List UInt8))] : Row))))))))))
      (bnd (style_Norm fuelH v4.2.2.2) fun v1 =>
    grd (room (iadd (len v4.2.1) (len ([v1] : List Row))) 24) <|
    some (lapp v4.2.1 ([v1] : List Row), (0 : Int)))) fuel (p, out, now, row) = some (rwS p out now row)
  | 0, p, _, _, _, h, _, _ => by omega
  | fuel + 1, p, out, now, row, h, hI, ho => by
    have hnorm : style_Norm fuelH row = some (normR row) := style_Norm_eq (by have := hI.1; omega) (by have := hI.1; have := hI.2; omega)
    have hroom : room (iadd (len out) (len ([normR row] : List Row))) 24 = true := room_t (by simp only [iadd, len, List.length_singleton]; omega)
    rw [fixN_s]
    cases p with
    | nil =>
      simp only
      rw [cnd_f (by rfl), hnorm, bnd_some', grd_t hroom]
      rfl
    | cons a t =>
      have hl1 : in2 (1 : Int) (len (a :: t)) = true := in2_t (by simp only [len, List.length_cons]; omega)
      have hl0 : inb (0 : Int) (len (a :: t)) = true := inb_t (by simp only [len, List.length_cons]; omega)
      have g0 : lget (a :: t) (toN (0 : Int)) 0 = a := rfl
      have d1 : ldrop (toN (1 : Int)) (a :: t) = t := rfl
      simp only [List.length_cons] at h ho
      simp only
      rw [cnd_t (ilt_t (by simp only [len, List.length_cons]; omega)), grd_t hl0, g0, d1]
      unfold rwS
      by_cases ha : a = 138
      · subst ha
        rw [cnd_t (ieq_t rfl), hnorm, bnd_some', grd_t hroom, grd_t hl1, if_pos rfl]
        refine stl_rows_loop hB fuel t (out ++ [normR row]) plainS [] (by omega) ⟨?_, Nat.le_refl _⟩ (by rw [List.length_append, List.length_singleton]; omega)
        have := hI.1; simp only [List.length_cons] at this; simp; omega
      · rw [cnd_f (ieq_f fun e => ha (n8_inj e)), if_neg ha, grd_t hl0, turned_eq, bnd_some']
        have hI1 := hI.1
        simp only [List.length_cons] at hI1
        unfold turnR
        cases hs : swB now a with
        | some s =>
          simp only
          rw [cnd_t rfl, grd_t hl1]
          exact stl_rows_loop hB fuel t out s row (by omega) ⟨by omega, hI.2⟩ (by omega)
        | none =>
          simp only
          rw [cnd_f rfl, get_form, bnd_some']
          rcases getS_any a t with h0 | ⟨r, h1, h2, hr⟩ | ⟨r, b, t', h1, h3, h4, h2, hr⟩
          · rw [h0, cnd_t (ieq_t rfl)]
            unfold getS at h0
            cases hg : g1 a with
            | some r => rw [hg] at h0; simp at h0
            | none =>
              rw [hg] at h0
              simp only
              cases t with
              | nil => rfl
              | cons b t' => simp only at h0 ⊢; rw [h0, if_pos rfl]
          · rw [h2, h1, cnd_f (ieq_f (show (1 : Int) ≠ 0 by decide)), grd_t (room_t (by simp only [iadd, len, List.length_singleton]; omega)), grd_t hl1]
            exact stl_rows_loop hB fuel t out now _ (by omega) (GI_app hI hr (by simp)) (by omega)
          · subst h3
            rw [h2, h1, cnd_f (ieq_f (show (2 : Int) ≠ 0 by decide)), grd_t (room_t (by simp only [iadd, len, List.length_singleton]; omega)), grd_t (in2_t (by simp only [len, List.length_cons]; omega))]
            simp only [h4]
            rw [if_neg (by decide)]
            simp only [List.length_cons] at h ho
            exact stl_rows_loop hB fuel t' out now _ (by omega) (GI_app hI hr (by simp; omega)) (by omega)
theorem stl_rows {p : List UInt8} (hp : p.length ≤ 1100000) : stl_Rows fuelH p = some (thenS (prs (spl p).1 plainS []) (spl p).2 []) := by
  unfold stl_Rows
  rw [jn_e]
  refine Eq.trans (stl_rows_loop (B := 1100000) (by omega) fuelH p [] plainS [] (by have := fuelH_eq; omega) ⟨by simpa using hp, Nat.le_refl _⟩ (by simpa using hp)) ?_
  rw [rwS_eq _ _ _ _ _ (Nat.le_refl _)]
end
end Go.Mo
end

section
/-
  Plain facts: rows that are read by the reference; equality of rows; StlTexts returns true.
-/
namespace Go.Mo
open Go Go.W Go.Lib
set_option maxRecDepth 100000
noncomputable section

theorem dec_one {x : List UInt8} {r : Int} (hx : latin_Get fuelH x = some (r, (x.length : Int))) (h0 : 0 < x.length) (hl : x.length ≤ 4) (hr : inRep r = true) : r22_Decode fuelH x = some (enc r, 0) := by
  rw [dec22_form]
  show fixN dec22F (fuelM + 4998 + 1 + 1) (x, []) = _
  rw [fixN_s]
  unfold dec22F
  simp only
  rw [cnd_t (ilt_t (by simp only [len]; omega)), get_same, hx, bnd_some', cnd_f (ieq_f (by simp only; omega)), grd_t (room_t (by simp only [iadd, len, List.length_singleton, List.length_nil]; omega)), grd_t (in2_t (by simp only [len]; omega))]
  have hd : ldrop (toN (x.length : Int)) x = [] := by simp [ldrop, toN]
  simp only
  rw [hd, fixN_s]
  simp only
  rw [cnd_f (by rfl)]
  show (bnd (r08_Of fuelH [r]) fun v1 => some (v1, (0 : Int))) = _
  rw [of_eq (by simp) (by simp [hr]), bnd_some']
  simp [ofR]
theorem parse_loop {B : Nat} (hB : B ≤ 900000) : ∀ (fuel : Nat) (p : List UInt8) (now : Sty) (row : Row), p.length < fuel → GI B p row →
    fixN (fun v3 (v4 : (List UInt8) × Sty × Row) =>
    cnd (ilt (0 : Int) (len v4.1))
      (grd (inb (0 : Int) (len v4.1))
        (bnd (r24_switched fuelH (v4.2.1, lget v4.1 (toN (0 : Int)) (0 : UInt8))) fun v5 =>
        cnd v5.2
          (grd (in2 (1 : Int) (len v4.1))
            (v3 (ldrop (toN (1 : Int)) v4.1, v5.1, v4.2.2)))
          (bnd (r22_Get fuelH v4.1) fun v6 =>
          cnd (ieq v6.2 (0 : Int))
            (some (([] : Row), (4 : Int)))
            (grd (in2 v6.2 (len v4.1))
              (bnd (r22_Decode fuelH (ltake (toN v6.2) v4.1)) fun v7 =>
              grd (room (iadd (len v4.2.2) (len ([(v7.1, v4.2.1, ([] : List UInt8))] : Row))) 40) <|
              grd (in2 v6.2 (len v4.1)) <|
              v3 (ldrop (toN v6.2) v4.1, v4.2.1, lapp v4.2.2 ([(v7.1, v4.2.1, ([] : List UInt8))] : Row)))))))
      (bnd (r09_Norm fuelH v4.2.2) fun v1 =>
    some (v1, (0 : Int)))) fuel (p, now, row) = some (match prs p now row with
      | none => ([], 4)
      | some row' => (normR row', 0))
  | 0, p, _, _, h, _ => by omega
  | fuel + 1, p, now, row, h, hI => by
    rw [fixN_s]
    cases p with
    | nil =>
      have hnorm : r09_Norm fuelH row = some (normR row) := r09_Norm_eq (by have := hI.1; omega) (by have := hI.1; have := hI.2; omega)
      simp only
      rw [cnd_f (by rfl), hnorm, bnd_some']
      rfl
    | cons a t =>
      have hl1 : in2 (1 : Int) (len (a :: t)) = true := in2_t (by simp only [len, List.length_cons]; omega)
      have hl0 : inb (0 : Int) (len (a :: t)) = true := inb_t (by simp only [len, List.length_cons]; omega)
      have g0 : lget (a :: t) (toN (0 : Int)) 0 = a := rfl
      have d1 : ldrop (toN (1 : Int)) (a :: t) = t := rfl
      simp only [List.length_cons] at h
      have hI1 := hI.1
      simp only [List.length_cons] at hI1
      simp only
      rw [cnd_t (ilt_t (by simp only [len, List.length_cons]; omega)), grd_t hl0, g0, d1, switched_eq, bnd_some']
      conv => rhs; unfold prs
      unfold turnR
      cases hs : swB now a with
      | some s =>
        simp only
        rw [cnd_t rfl, grd_t hl1]
        exact parse_loop hB fuel t s row (by omega) ⟨by omega, hI.2⟩
      | none =>
        simp only
        rw [cnd_f rfl, get_same, get_form, bnd_some']
        rcases getS_any a t with h0 | ⟨r, h1, h2, hr⟩ | ⟨r, b, t', h1, h3, h4, h2, hr⟩
        · rw [h0, cnd_t (ieq_t rfl)]
          unfold getS at h0
          cases hg : g1 a with
          | some r => rw [hg] at h0; simp at h0
          | none =>
            rw [hg] at h0
            simp only
            cases t with
            | nil => rfl
            | cons b t' => simp only at h0 ⊢; rw [h0, if_pos rfl]
        · have hd : r22_Decode fuelH (ltake (toN (1 : Int)) (a :: t)) = some (enc r, 0) := by
            show r22_Decode fuelH [a] = _
            refine dec_one ?_ (by simp) (by simp) hr
            rw [get_form]
            simp only [getS, h1]
            rfl
          rw [h2, h1, cnd_f (ieq_f (show (1 : Int) ≠ 0 by decide)), grd_t hl1]
          simp only
          rw [hd, bnd_some', grd_t (room_t (by simp only [iadd, len, List.length_singleton]; omega)), grd_t hl1]
          exact parse_loop hB fuel t now _ (by omega) (GI_app hI hr (by simp))
        · subst h3
          have hd : r22_Decode fuelH (ltake (toN (2 : Int)) (a :: b :: t')) = some (enc r, 0) := by
            show r22_Decode fuelH [a, b] = _
            refine dec_one ?_ (by simp) (by simp) hr
            rw [get_form]
            simp only [getS, h1, h4]
            rfl
          have hl2 : in2 (2 : Int) (len (a :: b :: t')) = true := in2_t (by simp only [len, List.length_cons]; omega)
          rw [h2, h1, cnd_f (ieq_f (show (2 : Int) ≠ 0 by decide)), grd_t hl2]
          simp only
          rw [hd, bnd_some', grd_t (room_t (by simp only [iadd, len, List.length_singleton]; omega)), grd_t hl2]
          simp only [h4]
          rw [if_neg (by decide)]
          simp only [List.length_cons] at h
          exact parse_loop hB fuel t' now _ (by omega) (GI_app hI hr (by simp; omega))
theorem parse_row {p : List UInt8} (hp : p.length ≤ 300000) : r24_parseRow fuelH p = some (match prs p plainS [] with
      | none => ([], 4)
      | some row' => (normR row', 0)) := by
  unfold r24_parseRow
  rw [jn_e]
  exact parse_loop (B := 300000) (by omega) fuelH p plainS [] (by have := fuelH_eq; omega) ⟨by simpa using hp, Nat.le_refl _⟩

/-! ### the rows, by the reference -/
/-- the bytes from 'from' on, up to i -/
noncomputable def segOf (p : List UInt8) (fr i : Nat) : List UInt8 := (p.take i).drop fr
theorem segOf_next {p : List UInt8} {fr i : Nat} (h : i < p.length) (hf : fr ≤ i) : segOf p fr (i + 1) = segOf p fr i ++ [p[i]] := by
  unfold segOf
  rw [List.take_succ_eq_append_getElem h, List.drop_append_of_le_length (by rw [List.length_take]; omega)]
theorem ref_rows_loop {p : List UInt8} (hp : p.length ≤ 300000) : ∀ (fuel i fr : Nat) (out : List Row), p.length + 1 - i < fuel → fr ≤ i → i ≤ p.length → out.length ≤ i →
    fixN (fun v2 (v3 : (List Row) × Int × Int) =>
    cnd (ile v3.2.2 (len p))
      (jn (fun (v4 : Unit) =>
        grd (in3 v3.2.1 v3.2.2 (len p)) <|
        bnd (r24_parseRow fuelH (ldrop (toN v3.2.1) (ltake (toN v3.2.2) p))) fun v5 =>
        cnd (ine v5.2 (0 : Int))
          (some (([] : List Row), v5.2))
          (grd (room (iadd (len v3.1) (len ([v5.1] : List Row))) 24)
            (v2 (lapp v3.1 ([v5.1] : List Row), w64 (iadd v3.2.2 (1 : Int)), w64 (iadd v3.2.2 (1 : Int))))))
      fun v6 =>
      cnd (ilt v3.2.2 (len p))
        (grd (inb v3.2.2 (len p))
          (cnd (ine (n8 (lget p (toN v3.2.2) (0 : UInt8))) (n8 (138 : UInt8)))
            (v2 (v3.1, v3.2.1, w64 (iadd v3.2.2 (1 : Int))))
            (v6 ())))
        (v6 ()))
      (some (v3.1, (0 : Int)))) fuel (out, (fr : Int), (i : Int)) = some (runSeg ((segOf p fr i ++ (spl (p.drop i)).1) :: (spl (p.drop i)).2) out)
  | 0, i, fr, out, h, _, _, _ => by omega
  | fuel + 1, i, fr, out, h, hf, hi, ho => by
    rw [fixN_s]
    simp only
    have hseg : (segOf p fr i).length ≤ 300000 := by unfold segOf; rw [List.length_drop, List.length_take]; omega
    have hpr : r24_parseRow fuelH (ldrop (toN (fr : Int)) (ltake (toN (i : Int)) p)) = _ := parse_row (p := segOf p fr i) hseg
    rw [cnd_t (ile_t (by simp only [len]; omega)), jn_e, grd_t (in3_t (by simp only [len]; omega)), hpr, bnd_some']
    by_cases hl : i < p.length
    · rw [cnd_t (ilt_t (by simp only [len]; omega)), grd_t (inb_t (by simp only [len]; omega)), lget_i hl, w64_succ hl (by omega), List.drop_eq_getElem_cons hl]
      by_cases hb : p[i] = 138
      · rw [cnd_f (ine_f (by rw [hb]))]
        simp only [spl, if_pos hb, List.append_nil]
        simp only [runSeg]
        cases prs (segOf p fr i) plainS [] with
        | none => exact cnd_t (ine_t (show (4 : Int) ≠ 0 by decide))
        | some row =>
          refine (cnd_f (ine_f rfl)).trans ?_
          rw [grd_t (room_t (by simp only [iadd, len, List.length_singleton]; omega))]
          refine (ref_rows_loop hp fuel (i + 1) (i + 1) (out ++ [normR row]) (by omega) (Nat.le_refl _) (by omega) (by rw [List.length_append, List.length_singleton]; omega)).trans ?_
          have : segOf p (i + 1) (i + 1) = [] := by unfold segOf; simp
          rw [this]
          rfl
      · rw [cnd_t (ine_t fun e => hb (n8_inj e))]
        rw [ref_rows_loop hp fuel (i + 1) fr out (by omega) (by omega) (by omega) (by omega), segOf_next hl hf]
        simp only [spl, if_neg hb, List.append_assoc, List.singleton_append]
    · have hi : i = p.length := by omega
      rw [cnd_f (ilt_f (by simp only [len]; omega))]
      have hd : p.drop i = [] := by rw [hi]; simp
      rw [hd]
      simp only [spl, List.append_nil, runSeg]
      cases prs (segOf p fr i) plainS [] with
      | none => exact cnd_t (ine_t (show (4 : Int) ≠ 0 by decide))
      | some row =>
        refine (cnd_f (ine_f rfl)).trans ?_
        rw [grd_t (room_t (by simp only [iadd, len, List.length_singleton]; omega))]
        have hw : w64 (iadd (i : Int) 1) = ((i + 1 : Nat) : Int) := by
          simp only [iadd]; rw [w64_id (by omega)]; omega
        rw [hw]
        cases fuel with
        | zero => omega
        | succ fuel =>
          rw [fixN_s]
          simp only
          rw [cnd_f (ile_f (by simp only [len]; omega))]
          rfl
theorem r24_rows {p : List UInt8} (hp : p.length ≤ 300000) : r24_Rows fuelH p = some (thenS (prs (spl p).1 plainS []) (spl p).2 []) := by
  unfold r24_Rows
  rw [jn_e]
  refine (ref_rows_loop hp fuelH 0 0 [] (by have := fuelH_eq; omega) (Nat.le_refl _) (Nat.zero_le _) (Nat.zero_le _)).trans ?_
  have : segOf p 0 0 = [] := rfl
  rw [this, List.drop_zero, List.nil_append]
  rfl

/-! ### equality -/
theorem run_eq {a b : Run} : (a = b) = (a.1 = b.1 ∧ a.2.1 = b.2.1 ∧ a.2.2 = b.2.2) := by
  obtain ⟨a1, a2, a3⟩ := a; obtain ⟨b1, b2, b3⟩ := b; simp
/-- a loop that compares -/
theorem same_fold {α : Type} : ∀ (l m : List α) [DecidableEq α], l.length = m.length → ∀ i, itI (fun i (x : α) (_ : Unit) => if some x = m[i]? then (.inr () : Option Bool ⊕ Unit) else .inl (some false)) (fun _ => some true) i (l.drop i) () = some (decide (l.drop i = m.drop i)) := by
  intro l m _ hl i
  generalize hr : l.drop i = r
  induction r generalizing i with
  | nil =>
    have h1 : l.length ≤ i := by have := congrArg List.length hr; simp at this; omega
    have : m.drop i = [] := by rw [List.drop_eq_nil_iff]; omega
    rw [this]; simp [itI]
  | cons x r ih =>
    have hx : l[i]? = some x := by rw [← List.head?_drop, hr]; rfl
    have hi := (List.getElem?_eq_some_iff.1 hx).1
    have hr' : l.drop (i + 1) = r := by rw [← List.drop_drop, hr]; rfl
    have hm : m.drop i = m[i] :: m.drop (i + 1) := List.drop_eq_getElem_cons (by omega)
    rw [hm]
    simp only [itI]
    by_cases h : some x = m[i]?
    · rw [if_pos h]
      simp only
      rw [ih (i + 1) hr']
      rw [List.getElem?_eq_getElem (by omega)] at h
      injection h with h
      exact congrArg some (decide_eq_decide.2 ⟨fun e => by rw [h, e], fun e => by injection e⟩)
    · rw [if_neg h]
      rw [List.getElem?_eq_getElem (by omega)] at h
      have : x ≠ m[i] := fun e => h (by rw [e])
      exact congrArg some (decide_eq_false fun e => this (by injection e)).symm
theorem eqRuns (a b : Row) (hl : a.length ≤ 4000000) : slices_Equal_Lapi_Run_api_Run fuelH (a, b) = some (decide (a = b)) := by
  unfold slices_Equal_Lapi_Run_api_Run
  by_cases h : a.length = b.length
  · rw [cnd_f (ine_f (by simp only [len]; omega)), jn_e]
    refine Eq.trans (lst_it (l := a) (fun (_ : Unit) (p : Nat) => (p : Int)) (fun i (x : Run) (_ : Unit) => if some x = b[i]? then .inr () else .inl (some false)) (fun _ => some true) (fun _ _ => True) (fun self _ i hi _ => ?_) (fun self _ _ => ?_) fuelH 0 () (Nat.zero_le _) (by have := fuelH_eq; omega) trivial) ?_
    · have hb : i < b.length := by omega
      have e : cnd (ilt (i : Int) (len a)) (grd (inb (i : Int) (len a)) (grd (inb (i : Int) (len b)) (cnd (bnot (band (seq (lget a (toN (i : Int)) ([], (((0 : UInt8), (false, false)), []))).1 (lget b (toN (i : Int)) ([], (((0 : UInt8), (false, false)), []))).1) (band (band (ieq (n8 (lget a (toN (i : Int)) ([], (((0 : UInt8), (false, false)), []))).2.1.1) (n8 (lget b (toN (i : Int)) ([], (((0 : UInt8), (false, false)), []))).2.1.1)) (band (beqb (lget a (toN (i : Int)) ([], (((0 : UInt8), (false, false)), []))).2.1.2.1 (lget b (toN (i : Int)) ([], (((0 : UInt8), (false, false)), []))).2.1.2.1) (beqb (lget a (toN (i : Int)) ([], (((0 : UInt8), (false, false)), []))).2.1.2.2 (lget b (toN (i : Int)) ([], (((0 : UInt8), (false, false)), []))).2.1.2.2))) (seq (lget a (toN (i : Int)) ([], (((0 : UInt8), (false, false)), []))).2.2 (lget b (toN (i : Int)) ([], (((0 : UInt8), (false, false)), []))).2.2)))) (some false) (self (w64 (iadd (i : Int) 1)))))) (some true) = if a[i] = b[i] then self ((i + 1 : Nat) : Int) else some false := by
        rw [cnd_t (ilt_t (by simp only [len]; omega)), grd_t (inb_t (by simp only [len]; omega)), grd_t (inb_t (by simp only [len]; omega)), lget_i hi, lget_i hb, w64_succ hi (by omega), cnd_ite]
        simp only [bnot_t, Bool.eq_false_iff, ne_eq, band_tt, seq_t, ieq_tt, beqb_t, n8_eq, ← sty_eq, ← run_eq]
        by_cases hc : a[i] = b[i]
        · rw [if_neg (by simpa using hc), if_pos hc]
        · rw [if_pos hc, if_neg hc]
      rw [List.getElem?_eq_getElem hb]
      by_cases hc : a[i] = b[i]
      · rw [if_pos (by rw [hc])]
        exact ⟨e.trans (if_pos hc), trivial⟩
      · rw [if_neg (fun h => hc (by injection h))]
        exact e.trans (if_neg hc)
    · simp only
      rw [cnd_f (ilt_f (by simp only [len]; omega))]
    · exact same_fold a b h 0
  · rw [cnd_t (ine_t (by simp only [len]; omega))]
    have : a ≠ b := fun e => h (by rw [e])
    simp [this]
theorem same_row (a b : Row) (hl : a.length ≤ 4000000) : style_Same fuelH (a, b) = some (decide (a = b)) := by
  unfold style_Same
  rw [eqRuns a b hl, bnd_some']
theorem same_rows (a b : List Row) (hl : a.length ≤ 4000000) (h : ∀ r ∈ a, r.length ≤ 4000000) : style_SameRows fuelH (a, b) = some (decide (a = b)) := by
  unfold style_SameRows slices_EqualFunc_Lapi_Row_Lapi_Row_api_Row_api_Row
  by_cases hab : a.length = b.length
  · rw [cnd_f (ine_f (by simp only [len]; omega)), jn_e]
    have : ∀ X : Option Bool, (bnd X fun v0 => some v0) = X := fun X => by cases X <;> rfl
    rw [this]
    refine Eq.trans (lst_it (l := a) (fun (_ : Unit) (p : Nat) => (p : Int)) (fun i (x : Row) (_ : Unit) => if some x = b[i]? then .inr () else .inl (some false)) (fun _ => some true) (fun _ _ => True) (fun self _ i hi _ => ?_) (fun self _ _ => ?_) fuelH 0 () (Nat.zero_le _) (by have := fuelH_eq; omega) trivial) ?_
    · have hb : i < b.length := by omega
      have e : cnd (ilt (i : Int) (len a)) (grd (inb (i : Int) (len a)) (grd (inb (i : Int) (len b)) (bnd (style_Same fuelH (lget a (toN (i : Int)) [], lget b (toN (i : Int)) [])) fun v4 => cnd (bnot v4) (some false) (self (w64 (iadd (i : Int) 1)))))) (some true) = if a[i] = b[i] then self ((i + 1 : Nat) : Int) else some false := by
        rw [cnd_t (ilt_t (by simp only [len]; omega)), grd_t (inb_t (by simp only [len]; omega)), grd_t (inb_t (by simp only [len]; omega)), lget_i hi, lget_i hb, w64_succ hi (by omega), same_row _ _ (h _ (List.getElem_mem hi)), bnd_some', cnd_bnot]
      rw [List.getElem?_eq_getElem hb]
      by_cases hc : a[i] = b[i]
      · rw [if_pos (by rw [hc])]
        exact ⟨e.trans (if_pos hc), trivial⟩
      · rw [if_neg (fun h => hc (by injection h))]
        exact e.trans (if_neg hc)
    · simp only
      rw [cnd_f (ilt_f (by simp only [len]; omega))]
    · exact same_fold a b hab 0
  · rw [cnd_t (ine_t (by simp only [len]; omega))]
    have : a ≠ b := fun e => hab (by rw [e])
    simp [this, bnd_some']
end
end Go.Mo
end

section
/-
  Plain facts: StlTexts returns true.
-/
namespace Go.Mo
open Go Go.W Go.Lib
set_option maxRecDepth 100000
noncomputable section
theorem awake24 : l24_awake fuelH () = some true := by kernel_rfl

/-! ### loops whose invariant says the result -/
theorem loop_inv {V R σ : Type} {F : (V → Option R) → V → Option R} {n : Nat} (st : σ → Nat → V) (I : Nat → σ → Prop) (r : Option R)
    (hstep : ∀ self a i, i < n → I i a → ∃ a', F self (st a i) = self (st a' (i + 1)) ∧ I (i + 1) a') (hend : ∀ self a, I n a → F self (st a n) = r) : ∀ (fuel i : Nat) (a : σ), i ≤ n → n - i < fuel → I i a → fixN F fuel (st a i) = r
  | 0, i, a, _, h, _ => by omega
  | fuel + 1, i, a, hi, h, hI => by
    rw [fixN_s]
    by_cases hl : i < n
    · obtain ⟨a', h1, h2⟩ := hstep (fixN F fuel) a i hl hI
      rw [h1]
      exact loop_inv st I r hstep hend fuel (i + 1) a' (by omega) (by omega) h2
    · obtain rfl : i = n := by omega
      exact hend _ _ hI

/-! ### how much -/
theorem bk_mem {α : Type} {f : α → Nat} {l : List α} {x : α} (h : x ∈ l) : f x ≤ bkL f l := by
  induction l with
  | nil => cases h
  | cons y l ih =>
    simp only [bkL]
    rcases List.mem_cons.1 h with rfl | h
    · omega
    · have := ih h; omega
theorem bk_len {α : Type} {f : α → Nat} (hf : ∀ x, 1 ≤ f x) (l : List α) : l.length ≤ bkL f l := by
  induction l with
  | nil => exact Nat.le_refl _
  | cons y l ih => have := hf y; simp only [bkL, List.length_cons]; omega
theorem bk_take {α : Type} {f : α → Nat} : ∀ (n : Nat) (l : List α), bkL f (l.take n) ≤ bkL f l
  | 0, _ => Nat.zero_le _
  | n + 1, [] => Nat.le_refl _
  | n + 1, x :: l => by have := bk_take (f := f) n l; simp only [List.take_succ_cons, bkL]; omega
theorem bk_map {α β : Type} {f : β → Nat} {g : α → Nat} {h : α → β} (hh : ∀ x, f (h x) ≤ g x) (l : List α) : bkL f (l.map h) ≤ bkL g l := by
  induction l with
  | nil => exact Nat.le_refl _
  | cons x l ih => have := hh x; simp only [List.map_cons, bkL]; omega
noncomputable def wtU (x : Run) : Nat := x.1.length + 1 + (1 + (1 + 1) + (x.2.2.length + 1))
noncomputable def wtR (r : Row) : Nat := bkL wtU r + 1
noncomputable def wtL (l : List Row) : Nat := bkL wtR l + 1
theorem wtU_pos (x : Run) : 1 ≤ wtU x := by unfold wtU; omega
theorem wtR_pos (r : Row) : 1 ≤ wtR r := by unfold wtR; omega
theorem cost_wt (r : Row) : cost r ≤ bkL wtU r := by
  induction r with
  | nil => exact Nat.le_refl _
  | cons x r ih => simp only [cost, bkL, wtU]; omega
theorem costL_wt (l : List Row) : costL l ≤ bkL wtR l := by
  induction l with
  | nil => exact Nat.le_refl _
  | cons r l ih => have := cost_wt r; simp only [costL, bkL, wtR]; omega
theorem short_wt {l : List Row} {B : Nat} (h : bkL wtR l ≤ B) (hB : B ≤ 4000000) : shortL l := fun r hr x hx => by
  have h1 : bkL wtU r + 1 ≤ bkL wtR l := bk_mem (f := wtR) hr
  have h2 : x.1.length + 1 + (1 + (1 + 1) + (x.2.2.length + 1)) ≤ bkL wtU r := bk_mem (f := wtU) hx
  omega

/-! ### at most five rows of at most twenty runs -/
noncomputable def cutR (l : List Row) : List Row := (l.take 5).map fun r => r.take 20
theorem clone_rows {l : List Row} (h : l.length ≤ 4000000) : slices_Clone_Lapi_Row_api_Row fuelH l = some l := by
  have h1 : grd (room (iadd (len ([] : List Row)) (len l)) 24) (some (lapp ([] : List Row) l)) = some l := by
    rw [grd_t (room_t (by simp only [iadd, len, List.length_nil]; omega))]; rfl
  unfold slices_Clone_Lapi_Row_api_Row
  cases l with
  | nil =>
    rw [cnd_f (by rfl)]
    exact univ_of rfl h1
  | cons r l =>
    rw [cnd_t (ine_t (by simp only [len, List.length_cons]; omega))]
    exact h1
theorem min_take {α : Type} (l : List α) (n : Nat) : ltake (toN (imin (len l) (n : Int))) l = l.take n ∧ in2 (imin (len l) (n : Int)) (len l) = true := by
  have e : toN (imin (len l) (n : Int)) = min l.length n := by simp only [toN, imin, len]; omega
  refine ⟨?_, in2_t (by simp only [imin, len]; omega)⟩
  rw [e]
  unfold ltake
  by_cases h : l.length ≤ n
  · rw [Nat.min_eq_left h, List.take_length, List.take_of_length_le h]
  · rw [Nat.min_eq_right (by omega)]
theorem short_eq (l : List Row) : l24_short fuelH l = some (cutR l) := by
  unfold l24_short
  obtain ⟨e1, e2⟩ := min_take l 5
  have e1 : ltake (toN (imin (len l) (5 : Int))) l = l.take 5 := e1
  have e2 : in2 (imin (len l) (5 : Int)) (len l) = true := e2
  have hl : (l.take 5).length ≤ 5 := by rw [List.length_take]; omega
  rw [grd_t e2, e1, clone_rows (by omega), bnd_some', jn_e]
  refine loop_inv (n := (l.take 5).length) (fun (a : List Row) (i : Nat) => ((i : Int), a)) (fun i a => a = ((l.take 5).take i).map (fun r => r.take 20) ++ (l.take 5).drop i) _ (fun self a i hi hI => ?_) (fun self a hI => ?_) fuelH 0 (l.take 5) (Nat.zero_le _) (by have := fuelH_eq; omega) (by simp)
  · generalize l.take 5 = m at *
    have ha : a.length = m.length := by rw [hI]; simp; omega
    have hg : a[i]'(by omega) = m[i] := by
      have : a[i]? = m[i]? := by
        rw [hI, List.getElem?_append_right (by simp; omega), List.getElem?_drop]
        congr 1
        simp; omega
      rw [List.getElem?_eq_getElem (by omega), List.getElem?_eq_getElem hi] at this
      injection this
    have hin : inb (i : Int) (len a) = true := inb_t (by simp only [len]; omega)
    obtain ⟨f1, f2⟩ := min_take m[i] 20
    refine ⟨a.set i (m[i].take 20), ?_, ?_⟩
    · simp only
      rw [cnd_t (ilt_t (by simp only [len]; omega)), grd_t hin, grd_t hin, lget_i (show i < a.length by omega), hg]
      have f2' : in2 (imin (len m[i]) (20 : Int)) (len m[i]) = true := f2
      have f1' : ltake (toN (imin (len m[i]) (20 : Int))) m[i] = m[i].take 20 := f1
      rw [grd_t f2', grd_t hin, f1', w64_succ hi (by omega)]
      rfl
    · rw [hI, List.set_append_right _ _ (by simp; omega)]
      have e0 : i - (List.map (fun r => List.take 20 r) (m.take i)).length = 0 := by simp; omega
      rw [e0, List.drop_eq_getElem_cons hi, List.set_cons_zero, List.take_succ_eq_append_getElem hi, List.map_append, List.append_assoc]
      rfl
  · simp only
    rw [cnd_f (ilt_f (by simp only [len]; omega)), hI, List.take_length, List.drop_length, List.append_nil]
    rfl
theorem cut_wt (l : List Row) : bkL wtR (cutR l) ≤ bkL wtR l := by
  unfold cutR
  refine Nat.le_trans (bk_map (g := wtR) (fun r => ?_) _) (bk_take _ _)
  have := bk_take (f := wtU) 20 r
  unfold wtR
  omega

/-! ### how long -/
theorem textL_len : ∀ (l : List Row) (b : Bool) (out : List UInt8), (textL b l out).1.length ≤ out.length + costL l
  | [], _, out => by simp [textL]
  | r :: l, b, out => by
    simp only [textL]
    split
    · simp
    · rename_i h
      have hr := rowB_len (now := plainS) fun x hx => ((rowChk_ok (l := r) (by simpa using h)).2 x hx).1
      refine Nat.le_trans (textL_len l false _) ?_
      rw [List.length_append, List.length_append]
      simp only [costL]
      split <;> simp <;> omega
theorem prs_len : ∀ (n : Nat) (p : List UInt8) (now : Sty) (row row' : Row), p.length ≤ n → prs p now row = some row' → row'.length ≤ row.length + p.length
  | _, [], _, row, row', _, h => by simp only [prs, Option.some.injEq] at h; subst h; simp
  | 0, a :: t, _, _, _, h, _ => by simp at h
  | n + 1, a :: t, now, row, row', hn, h => by
    simp only [List.length_cons] at hn ⊢
    unfold prs at h
    split at h
    · have := prs_len n t _ _ _ (by omega) h; omega
    · split at h
      · have := prs_len n t _ _ _ (by omega) h
        rw [List.length_append, List.length_singleton] at this; omega
      · split at h
        · cases h
        · rename_i b t'
          split at h
          · cases h
          · simp only [List.length_cons] at hn ⊢
            have := prs_len n t' _ _ _ (by omega) h
            rw [List.length_append, List.length_singleton] at this; omega
theorem fold_len : ∀ (l out : Row), (l.foldl snoc out).length ≤ out.length + l.length
  | [], out => Nat.le_refl _
  | x :: l, out => by
    have h1 := snoc_len out x
    have h2 := fold_len l (snoc out x)
    simp only [List.foldl_cons, List.length_cons]
    omega
theorem normR_len (l : Row) : (normR l).length ≤ l.length := by
  have := fold_len l []
  simpa [normR] using this
theorem spl_len : ∀ p : List UInt8, (spl p).1.length ≤ p.length ∧ (spl p).2.length ≤ p.length ∧ ∀ s ∈ (spl p).2, s.length ≤ p.length
  | [] => ⟨Nat.le_refl _, Nat.le_refl _, fun s h => by cases h⟩
  | a :: t => by
    obtain ⟨h1, h2, h3⟩ := spl_len t
    simp only [spl]
    split
    · refine ⟨Nat.zero_le _, by simp only [List.length_cons]; omega, fun s hs => ?_⟩
      simp only [List.length_cons]
      rcases List.mem_cons.1 hs with rfl | hs
      · omega
      · have := h3 s hs; omega
    · refine ⟨by simp only [List.length_cons]; omega, by simp only [List.length_cons]; omega, fun s hs => ?_⟩
      have := h3 s hs
      simp only [List.length_cons]
      omega
theorem runSeg_len {M : Nat} : ∀ (segs : List (List UInt8)) (out : List Row), (∀ s ∈ segs, s.length ≤ M) → (∀ r ∈ out, r.length ≤ M) → (runSeg segs out).1.length ≤ out.length + segs.length ∧ ∀ r ∈ (runSeg segs out).1, r.length ≤ M
  | [], out, _, ho => ⟨Nat.le_refl _, ho⟩
  | s :: segs, out, hs, ho => by
    simp only [runSeg]
    cases hp : prs s plainS [] with
    | none => exact ⟨Nat.zero_le _, fun r hr => by cases hr⟩
    | some row =>
      have h1 := prs_len _ s _ _ _ (Nat.le_refl _) hp
      have h2 := normR_len row
      have h3 := hs s List.mem_cons_self
      simp only [List.length_nil] at h1
      obtain ⟨q1, q2⟩ := runSeg_len (M := M) segs (out ++ [normR row]) (fun t ht => hs t (List.mem_cons_of_mem _ ht)) (fun r hr => by
        rcases List.mem_append.1 hr with hr | hr
        · exact ho r hr
        · rw [List.mem_singleton.1 hr]; omega)
      refine ⟨?_, q2⟩
      rw [List.length_append, List.length_singleton] at q1
      simp only [List.length_cons]
      omega
theorem thenS_eq (s : List UInt8) (r : List (List UInt8)) (out : List Row) : thenS (prs s plainS []) r out = runSeg (s :: r) out := rfl
theorem rows_len {p : List UInt8} : (thenS (prs (spl p).1 plainS []) (spl p).2 []).1.length ≤ p.length + 1 ∧ ∀ r ∈ (thenS (prs (spl p).1 plainS []) (spl p).2 []).1, r.length ≤ p.length := by
  obtain ⟨h1, h2, h3⟩ := spl_len p
  rw [thenS_eq]
  obtain ⟨q1, q2⟩ := runSeg_len (M := p.length) ((spl p).1 :: (spl p).2) [] (fun s hs => by
    rcases List.mem_cons.1 hs with rfl | hs
    · exact h1
    · exact h3 s hs) (fun r hr => by cases hr)
  exact ⟨by simp only [List.length_nil, List.length_cons] at q1; omega, q2⟩

theorem texts_true {x : List Row × List UInt8} (hb : wtL x.1 + (bkL (fun _ => 1) x.2 + 1) ≤ 1048576) : l24_StlTexts fuelH x = some true := by
  unfold l24_StlTexts
  rw [awake24, bnd_some', cnd_f (by rfl), short_eq, bnd_some']
  obtain ⟨e1, e2⟩ := min_take x.2 120
  have e1 : ltake (toN (imin (len x.2) (120 : Int))) x.2 = x.2.take 120 := e1
  have e2 : in2 (imin (len x.2) (120 : Int)) (len x.2) = true := e2
  have hw := cut_wt x.1
  unfold wtL at hb
  have hs : shortL (cutR x.1) := short_wt (B := 1048576) (by omega) (by omega)
  have hc := costL_wt (cutR x.1)
  have hl : (cutR x.1).length ≤ 5 := by unfold cutR; rw [List.length_map, List.length_take]; omega
  have hp : (x.2.take 120).length ≤ 120 := by rw [List.length_take]; omega
  have ht := textL_len (cutR x.1) true []
  simp only [List.length_nil, Nat.zero_add] at ht
  obtain ⟨r1, r2⟩ := rows_len (p := x.2.take 120)
  rw [grd_t e2, e1, stl_text hs (by omega) (by omega), bnd_some', r24_text hs (by omega) (by omega), bnd_some', stl_rows (by omega), bnd_some', r24_rows (by omega), bnd_some', equal_eq _ _ (by omega) (.inr (by have := fuelH_eq; omega)), bnd_some', cnd_t (by simp), cnd_t (ieq_t rfl), same_rows _ _ (by omega) (fun r hr => by have := r2 r hr; omega), bnd_some', cnd_t (by simp)]
  congr 1
  exact ieq_t rfl
end
end Go.Mo
end

section
/-
  Plain facts: StlReturns returns true.
-/
namespace Go.Mo
open Go Go.W Go.Lib
set_option maxRecDepth 100000
noncomputable section

/-! ### bytes of a character, read -/
noncomputable def latC (r : Int) : Bool := match lat r with
  | [a] => (swB plainS a).isNone && decide (a ≠ 138) && decide (g1 a = some r)
  | [a, b] => (swB plainS a).isNone && decide (a ≠ 138) && decide (b ≠ 138) && (g1 a).isNone && decide (g2 a b = (r, 2))
  | _ => false
theorem latC_tab {r : Int} (hr : inRep r = true) : latC r = true := all_rep (P := latC) (by kernel_rfl) hr
theorem swB_none {s s' : Sty} {a : UInt8} (h : swB s a = none) : swB s' a = none := by
  unfold swB at h ⊢
  split at h
  · cases h
  · rename_i h1
    split at h
    · cases h
    · rename_i h2
      split at h
      · cases h
      · rename_i h3
        rw [if_neg h1, if_neg h2, if_neg h3]
theorem lat_no {r : Int} (hr : inRep r = true) : ∀ b ∈ lat r, b ≠ 138 := by
  have h := latC_tab hr
  unfold latC at h
  split at h
  · rename_i a he
    simp only [Bool.and_eq_true, decide_eq_true_eq] at h
    rw [he]; intro b hb; rw [List.mem_singleton.1 hb]; exact h.1.2
  · rename_i a b he
    simp only [Bool.and_eq_true, decide_eq_true_eq] at h
    rw [he]; intro c hc
    rcases List.mem_cons.1 hc with rfl | hc
    · exact h.1.1.1.2
    · rw [List.mem_singleton.1 hc]; exact h.1.1.2
  · cases h
theorem prs_lat {r : Int} (hr : inRep r = true) (t : List UInt8) (now : Sty) (row : Row) : prs (lat r ++ t) now row = prs t now (row ++ [(enc r, now, [])]) := by
  have h := latC_tab hr
  unfold latC at h
  split at h
  · rename_i a he
    simp only [Bool.and_eq_true, decide_eq_true_eq, Option.isNone_iff_eq_none] at h
    rw [he, List.singleton_append]
    conv => lhs; unfold prs
    rw [swB_none (s' := now) h.1.1, h.2]
  · rename_i a b he
    simp only [Bool.and_eq_true, decide_eq_true_eq, Option.isNone_iff_eq_none] at h
    rw [he, List.cons_append, List.singleton_append]
    conv => lhs; unfold prs
    rw [swB_none (s' := now) h.1.1.1.1, h.1.2]
    simp only
    rw [h.2]
    exact if_neg (show ¬ (2 : Int) = 0 by decide)
  · cases h
/-- one run for each character -/
noncomputable def chs1 (s : Sty) (l : List Int) : Row := l.map fun r => (enc r, s, [])
theorem prs_lats : ∀ (l : List Int) (t : List UInt8) (now : Sty) (row : Row), l.all inRep = true → prs (l.flatMap lat ++ t) now row = prs t now (row ++ chs1 now l)
  | [], t, now, row, _ => by simp [chs1]
  | r :: l, t, now, row, h => by
    rw [List.all_cons, Bool.and_eq_true] at h
    rw [List.flatMap_cons, List.append_assoc, prs_lat h.1, prs_lats l t now _ h.2]
    simp [chs1]
theorem swB_col {c : UInt8} (hc : n8 c ≤ 6) (s : Sty) : swB s (colB c) = some (c, s.2) := by
  have hcs : c = 0 ∨ c = 1 ∨ c = 2 ∨ c = 3 ∨ c = 4 ∨ c = 5 ∨ c = 6 := by
    have : c.toNat ≤ 6 := by unfold n8 at hc; omega
    have e : c = UInt8.ofNat c.toNat := by simp
    generalize c.toNat = k at this e
    have : k = 0 ∨ k = 1 ∨ k = 2 ∨ k = 3 ∨ k = 4 ∨ k = 5 ∨ k = 6 := by omega
    rcases this with rfl | rfl | rfl | rfl | rfl | rfl | rfl <;> subst e <;> simp
  rcases hcs with rfl | rfl | rfl | rfl | rfl | rfl | rfl <;> rfl
theorem prs_sw {s s' : Sty} {b : UInt8} (h : swB s b = some s') (t : List UInt8) (row : Row) : prs (b :: t) s row = prs t s' row := by
  conv => lhs; unfold prs
  rw [h]
theorem prs_run {x : Run} (h1 : vld x.1 = true) (h2 : n8 x.2.1.1 ≤ 6) (now : Sty) (t : List UInt8) (row : Row) : prs (runB now x ++ t) now row = prs t x.2.1 (row ++ chs1 x.2.1 (rns x.1)) := by
  unfold runB
  rw [List.append_assoc, List.append_assoc, List.append_assoc]
  have a1 : ∀ u, prs ((if x.2.1.1 ≠ now.1 then [colB x.2.1.1] else []) ++ u) now row = prs u (x.2.1.1, now.2) row := fun u => by
    split
    · exact prs_sw (swB_col h2 now) u row
    · rename_i h
      have h : x.2.1.1 = now.1 := by simpa using h
      rw [h]; rfl
  have a2 : ∀ u, prs ((if x.2.1.2.1 ≠ now.2.1 then [if x.2.1.2.1 = true then 128 else 129] else []) ++ u) (x.2.1.1, now.2) row = prs u (x.2.1.1, x.2.1.2.1, now.2.2) row := fun u => by
    split
    · cases x.2.1.2.1 <;> exact prs_sw rfl u row
    · rename_i h
      have h : x.2.1.2.1 = now.2.1 := by simpa using h
      rw [h]; rfl
  have a3 : ∀ u, prs ((if x.2.1.2.2 ≠ now.2.2 then [if x.2.1.2.2 = true then 130 else 131] else []) ++ u) (x.2.1.1, x.2.1.2.1, now.2.2) row = prs u x.2.1 row := fun u => by
    split
    · have e : prs ((if x.2.1.2.2 = true then (130 : UInt8) else 131) :: u) (x.2.1.1, x.2.1.2.1, now.2.2) row = prs u (x.2.1.1, x.2.1.2.1, x.2.1.2.2) row := by
        cases x.2.1.2.2 <;> exact prs_sw rfl u row
      exact e
    · rename_i h
      have h : x.2.1.2.2 = now.2.2 := by simpa using h
      rw [← h]; rfl
  rw [a1, a2, a3]
  exact prs_lats _ _ _ _ (rns_ok h1)
noncomputable def chsR (l : Row) : Row := l.flatMap fun x => chs1 x.2.1 (rns x.1)
theorem prs_row : ∀ (l : Row) (now : Sty) (row : Row), fits l → prs (rowB now l) now row = some (row ++ chsR l)
  | [], now, row, _ => by simp [rowB, prs, chsR]
  | x :: l, now, row, h => by
    have hx := h x List.mem_cons_self
    simp only [rowB]
    rw [prs_run hx.1 hx.2.1, prs_row l _ _ fun y hy => h y (List.mem_cons_of_mem _ hy)]
    simp [chsR]

/-! ### the normal form of characters -/
noncomputable def bare (x : Run) : Run := (x.1, x.2.1, [])
theorem snoc_ne {out : Row} {x : Run} (h : x.1 ≠ []) : snoc out x = match out.getLast? with
    | some p => if alikeP p x then out.dropLast ++ [(p.1 ++ x.1, p.2)] else out ++ [x]
    | none => out ++ [x] := by unfold snoc; rw [if_neg h]; all_goals (cases out.getLast? <;> rfl)
theorem snoc_last (m : Row) (a b : List UInt8) (s : Sty) (hb : b ≠ []) : snoc (m ++ [(a, s, [])]) (b, s, []) = m ++ [(a ++ b, s, [])] := by
  rw [snoc_ne hb]
  simp only [List.getLast?_append, List.getLast?_singleton, Option.some_or]
  rw [if_pos ⟨rfl, rfl, rfl⟩, List.dropLast_concat]
theorem snoc_snoc (out : Row) {a : List UInt8} (ha : a ≠ []) (b : List UInt8) (s : Sty) : snoc (snoc out (a, s, [])) (b, s, []) = snoc out (a ++ b, s, []) := by
  by_cases hb : b = []
  · subst hb
    rw [List.append_nil]
    exact (if_pos rfl : (if ([] : List UInt8) = [] then snoc out (a, s, []) else _) = _)
  · have hab : (a ++ b : List UInt8) ≠ [] := by simp [ha]
    rw [snoc_ne (x := (a, s, [])) ha, snoc_ne (x := (a ++ b, s, [])) hab]
    cases out.getLast? with
    | none => exact snoc_last _ _ _ _ hb
    | some p =>
      simp only
      by_cases hp : p.2.1 = s ∧ p.2.2 = []
      · have h1 : alikeP p (a, s, []) := ⟨hp.1, hp.2, rfl⟩
        have h2 : alikeP p (a ++ b, s, []) := ⟨hp.1, hp.2, rfl⟩
        rw [if_pos h1, if_pos h2]
        have e : p.2 = (s, []) := by rw [← hp.1, ← hp.2]
        rw [e, snoc_last _ _ _ _ hb, List.append_assoc]
      · have h1 : ¬ alikeP p (a, s, []) := fun h => hp ⟨h.1, h.2.1⟩
        have h2 : ¬ alikeP p (a ++ b, s, []) := fun h => hp ⟨h.1, h.2.1⟩
        rw [if_neg h1, if_neg h2, snoc_last _ _ _ _ hb]
theorem enc_ne {r : Int} (hr : inRep r = true) : enc r ≠ [] := by
  have h := lat_ok hr
  intro e
  rw [e] at h
  have h1 := h.2.1; have h2 := h.2.2.1
  simp only [List.length_nil] at h1
  omega
theorem fold_chs : ∀ (l : List Int) (s : Sty) (out : Row), l.all inRep = true → (chs1 s l).foldl snoc out = snoc out (ofR l, s, [])
  | [], s, out, _ => by simp [chs1, ofR, snoc]
  | r :: l, s, out, h => by
    rw [List.all_cons, Bool.and_eq_true] at h
    have ih := fold_chs l s (snoc out (enc r, s, [])) h.2
    unfold chs1 at ih ⊢
    rw [List.map_cons, List.foldl_cons, ih, snoc_snoc _ (enc_ne h.1)]
    simp [ofR]
theorem fold_chsR : ∀ (l : Row) (out : Row), (∀ x ∈ l, vld x.1 = true) → (chsR l).foldl snoc out = (l.map bare).foldl snoc out
  | [], out, _ => rfl
  | x :: l, out, h => by
    have hx := h x List.mem_cons_self
    have ih := fun o => fold_chsR l o fun y hy => h y (List.mem_cons_of_mem _ hy)
    unfold chsR at ih ⊢
    rw [List.flatMap_cons, List.foldl_append, fold_chs _ _ _ (rns_ok hx), ofR_rns hx, ih]
    rfl
theorem norm_chsR {l : Row} (h : ∀ x ∈ l, vld x.1 = true) : normR (chsR l) = normR (l.map bare) := fold_chsR l [] h

/-! ### the text, parted -/
noncomputable def tailB : Bool → List Row → List UInt8
  | _, [] => []
  | b, r :: l => (if b then [] else [138]) ++ (rowB plainS r ++ tailB false l)
theorem textL_cases : ∀ (l : List Row) (b : Bool) (out : List UInt8), ((∀ r ∈ l, rowChk r = 0) ∧ textL b l out = (out ++ tailB b l, 0)) ∨ ∃ e, e ≠ 0 ∧ textL b l out = ([], e)
  | [], b, out => .inl ⟨fun r h => (by cases h), (by simp [textL, tailB])⟩
  | r :: l, b, out => by
    simp only [textL]
    by_cases h : rowChk r ≠ 0
    · rw [if_pos h]; exact .inr ⟨_, h, rfl⟩
    · rw [if_neg h]
      rcases textL_cases l false (out ++ (if b then [] else [138]) ++ rowB plainS r) with ⟨h1, h2⟩ | h1
      · refine .inl ⟨fun q hq => ?_, ?_⟩
        · rcases List.mem_cons.1 hq with rfl | hq
          · simpa using h
          · exact h1 q hq
        · rw [h2]; simp [tailB]
      · exact .inr h1
theorem spl_app : ∀ (p t : List UInt8), (∀ a ∈ p, a ≠ 138) → spl (p ++ t) = (p ++ (spl t).1, (spl t).2)
  | [], t, _ => rfl
  | a :: p, t, h => by
    simp only [List.cons_append, spl]
    rw [if_neg (h a List.mem_cons_self), spl_app p t fun b hb => h b (List.mem_cons_of_mem _ hb)]
theorem colB_no {c : UInt8} (hc : n8 c ≤ 6) : colB c ≠ 138 := by
  intro e
  have := swB_col hc plainS
  rw [e, swB_138] at this
  cases this
theorem runB_no {x : Run} (h1 : vld x.1 = true) (h2 : n8 x.2.1.1 ≤ 6) (now : Sty) : ∀ b ∈ runB now x, b ≠ 138 := by
  intro b hb
  unfold runB at hb
  rcases List.mem_append.1 hb with hb | hb
  · rcases List.mem_append.1 hb with hb | hb
    · rcases List.mem_append.1 hb with hb | hb
      · split at hb
        · rw [List.mem_singleton.1 hb]; exact colB_no h2
        · cases hb
      · split at hb
        · rw [List.mem_singleton.1 hb]; split <;> decide
        · cases hb
    · split at hb
      · rw [List.mem_singleton.1 hb]; split <;> decide
      · cases hb
  · unfold latE at hb
    obtain ⟨r, hr, hb⟩ := List.mem_flatMap.1 hb
    exact lat_no (List.all_eq_true.1 (rns_ok h1) r hr) b hb
theorem rowB_no : ∀ (l : Row) (now : Sty), fits l → ∀ b ∈ rowB now l, b ≠ 138
  | [], _, _, b, hb => by cases hb
  | x :: l, now, h, b, hb => by
    simp only [rowB] at hb
    have hx := h x List.mem_cons_self
    rcases List.mem_append.1 hb with hb | hb
    · exact runB_no hx.1 hx.2.1 now b hb
    · exact rowB_no l _ (fun y hy => h y (List.mem_cons_of_mem _ hy)) b hb
theorem spl_tail : ∀ (l : List Row), (∀ r ∈ l, fits r) → spl (tailB false l) = ([], l.map (rowB plainS))
  | [], _ => rfl
  | r :: l, h => by
    have hr := rowB_no r plainS (h r List.mem_cons_self)
    show spl (138 :: (rowB plainS r ++ tailB false l)) = _
    simp only [spl, if_true]
    rw [spl_app _ _ hr, spl_tail l fun q hq => h q (List.mem_cons_of_mem _ hq)]
    simp
noncomputable def back (r : Row) : Row := normR (r.map bare)
theorem runSeg_rows : ∀ (l : List Row) (out : List Row), (∀ r ∈ l, fits r) → runSeg (l.map (rowB plainS)) out = (out ++ l.map back, 0)
  | [], out, _ => by simp [runSeg]
  | r :: l, out, h => by
    have hr := h r List.mem_cons_self
    simp only [List.map_cons, runSeg]
    rw [prs_row r plainS [] hr, List.nil_append]
    simp only
    rw [norm_chsR fun x hx => (hr x hx).1, runSeg_rows l _ fun q hq => h q (List.mem_cons_of_mem _ hq)]
    simp [back]
theorem rows_text {r : Row} {l : List Row} (h : ∀ q ∈ r :: l, fits q) : thenS (prs (spl (tailB true (r :: l))).1 plainS []) (spl (tailB true (r :: l))).2 [] = ((r :: l).map back, 0) := by
  have hr := rowB_no r plainS (h r List.mem_cons_self)
  have e : spl (tailB true (r :: l)) = (rowB plainS r, l.map (rowB plainS)) := by
    show spl ([] ++ (rowB plainS r ++ tailB false l)) = _
    rw [List.nil_append, spl_app _ _ hr, spl_tail l fun q hq => h q (List.mem_cons_of_mem _ hq)]
    simp
  rw [e, thenS_eq]
  exact runSeg_rows (r :: l) [] h

/-! ### the law -/
theorem bare_tot (l : Row) : tot (l.map bare) = tot l := by
  induction l with
  | nil => rfl
  | cons x l ih => simp only [List.map_cons, tot, ih]; rfl
theorem tot_cost (l : Row) : tot l ≤ cost l := by rw [cost_eq]; omega
theorem returns_true {x : List Row} (hb : wtL x ≤ 1048576) : l24_StlReturns fuelH x = some true := by
  unfold l24_StlReturns
  rw [awake24, bnd_some', cnd_f (by rfl), short_eq, bnd_some']
  have hw := cut_wt x
  unfold wtL at hb
  have hs : shortL (cutR x) := short_wt (B := 1048576) (by omega) (by omega)
  have hc := costL_wt (cutR x)
  have hl : (cutR x).length ≤ 5 := by unfold cutR; rw [List.length_map, List.length_take]; omega
  have ht := textL_len (cutR x) true []
  simp only [List.length_nil, Nat.zero_add] at ht
  have hrow : ∀ r ∈ cutR x, r.length ≤ 20 ∧ tot r ≤ 1048576 := fun r hr => by
    have h1 : bkL wtU r + 1 ≤ bkL wtR (cutR x) := bk_mem (f := wtR) hr
    have h2 := cost_wt r
    have h3 := tot_cost r
    refine ⟨?_, by omega⟩
    unfold cutR at hr
    obtain ⟨q, _, rfl⟩ := List.mem_map.1 hr
    rw [List.length_take]; omega
  generalize cutR x = l at *
  rw [stl_text hs (by omega) (by omega), bnd_some']
  rcases textL_cases l true [] with ⟨h1, h2⟩ | ⟨e, h1, h2⟩
  · rw [h2]
    rw [h2] at ht
    simp only [List.nil_append] at ht ⊢
    rw [cnd_f (ine_f rfl)]
    cases l with
    | nil => rfl
    | cons r l' =>
      have hf : ∀ q ∈ r :: l', fits q := fun q hq y hy => by
        obtain ⟨_, k⟩ := rowChk_ok (h1 q hq)
        exact ⟨(k y hy).1, (k y hy).2.2.1, (hs q hq y hy).1⟩
      have hst := stl_rows (p := tailB true (r :: l')) (by omega)
      rw [rows_text hf] at hst
      rw [cnd_f (ieq_f (by simp only [len, List.length_cons]; omega)), jn_e]
      generalize r :: l' = l at *
      refine loop_inv (n := l.length) (fun (a : List Row) (i : Nat) => (a, (i : Int))) (fun i a => a = (l.take i).map back) _ (fun self a i hi hI => ?_) (fun self a hI => ?_) fuelH 0 [] (Nat.zero_le _) (by have := fuelH_eq; omega) rfl
      · refine ⟨a ++ [back l[i]], ?_, ?_⟩
        · have hli := hrow l[i] (List.getElem_mem hi)
          have ha : a.length ≤ 5 := by rw [hI, List.length_map, List.length_take]; omega
          simp only
          rw [cnd_t (ilt_t (by simp only [len]; omega)), jn_e, grd_t (inb_t (by simp only [len]; omega)), lget_i hi, jn_e]
          generalize l[i] = q at hli ⊢
          refine loop_inv (n := q.length) (fun (b : Row) (j : Nat) => ((j : Int), b)) (fun j b => b = (q.take j).map bare) _ (fun self' b j hj hJ => ?_) (fun self' b hJ => ?_) fuelH 0 [] (Nat.zero_le _) (by have := fuelH_eq; omega) rfl
          · refine ⟨b ++ [bare q[j]], ?_, ?_⟩
            · have hbl : b.length ≤ 20 := by rw [hJ, List.length_map, List.length_take]; omega
              simp only
              rw [cnd_t (ilt_t (by simp only [len]; omega)), grd_t (inb_t (by simp only [len]; omega)), lget_i hj, grd_t (room_t (by simp only [iadd, len, List.length_singleton]; omega)), w64_succ hj (by omega)]
              rfl
            · rw [hJ, List.take_succ_eq_append_getElem hj, List.map_append]; rfl
          · simp only
            rw [cnd_f (ilt_f (by simp only [len]; omega))]
            rw [hJ, List.take_length]
            have hn : style_Norm fuelH (q.map bare) = some (back q) := style_Norm_eq (by rw [List.length_map]; omega) (by rw [bare_tot]; omega)
            rw [hn, bnd_some', grd_t (room_t (by simp only [iadd, len, List.length_singleton]; omega)), w64_succ hi (by omega)]
            rfl
        · rw [hI, List.take_succ_eq_append_getElem hi, List.map_append]; rfl
      · simp only
        rw [cnd_f (ilt_f (by simp only [len]; omega)), hst, bnd_some', cnd_t (ieq_t rfl), hI, List.take_length, same_rows _ _ (by rw [List.length_map]; omega) (fun q hq => by
          obtain ⟨y, hy, rfl⟩ := List.mem_map.1 hq
          have h1 := normR_len (y.map bare)
          have h2 := (hrow y hy).1
          rw [List.length_map] at h1
          show (normR (y.map bare)).length ≤ _
          omega), bnd_some']
        simp
  · rw [h2, cnd_t (ine_t h1)]
    rfl
end
end Go.Mo
end
