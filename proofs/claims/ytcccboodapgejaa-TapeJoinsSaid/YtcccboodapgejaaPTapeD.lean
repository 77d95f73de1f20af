/-
  The laws TapeSplits and TapeJoins in plain Lean. No program in it.
-/
import Derived.Test.YtcccboodapgejaaPTapeC
namespace Go.Cap
open Go Go.Sym

theorem chk_part {b : TBlock} {e : UInt8} {t : List UInt8} (h : chk { b with Extension := 0, Text := [] } = 0) (he : e.toNat < 240 ∨ e.toNat = 255) (ht : t.length ≤ 112) (hc : t.contains 143 = false) : chk { b with Extension := e, Text := t } = 0 := by
  obtain ⟨h1, h2, h3, h4, h5, h6, h7, h8, h9, _, _⟩ := chk_ok h
  simp only at h1 h2 h3 h4 h5 h6 h7 h8 h9
  unfold chk
  rw [if_neg (by simp only; omega), if_neg (by simp only; omega), if_neg (by simp only; rw [h4, h5]; simp), if_neg (by simp only; rw [h6, h7]; simp), if_neg (by simp only; omega), if_neg (by simp only; omega), if_neg (by simp only; omega), if_neg (by simp only; rw [hc]; simp)]
theorem chk_head {b : TBlock} (h : chk b = 0) : chk { b with Extension := 0, Text := [] } = 0 := by
  obtain ⟨h1, h2, h3, h4, h5, h6, h7, h8, h9, _, _⟩ := chk_ok h
  unfold chk
  rw [if_neg (by simp only; omega), if_neg (by simp only; simp; omega), if_neg (by simp only; rw [h4, h5]; simp), if_neg (by simp only; rw [h6, h7]; simp), if_neg (by simp only; omega), if_neg (by simp only; omega), if_neg (by simp), if_neg (by simp)]
theorem b8_small {k : Nat} (h : k < 256) : (b8 (k : Int)).toNat = k := by
  have := b8_val (k : Int)
  omega
theorem contains_take {t : List UInt8} (n : Nat) (h : t.contains 143 = false) : (t.take n).contains 143 = false := by
  rw [Bool.eq_false_iff] at h ⊢
  intro e
  rw [List.contains_iff_mem] at e
  exact h (List.contains_iff_mem.2 (List.mem_of_mem_take e))
theorem contains_drop {t : List UInt8} (n : Nat) (h : t.contains 143 = false) : (t.drop n).contains 143 = false := by
  rw [Bool.eq_false_iff] at h ⊢
  intro e
  rw [List.contains_iff_mem] at e
  exact h (List.contains_iff_mem.2 (List.mem_of_mem_drop e))
theorem chunks_ok (b l0 : TBlock) (hl0 : l0 = { b with Extension := l0.Extension, Text := l0.Text }) (hb : chk { b with Extension := 0, Text := [] } = 0) : ∀ (n k : Nat) (t : List UInt8), t.length < 112 * n → t.contains 143 = false → k + n ≤ 240 → (k = 0 ∨ t ≠ []) →
    badOf (chunks b n k t) = 0 ∧ 1 ≤ (chunks b n k t).length ∧ (chunks b n k t).length ≤ n ∧ texts (chunks b n k t) = t ∧ (∀ x ∈ chunks b n k t, x.Text.length ≤ 112) ∧ ∀ last, last + 1 = k + (chunks b n k t).length → ordB l0 last k (chunks b n k t) = true ∧ sizB last k (chunks b n k t) = true
  | 0, k, t, h, _, _, _ => by omega
  | n + 1, k, t, h, hc, hk, hne => by
    have alkb : ∀ (e : UInt8) (s : List UInt8), alk { b with Extension := e, Text := s } l0 := fun e s => by
      unfold alk
      rw [hl0]
    rw [chunks]
    by_cases hs : t.length ≤ 112
    · rw [if_pos hs]
      have hck := chk_part hb (e := 255) (.inr rfl) hs hc
      refine ⟨?_, Nat.le_refl _, by simp, by simp [texts], fun x hx => ?_, fun last hlast => ?_⟩
      · rw [badOf, hck]; rfl
      · simp only [List.mem_singleton] at hx; subst hx; exact hs
      · simp only [List.length_cons, List.length_nil] at hlast
        have : k = last := by omega
        subst this
        refine ⟨?_, ?_⟩
        · rw [ordB, if_pos rfl, decide_eq_true (alkb 255 t)]
          rfl
        · rw [sizB, decide_eq_false (by omega), decide_eq_false (by
            rintro ⟨_, h2, h3⟩
            rcases hne with hk0 | hne
            · omega
            · exact hne (List.eq_nil_of_length_eq_zero h3))]
          rfl
    · rw [if_neg hs]
      have hck := chk_part hb (e := b8 (k : Int)) (.inl (by rw [b8_small (by omega)]; omega)) (show (t.take 112).length ≤ 112 by rw [List.length_take]; omega) (contains_take 112 hc)
      have hd : (t.drop 112).length = t.length - 112 := List.length_drop
      obtain ⟨i1, i2, i3, i4, i5, i6⟩ := chunks_ok b l0 hl0 hb n (k + 1) (t.drop 112) (by omega) (contains_drop 112 hc) (by omega) (.inr (fun e => by rw [e] at hd; simp at hd; omega))
      refine ⟨?_, by simp, by simp; omega, ?_, fun x hx => ?_, fun last hlast => ?_⟩
      · rw [badOf, hck, if_neg (by simp)]; exact i1
      · rw [texts_cons, i4]; exact List.take_append_drop 112 t
      · rcases List.mem_cons.1 hx with rfl | hx
        · rw [List.length_take]; omega
        · exact i5 x hx
      · simp only [List.length_cons] at hlast
        obtain ⟨j1, j2⟩ := i6 last (by omega)
        refine ⟨?_, ?_⟩
        · rw [ordB, if_neg (by omega), decide_eq_true (alkb _ _), j1]
          simp only [b8_small (show k < 256 by omega), beq_self_eq_true, Bool.and_self]
        · rw [sizB, j2, decide_eq_false (by rw [List.length_take]; omega), decide_eq_false (by omega)]
          rfl
theorem mem_getD {l : List TBlock} {i : Nat} (h : i < l.length) : l.getD i TBlock.z ∈ l := by
  have : l.getD i TBlock.z = l[i] := by simp [h]
  rw [this]
  exact List.getElem_mem h
theorem splits_true (x0 : TBlock) (x1 : List UInt8) : l23_TapeSplits 1000 x0 x1 = some true := by
  unfold l23_TapeSplits
  rw [awake_eq, Option.bind_some, show (!true) = false from rfl, cond_false]
  unfold l23_short
  rw [grd_pos (by omega), Option.bind_some, grd_pos (by omega)]
  generalize hb : ({ x0 with Text := x0.Text.take ((min (x0.Text.length : Int) 200).toNat) } : TBlock) = b
  generalize ht : x1.take ((min (x1.length : Int) 500).toNat) = t
  have htl : t.length ≤ 500 := by rw [← ht, List.length_take]; omega
  rw [split_eq 1000 b t (by decide) (by omega), Option.bind_some, rsplit_eq 1000 b t (by decide) (by omega) (by omega), Option.bind_some]
  by_cases he : (splitR b t).2 = 0
  · have hok : chk { b with Extension := 0, Text := [] } = 0 ∧ t.contains 143 = false ∧ splitR b t = (cut b t, 0) := by
      unfold splitR at he ⊢
      by_cases h1 : chk { b with Extension := 0, Text := [] } ≠ 0
      · rw [if_pos h1] at he; exact absurd he h1
      · rw [if_neg h1] at he ⊢
        rw [if_neg (show ¬ 26992 < t.length by omega)] at he ⊢
        by_cases h2 : t.contains 143 = true
        · rw [if_pos h2] at he; cases he
        · rw [if_neg h2]
          exact ⟨by simpa using h1, by simpa using h2, rfl⟩
    obtain ⟨h1, h2, h3⟩ := hok
    have hcut : cut b t = chunks b 6 0 t := chunks_fuel b _ _ 0 t (by omega) (by omega)
    have key := fun l0 hl0 => chunks_ok b l0 hl0 h1 6 0 t (by omega) h2 (by omega) (.inl rfl)
    rw [← hcut] at key
    rw [h3]
    generalize hL : cut b t = L at key
    obtain ⟨k1, k2, k3, k4, k5, _⟩ := key b rfl
    have hLt : ∀ i, i < L.length → (L.getD i TBlock.z).Text.length ≤ 112 := fun i hi => k5 _ (mem_getD hi)
    rw [eqf_refl 1000 L (by omega) (by omega) (fun i hi => by have := hLt i hi; omega), Option.bind_some]
    rw [show ((!true || ((0 : Int) != 0)) = false) from rfl, cond_false, show ((0 : Int) != 0) = false from rfl, cond_false]
    rw [join_eq 1000 L (by decide) (by omega) (fun i hi => by have := hLt i hi; omega), Option.bind_some]
    -- the first block is b's
    have hfirst : L.getD 0 TBlock.z = { b with Extension := (L.getD 0 TBlock.z).Extension, Text := (L.getD 0 TBlock.z).Text } := by
      rw [← hL, hcut, chunks]
      split <;> rfl
    obtain ⟨_, _, _, _, _, k6⟩ := key (L.getD 0 TBlock.z) hfirst
    obtain ⟨o1, o2⟩ := k6 (L.length - 1) (by omega)
    have hj : joinR L = ({ b with Extension := 255, Text := [] }, t, 0) := by
      unfold joinR
      rw [if_neg (by omega), if_neg (by rw [k1]; simp), if_neg (by rw [o1]; simp), if_neg (by rw [o2]; simp), k4, hfirst]
    rw [hj]
    show cond ((0 : Int) == 0) _ _ = _
    rw [show ((0 : Int) == 0) = true from rfl, cond_true, same_refl 1000 _ (by simp) (by simp), Option.bind_some, cond_true, equal_eq 1000 t t (by omega) (by omega), decide_eq_true rfl]
    rfl
  · have hL : (splitR b t).1 = [] := by
      unfold splitR at he ⊢
      by_cases h1 : chk { b with Extension := 0, Text := [] } ≠ 0
      · rw [if_pos h1]
      · rw [if_neg h1] at he ⊢
        by_cases h2 : 26992 < t.length
        · rw [if_pos h2]
        · rw [if_neg h2] at he ⊢
          by_cases h3 : t.contains 143 = true
          · rw [if_pos h3]
          · rw [if_neg h3] at he
            exact absurd rfl he
    rw [hL, eqf_refl 1000 [] (by decide) (by decide) (fun i hi => by cases hi), Option.bind_some]
    rw [show ((!true || ((splitR b t).2 != (splitR b t).2)) = false) from by simp, cond_false, show ((splitR b t).2 != 0) = true from bne_iff_ne.2 he, cond_true]
    rfl
/-! ### TapeJoins -/
theorem bad_cons {b : TBlock} {r : List TBlock} (h : badOf (b :: r) = 0) : chk b = 0 ∧ badOf r = 0 := by
  rw [badOf] at h
  by_cases hc : chk b = 0
  · rw [hc, if_neg (by simp)] at h; exact ⟨hc, h⟩
  · rw [if_pos hc] at h; exact absurd h hc
theorem texts_pos (last : Nat) : ∀ (l : List TBlock) (k : Nat), sizB last k l = true → l ≠ [] → last + 1 = k + l.length → 0 < last → texts l ≠ []
  | [], _, _, h, _, _ => absurd rfl h
  | b :: r, k, hs, _, hl, h0 => by
    rw [sizB, Bool.and_eq_true, Bool.not_eq_true', Bool.or_eq_false_iff, decide_eq_false_iff_not, decide_eq_false_iff_not] at hs
    intro e
    rw [texts_cons, List.append_eq_nil_iff] at e
    have hz : b.Text.length = 0 := by rw [e.1]; rfl
    simp only [List.length_cons] at hl
    cases r with
    | nil => simp only [List.length_nil] at hl; exact hs.1.2 ⟨by omega, h0, hz⟩
    | cons c r => simp only [List.length_cons] at hl; exact hs.1.1 ⟨by omega, by omega⟩
theorem chunks_back (l0 : TBlock) (last : Nat) (hlast : last < 240) : ∀ (l : List TBlock) (n k : Nat), l ≠ [] → last + 1 = k + l.length → l.length ≤ n → badOf l = 0 → ordB l0 last k l = true → sizB last k l = true → chunks { l0 with Extension := 255, Text := [] } n k (texts l) = l ∧ (texts l).length ≤ 112 * l.length ∧ (texts l).contains 143 = false
  | [], _, _, h, _, _, _, _, _ => absurd rfl h
  | b :: r, 0, _, _, _, hn, _, _, _ => by simp at hn
  | b :: r, n + 1, k, _, hl, hn, hb, ho, hs => by
    obtain ⟨hc, hb'⟩ := bad_cons hb
    obtain ⟨_, _, _, _, _, _, _, _, _, hlen, h143⟩ := chk_ok hc
    rw [ordB, Bool.and_eq_true, Bool.and_eq_true, beq_iff_eq, decide_eq_true_eq] at ho
    have hs0 := hs
    rw [sizB, Bool.and_eq_true, Bool.not_eq_true', Bool.or_eq_false_iff, decide_eq_false_iff_not, decide_eq_false_iff_not] at hs
    have hbl : b = { l0 with Extension := b.Extension, Text := b.Text } := ho.1.2
    simp only [List.length_cons] at hl hn
    rw [texts_cons, chunks]
    cases r with
    | nil =>
      simp only [List.length_nil] at hl
      have hk : k = last := by omega
      rw [if_pos hk] at ho
      have he : b.Extension = 255 := UInt8.toNat_inj.1 (by have : (255 : UInt8).toNat = 255 := rfl; omega)
      simp only [texts, List.flatMap_nil, List.append_nil]
      rw [if_pos hlen]
      refine ⟨?_, by simp; omega, h143⟩
      rw [← he]
      exact congrArg (fun x => [x]) hbl.symm
    | cons c r =>
      simp only [List.length_cons] at hl hn
      have hk : k ≠ last := by omega
      rw [if_neg hk] at ho
      have h112 : b.Text.length = 112 := by have := hs.1.1; omega
      have hpos := texts_pos last (c :: r) (k + 1) hs.2 (by simp) (by simp only [List.length_cons]; omega) (by omega)
      have hpl : 0 < (texts (c :: r)).length := List.length_pos_iff.2 hpos
      obtain ⟨i1, i2, i3⟩ := chunks_back l0 last hlast (c :: r) n (k + 1) (by simp) (by simp only [List.length_cons]; omega) (by simp only [List.length_cons]; omega) hb' ho.2 hs.2
      rw [if_neg (by rw [List.length_append]; omega), List.take_left' h112, List.drop_left' h112]
      refine ⟨?_, ?_, ?_⟩
      · have he : b8 (k : Int) = b.Extension := UInt8.toNat_inj.1 (by rw [b8_small (by omega)]; have := ho.1.1; omega)
        have e2 := i1
        rw [he, e2]
        exact congrArg (fun x => x :: c :: r) hbl.symm
      · rw [List.length_append]
        simp only [List.length_cons] at i2 ⊢
        omega
      · rw [Bool.eq_false_iff]
        intro e
        rw [List.contains_iff_mem, List.mem_append] at e
        rcases e with e | e
        · rw [Bool.eq_false_iff] at h143; exact h143 (List.contains_iff_mem.2 e)
        · rw [Bool.eq_false_iff] at i3; exact i3 (List.contains_iff_mem.2 e)
theorem joins_L5 (N : Nat) (l : List TBlock) (hl : l.length ≤ 60) (jk : Option Bool) (hj : (∀ i, i < l.length → (l.getD i TBlock.z).Text.length ≤ 200) → jk = some true) : ∀ (n k : Nat), k ≤ l.length → l.length < n + k → (∀ i, i < k → (l.getD i TBlock.z).Text.length ≤ 200) → l23_TapeJoins_L5 N l jk n (k : Int) = some true
  | 0, k, _, h, _ => by omega
  | n + 1, k, hk, hn, hp => by
    rw [l23_TapeJoins_L5]
    by_cases h : k < l.length
    · rw [show decide ((k : Int) < (l.length : Int)) = true from decide_eq_true (by omega), cond_true, grd_pos (by omega), Int.toNat_natCast, w64s (by omega)]
      by_cases h2 : 200 < (l.getD k TBlock.z).Text.length
      · rw [decide_eq_true (by omega), cond_true]
      · rw [decide_eq_false (by omega), cond_false]
        refine joins_L5 N l hl jk hj n (k + 1) (by omega) (by omega) fun i hi => ?_
        rcases Nat.lt_or_ge i k with h3 | h3
        · exact hp i h3
        · have : i = k := by omega
          subst this
          omega
    · rw [show decide ((k : Int) < (l.length : Int)) = false from decide_eq_false (by omega), cond_false]
      exact hj fun i hi => hp i (by omega)
theorem joins_true (x0 : List TBlock) : l23_TapeJoins 1000 x0 = some true := by
  unfold l23_TapeJoins
  rw [awake_eq, Option.bind_some, show (!true) = false from rfl, cond_false]
  unfold l23_few
  rw [grd_pos (by omega), Option.bind_some, jn_eq]
  generalize hl : x0.take ((min (x0.length : Int) 5).toNat) = l
  have hll : l.length ≤ 5 := by rw [← hl, List.length_take]; omega
  refine joins_L5 1000 l (by omega) _ (fun ht => ?_) 1000 0 (Nat.zero_le _) (by omega) (fun i hi => by omega)
  have hT : ∀ i, i < l.length → (l.getD i TBlock.z).Text.length ≤ 1000 := fun i hi => by have := ht i hi; omega
  rw [join_eq 1000 l (by decide) (by omega) hT, Option.bind_some, rjoin_eq 1000 l (by decide) (by omega) hT, Option.bind_some]
  by_cases he : (joinR l).2.2 = 0
  · have hok : ¬ l.length = 0 ∧ badOf l = 0 ∧ ordB (l.getD 0 TBlock.z) (l.length - 1) 0 l = true ∧ sizB (l.length - 1) 0 l = true ∧ joinR l = ({ l.getD 0 TBlock.z with Extension := 255, Text := [] }, texts l, 0) := by
      unfold joinR at he ⊢
      by_cases h0 : l.length = 0
      · rw [if_pos h0] at he; cases he
      rw [if_neg h0] at he ⊢
      by_cases h1 : badOf l ≠ 0
      · rw [if_pos h1] at he; exact absurd he h1
      rw [if_neg h1] at he ⊢
      by_cases h2 : ordB (l.getD 0 TBlock.z) (l.length - 1) 0 l = false
      · rw [if_pos h2] at he; cases he
      rw [if_neg h2] at he ⊢
      by_cases h3 : sizB (l.length - 1) 0 l = false
      · rw [if_pos h3] at he; cases he
      rw [if_neg h3]
      exact ⟨h0, by simpa using h1, by simpa using h2, by simpa using h3, rfl⟩
    obtain ⟨h0, h1, h2, h3, h4⟩ := hok
    have hne : l ≠ [] := fun e => h0 (by rw [e]; rfl)
    obtain ⟨c1, c2, c3⟩ := chunks_back (l.getD 0 TBlock.z) (l.length - 1) (by omega) l ((texts l).length + 1 + 5) 0 hne (by omega) (by omega) h1 h2 h3
    have hck : chk (l.getD 0 TBlock.z) = 0 := by
      cases l with
      | nil => exact absurd rfl hne
      | cons b r => exact (bad_cons h1).1
    rw [h4]
    rw [same_refl 1000 _ (by simp) (by simp), Option.bind_some, show (!true) = false from rfl, cond_false, equal_eq 1000 _ _ (by show (texts l).length < 1000; omega) (by show (texts l).length ≤ _; omega), decide_eq_true rfl, Option.bind_some]
    rw [show ((!true || ((0 : Int) != 0)) = false) from rfl, cond_false]
    rw [split_eq 1000 _ (texts l) (by decide) (by omega), Option.bind_some]
    have hsp : splitR { l.getD 0 TBlock.z with Extension := 255, Text := [] } (texts l) = (l, 0) := by
      unfold splitR
      have := chk_head hck
      rw [if_neg (by simp only; rw [this]; simp), if_neg (by omega), if_neg (by rw [c3]; simp), cut, chunks_fuel _ _ ((texts l).length + 1 + 5) 0 (texts l) (by omega) (by omega), c1]
    rw [hsp]
    show cond ((0 : Int) != 0) _ (cond ((0 : Int) == 0) _ _) = _
    rw [show ((0 : Int) != 0) = false from rfl, cond_false, show ((0 : Int) == 0) = true from rfl, cond_true, eqf_refl 1000 l (by omega) (by omega) (fun i hi => by have := ht i hi; omega)]
    rfl
  · have hz : (joinR l).1 = TBlock.z ∧ (joinR l).2.1 = [] := by
      unfold joinR at he ⊢
      by_cases h0 : l.length = 0
      · rw [if_pos h0]; exact ⟨rfl, rfl⟩
      rw [if_neg h0] at he ⊢
      by_cases h1 : badOf l ≠ 0
      · rw [if_pos h1]; exact ⟨rfl, rfl⟩
      rw [if_neg h1] at he ⊢
      by_cases h2 : ordB (l.getD 0 TBlock.z) (l.length - 1) 0 l = false
      · rw [if_pos h2]; exact ⟨rfl, rfl⟩
      rw [if_neg h2] at he ⊢
      by_cases h3 : sizB (l.length - 1) 0 l = false
      · rw [if_pos h3]; exact ⟨rfl, rfl⟩
      rw [if_neg h3] at he
      exact absurd rfl he
    rw [hz.1, hz.2, same_refl 1000 TBlock.z (by decide) (by decide), Option.bind_some, show (!true) = false from rfl, cond_false, equal_eq 1000 [] [] (by decide) (by decide), decide_eq_true rfl, Option.bind_some]
    rw [show ((!true || ((joinR l).2.2 != (joinR l).2.2)) = false) from by simp, cond_false, split_eq 1000 _ [] (by decide) (by decide), Option.bind_some, show ((joinR l).2.2 != 0) = true from bne_iff_ne.2 he, cond_true]
end Go.Cap
