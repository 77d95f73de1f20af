/-
  Texts put together, in build order: QB QC QD QE QF QG RA RB RC RD RE RF RG RH RI RJ RK RL RM RN RO RP RQ RR RS.
-/
import Derived.Test.YtlljakdlfbgdhaaGreatDoorUbA
import Derived.Test.YtlljakdlfbgdhaaGreatDoorZC
import Derived.Lib.IndexMore
set_option linter.all false

section
/-
  Plain facts: loops with an invariant; the normal form of a row.
-/
namespace Go.Mo
open Go Go.W Go.Lib
set_option maxRecDepth 100000

noncomputable def itI {α σ R : Type} (f : Nat → α → σ → Option R ⊕ σ) (e : σ → Option R) : Nat → List α → σ → Option R
  | _, [], a => e a
  | i, x :: l, a => match f i x a with
    | .inl r => r
    | .inr a' => itI f e (i + 1) l a'
/-- one round: it ends with r, or goes on -/
noncomputable def Rnd {V R σ : Type} (X : Option R) (self : V → Option R) (next : σ → V) (I : σ → Prop) : Option R ⊕ σ → Prop
  | .inl r => X = r
  | .inr a => X = self (next a) ∧ I a
theorem lst_it {V R σ α : Type} {F : (V → Option R) → V → Option R} {l : List α} (st : σ → Nat → V) (f : Nat → α → σ → Option R ⊕ σ) (e : σ → Option R) (I : Nat → σ → Prop)
    (hstep : ∀ self a i (h : i < l.length), I i a → Rnd (F self (st a i)) self (fun a => st a (i + 1)) (I (i + 1)) (f i l[i] a))
    (hend : ∀ self a, I l.length a → F self (st a l.length) = e a) : ∀ (fuel i : Nat) (a : σ), i ≤ l.length → l.length - i < fuel → I i a → fixN F fuel (st a i) = itI f e i (l.drop i) a
  | 0, i, a, _, h, _ => by omega
  | fuel + 1, i, a, hi, h, hI => by
    rw [fixN_s]
    by_cases hl : i < l.length
    · rw [List.drop_eq_getElem_cons hl, itI]
      have hs := hstep (fixN F fuel) a i hl hI
      cases hf : f i l[i] a with
      | inl r => rw [hf] at hs; exact hs
      | inr a' =>
        rw [hf] at hs
        rw [hs.1]
        exact lst_it st f e I hstep hend fuel (i + 1) a' (by omega) (by omega) hs.2
    · obtain rfl : i = l.length := by omega
      rw [hend _ _ hI, List.drop_length]
      rfl
theorem itI_fold {α σ R : Type} (f : α → σ → σ) (e : σ → Option R) : ∀ (i : Nat) (l : List α) (a : σ), itI (fun _ x a => .inr (f x a)) e i l a = e (l.foldl (fun a x => f x a) a)
  | _, [], _ => rfl
  | i, x :: l, a => by simp only [itI, List.foldl_cons]; exact itI_fold f e (i + 1) l (f x a)

noncomputable def snoc (out : Row) (x : Run) : Row :=
  if x.1 = [] then out else match out.getLast? with
    | some p => if alikeP p x then out.dropLast ++ [(p.1 ++ x.1, p.2)] else out ++ [x]
    | none => out ++ [x]
noncomputable def normR (l : Row) : Row := l.foldl snoc []
/-- the letters of a row -/
noncomputable def tot : Row → Nat
  | [] => 0
  | x :: r => x.1.length + tot r
theorem tot_app (a b : Row) : tot (a ++ b) = tot a + tot b := by
  induction a with
  | nil => simp [tot]
  | cons x a ih => simp only [List.cons_append, tot, ih]; omega
theorem last_eq {l : Row} {p : Run} (h : l.getLast? = some p) : l = l.dropLast ++ [p] := by
  cases l with
  | nil => cases h
  | cons x l =>
    rw [List.getLast?_eq_some_getLast (List.cons_ne_nil x l)] at h
    injection h with h
    rw [← h]
    exact (List.dropLast_concat_getLast (List.cons_ne_nil x l)).symm
theorem snoc_tot (out : Row) (x : Run) : tot (snoc out x) = tot out + x.1.length := by
  unfold snoc
  split
  · rename_i h; rw [h]; rfl
  · split
    · rename_i p hp
      split
      · have := congrArg tot (last_eq hp)
        rw [tot_app] at this
        rw [tot_app]
        simp only [tot, List.length_append, Nat.add_zero] at this ⊢
        omega
      · rw [tot_app]; simp [tot]
    · rw [tot_app]; simp [tot]
theorem snoc_len (out : Row) (x : Run) : (snoc out x).length ≤ out.length + 1 := by
  unfold snoc
  split
  · omega
  · split
    · split
      · simp only [List.length_append, List.length_dropLast, List.length_singleton]; omega
      · simp
    · simp
theorem lget_last {out : Row} {p : Run} (h : out.getLast? = some p) (hb : out.length ≤ 100000000) (d : Run) : 0 < out.length ∧ w64 (isub (len out) 1) = ((out.length - 1 : Nat) : Int) ∧ lget out (toN (w64 (isub (len out) 1))) d = p := by
  have hl : 0 < out.length := by
    cases out with
    | nil => cases h
    | cons x l => simp
  have hw : w64 (isub (len out) 1) = ((out.length - 1 : Nat) : Int) := w64_pred hl (by omega)
  refine ⟨hl, hw, ?_⟩
  rw [hw, lget_i (show out.length - 1 < out.length by omega)]
  rw [List.getLast?_eq_getElem?, List.getElem?_eq_getElem (by omega)] at h
  injection h
theorem lset_last {out : Row} {p : Run} (h : out.getLast? = some p) (y : Run) : lset out (out.length - 1) y = out.dropLast ++ [y] := by
  have e := last_eq h
  have hl : out.length - 1 = out.dropLast.length := by simp
  rw [hl]
  conv => lhs; rw [e]
  unfold lset
  rw [List.set_append_right _ _ (by simp)]
  simp
theorem last_tot {out : Row} {p : Run} (h : out.getLast? = some p) : p.1.length ≤ tot out := by
  have := congrArg tot (last_eq h)
  rw [tot_app] at this
  simp only [tot, Nat.add_zero] at this
  omega
theorem tot_mem {l : Row} {x : Run} (h : x ∈ l) : x.1.length ≤ tot l := by
  induction l with
  | nil => cases h
  | cons y l ih =>
    simp only [tot]
    rcases List.mem_cons.1 h with rfl | h
    · omega
    · have := ih h; omega
noncomputable def NI (l : Row) (i : Nat) (out : Row) : Prop := out.length ≤ i ∧ tot out + tot (l.drop i) = tot l
theorem NI_step {l : Row} {i : Nat} (h : i < l.length) {out : Row} (hI : NI l i out) : NI l (i + 1) (snoc out l[i]) := by
  refine ⟨Nat.le_trans (snoc_len _ _) (Nat.succ_le_succ hI.1), ?_⟩
  have := hI.2
  rw [List.drop_eq_getElem_cons h] at this
  rw [snoc_tot]
  simp only [tot] at this
  omega
theorem style_norm_eq {l : Row} (hl : l.length ≤ 4000000) (ht : tot l ≤ 8000000) : style_norm fuelH l = some (normR l) := by
  unfold style_norm
  rw [jn_e]
  refine Eq.trans (lst_it (l := l) (fun (a : Row) (p : Nat) => ((p : Int), a)) (fun _ x a => .inr (snoc a x)) (fun a => some a) (NI l) (fun self a i hi hI => ?_) (fun self a _ => ?_) fuelH 0 [] (Nat.zero_le _) (by have := fuelH_eq; omega) ⟨Nat.le_refl _, by simp [tot]⟩) ?_
  · refine ⟨?_, NI_step hi hI⟩
    have hI1 := hI.1
    have hb : tot a ≤ 8000000 := by have := hI.2; omega
    have hx : l[i].1.length ≤ 8000000 := Nat.le_trans (tot_mem (List.getElem_mem hi)) ht
    simp only
    rw [cnd_t (ilt_t (by simp only [len]; omega)), grd_t (inb_t (by simp only [len]; omega)), lget_i hi, w64_succ hi (by omega)]
    have hroom : room (iadd (len a) (len ([l[i]] : Row))) 40 = true := room_t (by simp only [iadd, len, List.length_singleton]; omega)
    rw [grd_t hroom]
    simp only [cnd_ite, seq_t]
    by_cases he : l[i].1 = []
    · rw [if_pos he]; simp only [snoc, he, if_true]
    · rw [if_neg he]
      cases hla : a.getLast? with
      | none =>
        have ha : a = [] := List.getLast?_eq_none_iff.1 hla
        subst ha
        rw [if_neg (show ¬ ilt (0 : Int) (len ([] : Row)) = true by decide)]
        simp only [snoc, if_neg he, hla]
        rfl
      | some p =>
        obtain ⟨q1, q2, q3⟩ := lget_last hla (by omega) ([], (((0 : UInt8), (false, false)), []))
        have hin : inb (w64 (isub (len a) 1)) (len a) = true := by rw [q2]; exact inb_t (by simp only [len]; omega)
        have hp := last_tot hla
        rw [if_pos (show ilt (0 : Int) (len a) = true from ilt_t (by simp only [len]; omega)), grd_t hin, q3, bnd_s (style_alike_eq _ _ _), grd_t hin, grd_t (show catOk (iadd (len p.1) (len l[i].1)) = true from decide_eq_true (by simp only [iadd, len]; omega)), grd_t hin, q2]
        simp only [decide_eq_true_eq, snoc, if_neg he, hla]
        by_cases hk : alikeP p l[i]
        · rw [if_pos hk, if_pos hk]
          have : toN ((a.length - 1 : Nat) : Int) = a.length - 1 := by simp [toN]
          rw [this, lset_last hla]
          rfl
        · rw [if_neg hk, if_neg hk]; rfl
  · simp only
    rw [cnd_f (ilt_f (by simp only [len]; omega))]
  · rw [List.drop_zero, itI_fold]
    rfl
theorem style_Norm_eq {l : Row} (hl : l.length ≤ 4000000) (ht : tot l ≤ 8000000) : style_Norm fuelH l = some (normR l) := by
  unfold style_Norm
  rw [bnd_s (style_norm_eq hl ht)]
end Go.Mo
end

section
/-
  Plain facts: the bytes of rows.
-/
namespace Go.Mo
open Go Go.W Go.Lib
set_option maxRecDepth 100000
noncomputable section

theorem chkL_ok : ∀ (l : List Run) (p : Option Run), chkL p l = 0 → ∀ x ∈ l, vld x.1 = true ∧ x.1 ≠ [] ∧ n8 x.2.1.1 ≤ 6 ∧ vld x.2.2 = true
  | [], _, _, x, hx => by cases hx
  | y :: l, p, h, x, hx => by
    simp only [chkL] at h
    split at h
    · rename_i hc; exact absurd h hc
    · rename_i hc
      rcases List.mem_cons.1 hx with rfl | hx
      · have hc : runChk p x = 0 := by simpa using hc
        unfold runChk at hc
        split at hc
        · cases hc
        · split at hc
          · cases hc
          · split at hc
            · cases hc
            · split at hc
              · cases hc
              · rename_i h1 h2 h3 h4
                exact ⟨by simpa using h1, h2, by omega, by simpa using h4⟩
      · exact chkL_ok l _ h x hx
theorem rowChk_ok {l : Row} (h : rowChk l = 0) : l.length ≤ 16 ∧ ∀ x ∈ l, vld x.1 = true ∧ x.1 ≠ [] ∧ n8 x.2.1.1 ≤ 6 ∧ vld x.2.2 = true := by
  unfold rowChk at h
  split at h
  · cases h
  · exact ⟨by omega, chkL_ok l _ h⟩

noncomputable def cost : Row → Nat
  | [] => 0
  | x :: r => 3 + x.1.length + cost r
theorem cost_eq (l : Row) : cost l = 3 * l.length + tot l := by
  induction l with
  | nil => rfl
  | cons x l ih => simp only [cost, tot, List.length_cons, ih]; omega
noncomputable def shortL (l : List Row) : Prop := ∀ r ∈ l, shortR r
end
end Go.Mo
end

section
/-
  Plain facts: rows that are read from bytes, on both sides.
-/
namespace Go.Mo
open Go Go.W Go.Lib
set_option maxRecDepth 100000
noncomputable section

noncomputable def g1 (a : UInt8) : Option Int := if 32 ≤ n8 a ∧ n8 a < 127 then some (n8 a) else (sgF a).map (·.1)
noncomputable def g2 (a b : UInt8) : Int × Int := (acG (accR a) b).getD (0, 0)
end
end Go.Mo
end

section
/-
  Plain facts: rows that are read by the reference; equality of rows; StlTexts returns true.
-/
namespace Go.Mo
open Go Go.W Go.Lib
set_option maxRecDepth 100000
noncomputable section

theorem run_eq {a b : Run} : (a = b) = (a.1 = b.1 ∧ a.2.1 = b.2.1 ∧ a.2.2 = b.2.2) := by
  obtain ⟨a1, a2, a3⟩ := a; obtain ⟨b1, b2, b3⟩ := b; simp
/-- a loop that compares -/
theorem same_fold {α : Type} : ∀ (l m : List α) [DecidableEq α], l.length = m.length → ∀ i, itI (fun i (x : α) (_ : Unit) => if some x = m[i]? then (.inr () : Option Bool ⊕ Unit) else .inl (some false)) (fun _ => some true) i (l.drop i) () = some (decide (l.drop i = m.drop i)) := by
  intro l m _ hl i
  generalize hr : l.drop i = r
  induction r generalizing i with
  | nil =>
    have h1 : l.length ≤ i := by have := congrArg List.length hr; simp at this; omega
    have : m.drop i = [] := by rw [List.drop_eq_nil_iff]; omega
    rw [this]; simp [itI]
  | cons x r ih =>
    have hx : l[i]? = some x := by rw [← List.head?_drop, hr]; rfl
    have hi := (List.getElem?_eq_some_iff.1 hx).1
    have hr' : l.drop (i + 1) = r := by rw [← List.drop_drop, hr]; rfl
    have hm : m.drop i = m[i] :: m.drop (i + 1) := List.drop_eq_getElem_cons (by omega)
    rw [hm]
    simp only [itI]
    by_cases h : some x = m[i]?
    · rw [if_pos h]
      simp only
      rw [ih (i + 1) hr']
      rw [List.getElem?_eq_getElem (by omega)] at h
      injection h with h
      exact congrArg some (decide_eq_decide.2 ⟨fun e => by rw [h, e], fun e => by injection e⟩)
    · rw [if_neg h]
      rw [List.getElem?_eq_getElem (by omega)] at h
      have : x ≠ m[i] := fun e => h (by rw [e])
      exact congrArg some (decide_eq_false fun e => this (by injection e)).symm
theorem eqRuns (a b : Row) (hl : a.length ≤ 4000000) : slices_Equal_Lapi_Run_api_Run fuelH (a, b) = some (decide (a = b)) := by
  unfold slices_Equal_Lapi_Run_api_Run
  by_cases h : a.length = b.length
  · rw [cnd_f (ine_f (by simp only [len]; omega)), jn_e]
    refine Eq.trans (lst_it (l := a) (fun (_ : Unit) (p : Nat) => (p : Int)) (fun i (x : Run) (_ : Unit) => if some x = b[i]? then .inr () else .inl (some false)) (fun _ => some true) (fun _ _ => True) (fun self _ i hi _ => ?_) (fun self _ _ => ?_) fuelH 0 () (Nat.zero_le _) (by have := fuelH_eq; omega) trivial) ?_
    · have hb : i < b.length := by omega
      have e : cnd (ilt (i : Int) (len a)) (grd (inb (i : Int) (len a)) (grd (inb (i : Int) (len b)) (cnd (bnot (band (seq (lget a (toN (i : Int)) ([], (((0 : UInt8), (false, false)), []))).1 (lget b (toN (i : Int)) ([], (((0 : UInt8), (false, false)), []))).1) (band (band (ieq (n8 (lget a (toN (i : Int)) ([], (((0 : UInt8), (false, false)), []))).2.1.1) (n8 (lget b (toN (i : Int)) ([], (((0 : UInt8), (false, false)), []))).2.1.1)) (band (beqb (lget a (toN (i : Int)) ([], (((0 : UInt8), (false, false)), []))).2.1.2.1 (lget b (toN (i : Int)) ([], (((0 : UInt8), (false, false)), []))).2.1.2.1) (beqb (lget a (toN (i : Int)) ([], (((0 : UInt8), (false, false)), []))).2.1.2.2 (lget b (toN (i : Int)) ([], (((0 : UInt8), (false, false)), []))).2.1.2.2))) (seq (lget a (toN (i : Int)) ([], (((0 : UInt8), (false, false)), []))).2.2 (lget b (toN (i : Int)) ([], (((0 : UInt8), (false, false)), []))).2.2)))) (some false) (self (w64 (iadd (i : Int) 1)))))) (some true) = if a[i] = b[i] then self ((i + 1 : Nat) : Int) else some false := by
        rw [cnd_t (ilt_t (by simp only [len]; omega)), grd_t (inb_t (by simp only [len]; omega)), grd_t (inb_t (by simp only [len]; omega)), lget_i hi, lget_i hb, w64_succ hi (by omega), cnd_ite]
        simp only [bnot_t, Bool.eq_false_iff, ne_eq, band_tt, seq_t, ieq_tt, beqb_t, n8_eq, ← sty_eq, ← run_eq]
        by_cases hc : a[i] = b[i]
        · rw [if_neg (by simpa using hc), if_pos hc]
        · rw [if_pos hc, if_neg hc]
      rw [List.getElem?_eq_getElem hb]
      by_cases hc : a[i] = b[i]
      · rw [if_pos (by rw [hc])]
        exact ⟨e.trans (if_pos hc), trivial⟩
      · rw [if_neg (fun h => hc (by injection h))]
        exact e.trans (if_neg hc)
    · simp only
      rw [cnd_f (ilt_f (by simp only [len]; omega))]
    · exact same_fold a b h 0
  · rw [cnd_t (ine_t (by simp only [len]; omega))]
    have : a ≠ b := fun e => h (by rw [e])
    simp [this]
theorem same_row (a b : Row) (hl : a.length ≤ 4000000) : style_Same fuelH (a, b) = some (decide (a = b)) := by
  unfold style_Same
  rw [eqRuns a b hl, bnd_some']
theorem same_rows (a b : List Row) (hl : a.length ≤ 4000000) (h : ∀ r ∈ a, r.length ≤ 4000000) : style_SameRows fuelH (a, b) = some (decide (a = b)) := by
  unfold style_SameRows slices_EqualFunc_Lapi_Row_Lapi_Row_api_Row_api_Row
  by_cases hab : a.length = b.length
  · rw [cnd_f (ine_f (by simp only [len]; omega)), jn_e]
    have : ∀ X : Option Bool, (bnd X fun v0 => some v0) = X := fun X => by cases X <;> rfl
    rw [this]
    refine Eq.trans (lst_it (l := a) (fun (_ : Unit) (p : Nat) => (p : Int)) (fun i (x : Row) (_ : Unit) => if some x = b[i]? then .inr () else .inl (some false)) (fun _ => some true) (fun _ _ => True) (fun self _ i hi _ => ?_) (fun self _ _ => ?_) fuelH 0 () (Nat.zero_le _) (by have := fuelH_eq; omega) trivial) ?_
    · have hb : i < b.length := by omega
      have e : cnd (ilt (i : Int) (len a)) (grd (inb (i : Int) (len a)) (grd (inb (i : Int) (len b)) (bnd (style_Same fuelH (lget a (toN (i : Int)) [], lget b (toN (i : Int)) [])) fun v4 => cnd (bnot v4) (some false) (self (w64 (iadd (i : Int) 1)))))) (some true) = if a[i] = b[i] then self ((i + 1 : Nat) : Int) else some false := by
        rw [cnd_t (ilt_t (by simp only [len]; omega)), grd_t (inb_t (by simp only [len]; omega)), grd_t (inb_t (by simp only [len]; omega)), lget_i hi, lget_i hb, w64_succ hi (by omega), same_row _ _ (h _ (List.getElem_mem hi)), bnd_some', cnd_bnot]
      rw [List.getElem?_eq_getElem hb]
      by_cases hc : a[i] = b[i]
      · rw [if_pos (by rw [hc])]
        exact ⟨e.trans (if_pos hc), trivial⟩
      · rw [if_neg (fun h => hc (by injection h))]
        exact e.trans (if_neg hc)
    · simp only
      rw [cnd_f (ilt_f (by simp only [len]; omega))]
    · exact same_fold a b hab 0
  · rw [cnd_t (ine_t (by simp only [len]; omega))]
    have : a ≠ b := fun e => hab (by rw [e])
    simp [this, bnd_some']
end
end Go.Mo
end

section
/-
  Plain facts: StlTexts returns true.
-/
namespace Go.Mo
open Go Go.W Go.Lib
set_option maxRecDepth 100000
noncomputable section
theorem awake24 : l24_awake fuelH () = some true := by kernel_rfl

theorem loop_inv {V R σ : Type} {F : (V → Option R) → V → Option R} {n : Nat} (st : σ → Nat → V) (I : Nat → σ → Prop) (r : Option R)
    (hstep : ∀ self a i, i < n → I i a → ∃ a', F self (st a i) = self (st a' (i + 1)) ∧ I (i + 1) a') (hend : ∀ self a, I n a → F self (st a n) = r) : ∀ (fuel i : Nat) (a : σ), i ≤ n → n - i < fuel → I i a → fixN F fuel (st a i) = r
  | 0, i, a, _, h, _ => by omega
  | fuel + 1, i, a, hi, h, hI => by
    rw [fixN_s]
    by_cases hl : i < n
    · obtain ⟨a', h1, h2⟩ := hstep (fixN F fuel) a i hl hI
      rw [h1]
      exact loop_inv st I r hstep hend fuel (i + 1) a' (by omega) (by omega) h2
    · obtain rfl : i = n := by omega
      exact hend _ _ hI

theorem bk_mem {α : Type} {f : α → Nat} {l : List α} {x : α} (h : x ∈ l) : f x ≤ bkL f l := by
  induction l with
  | nil => cases h
  | cons y l ih =>
    simp only [bkL]
    rcases List.mem_cons.1 h with rfl | h
    · omega
    · have := ih h; omega
noncomputable def wtU (x : Run) : Nat := x.1.length + 1 + (1 + (1 + 1) + (x.2.2.length + 1))
noncomputable def wtR (r : Row) : Nat := bkL wtU r + 1
theorem cost_wt (r : Row) : cost r ≤ bkL wtU r := by
  induction r with
  | nil => exact Nat.le_refl _
  | cons x r ih => simp only [cost, bkL, wtU]; omega
theorem short_wt {l : List Row} {B : Nat} (h : bkL wtR l ≤ B) (hB : B ≤ 4000000) : shortL l := fun r hr x hx => by
  have h1 : bkL wtU r + 1 ≤ bkL wtR l := bk_mem (f := wtR) hr
  have h2 : x.1.length + 1 + (1 + (1 + 1) + (x.2.2.length + 1)) ≤ bkL wtU r := bk_mem (f := wtU) hx
  omega

theorem min_take {α : Type} (l : List α) (n : Nat) : ltake (toN (imin (len l) (n : Int))) l = l.take n ∧ in2 (imin (len l) (n : Int)) (len l) = true := by
  have e : toN (imin (len l) (n : Int)) = min l.length n := by simp only [toN, imin, len]; omega
  refine ⟨?_, in2_t (by simp only [imin, len]; omega)⟩
  rw [e]
  unfold ltake
  by_cases h : l.length ≤ n
  · rw [Nat.min_eq_left h, List.take_length, List.take_of_length_le h]
  · rw [Nat.min_eq_right (by omega)]
theorem fold_len : ∀ (l out : Row), (l.foldl snoc out).length ≤ out.length + l.length
  | [], out => Nat.le_refl _
  | x :: l, out => by
    have h1 := snoc_len out x
    have h2 := fold_len l (snoc out x)
    simp only [List.foldl_cons, List.length_cons]
    omega
theorem normR_len (l : Row) : (normR l).length ≤ l.length := by
  have := fold_len l []
  simpa [normR] using this
end
end Go.Mo
end

section
/-
  Plain facts: StlReturns returns true.
-/
namespace Go.Mo
open Go Go.W Go.Lib
set_option maxRecDepth 100000
noncomputable section

noncomputable def bare (x : Run) : Run := (x.1, x.2.1, [])
theorem snoc_ne {out : Row} {x : Run} (h : x.1 ≠ []) : snoc out x = match out.getLast? with
    | some p => if alikeP p x then out.dropLast ++ [(p.1 ++ x.1, p.2)] else out ++ [x]
    | none => out ++ [x] := by unfold snoc; rw [if_neg h]; all_goals (cases out.getLast? <;> rfl)
noncomputable def back (r : Row) : Row := normR (r.map bare)
theorem bare_tot (l : Row) : tot (l.map bare) = tot l := by
  induction l with
  | nil => rfl
  | cons x l ih => simp only [List.map_cons, tot, ih]; rfl
theorem tot_cost (l : Row) : tot l ≤ cost l := by rw [cost_eq]; omega
end
end Go.Mo
end

section
/-
  Plain facts: regions, their check, a region by its name, the places of rows.
-/
namespace Go.Mo
open Go Go.W Go.Lib
set_option maxRecDepth 100000
noncomputable section
abbrev Reg := List UInt8 × Int × Int × Int × Int × UInt8 × Bool
abbrev Spot := Int × Int × Int

theorem from_eq (N : Nat) (a b c : Int) : region_from N (a, b, c) = some (decide (b ≤ a ∧ a ≤ c)) := by
  unfold region_from
  rw [cnd_ile]
  by_cases h : b ≤ a
  · simp [h, ile]
  · simp [h]
def regChk (r : Reg) : Int :=
  if nm r.1 = false then 5 else
  if ¬ (0 ≤ r.2.1 ∧ r.2.1 ≤ 14) then 2 else
  if ¬ (1 ≤ r.2.2.1 ∧ r.2.2.1 ≤ 15 - r.2.1) then 2 else
  if ¬ (0 ≤ r.2.2.2.1 ∧ r.2.2.2.1 ≤ 31) then 2 else
  if ¬ (1 ≤ r.2.2.2.2.1 ∧ r.2.2.2.2.1 ≤ 32 - r.2.2.2.1) then 2 else
  if ¬ (1 ≤ n8 r.2.2.2.2.2.1 ∧ n8 r.2.2.2.2.2.1 ≤ 3) then 3 else 0
theorem dec_f {p : Prop} [Decidable p] : (decide p = false) = ¬ p := by by_cases h : p <;> simp [h]
theorem region_check (r : Reg) : region_Check fuelH r = some (regChk r) := by
  unfold region_Check regChk
  rw [lines_name, bnd_some']
  simp only [from_eq, bnd_some', cnd_ite, bnot_t, dec_f, ilt_tt]
  have e1 : n8 (1 : UInt8) = 1 := rfl
  have e3 : n8 (3 : UInt8) = 3 := rfl
  rw [e1, e3]
  by_cases h0 : nm r.1 = false
  · rw [if_pos h0, if_pos h0]
  rw [if_neg h0, if_neg h0]
  by_cases h1 : 0 ≤ r.2.1 ∧ r.2.1 ≤ 14
  · rw [if_neg (not_not_intro h1), if_neg (not_not_intro h1)]
    have w1 : w64 (isub 15 r.2.1) = 15 - r.2.1 := by unfold isub; rw [w64_id (by omega)]
    rw [w1]
    by_cases h2 : 1 ≤ r.2.2.1 ∧ r.2.2.1 ≤ 15 - r.2.1
    · rw [if_neg (not_not_intro h2), if_neg (not_not_intro h2)]
      by_cases h3 : 0 ≤ r.2.2.2.1 ∧ r.2.2.2.1 ≤ 31
      · rw [if_neg (not_not_intro h3), if_neg (not_not_intro h3)]
        have w2 : w64 (isub 32 r.2.2.2.1) = 32 - r.2.2.2.1 := by unfold isub; rw [w64_id (by omega)]
        rw [w2]
        by_cases h4 : 1 ≤ r.2.2.2.2.1 ∧ r.2.2.2.2.1 ≤ 32 - r.2.2.2.1
        · rw [if_neg (not_not_intro h4), if_neg (not_not_intro h4)]
          by_cases h5 : n8 r.2.2.2.2.2.1 < 1
          · rw [if_pos h5, if_pos (by omega)]
          · rw [if_neg h5]
            by_cases h6 : 3 < n8 r.2.2.2.2.2.1
            · rw [if_pos h6, if_pos (by omega)]
            · rw [if_neg h6, if_neg (by omega)]
        · rw [if_pos h4, if_pos h4]
      · rw [if_pos h3, if_pos h3]
    · rw [if_pos h2, if_pos h2]
  · rw [if_pos h1, if_pos h1]
def chkRegs : Option Reg → List Reg → Int
  | _, [] => 0
  | p, r :: l => if regChk r ≠ 0 then regChk r else match p with
    | none => chkRegs (some r) l
    | some q => if r.1 = q.1 then 7 else if slt r.1 q.1 = true then 8 else chkRegs (some r) l
def regsChk (l : List Reg) : Int := if 16 < l.length then 9 else chkRegs none l
/-- one round of the check -/
def regRnd (p : Option Reg) (r : Reg) : Option Int ⊕ Unit := if regChk r ≠ 0 then .inl (some (regChk r)) else match p with
    | none => .inr ()
    | some q => if r.1 = q.1 then .inl (some 7) else if slt r.1 q.1 = true then .inl (some 8) else .inr ()
theorem itI_regs (l : List Reg) : ∀ (r : List Reg) (i : Nat), l.drop i = r → i ≤ l.length → itI (fun i x (_ : Unit) => regRnd (before l i) x) (fun _ => some (0 : Int)) i r () = some (chkRegs (before l i) r)
  | [], i, _, _ => rfl
  | x :: r, i, h, hi => by
    have hx : l[i]? = some x := by rw [← List.head?_drop, h]; rfl
    have hr : l.drop (i + 1) = r := by rw [← List.drop_drop, h]; rfl
    have hl : i < l.length := (List.getElem?_eq_some_iff.1 hx).1
    simp only [itI, chkRegs, regRnd]
    have e : before l (i + 1) = some x := hx
    have ih := itI_regs l r (i + 1) hr (by omega)
    rw [e] at ih
    by_cases hc : regChk x ≠ 0
    · rw [if_pos hc, if_pos hc]
    · rw [if_neg hc, if_neg hc]
      cases before l i with
      | none => exact ih
      | some q =>
        simp only
        by_cases h7 : x.1 = q.1
        · rw [if_pos h7, if_pos h7]
        · rw [if_neg h7, if_neg h7]
          by_cases h8 : slt x.1 q.1 = true
          · rw [if_pos h8, if_pos h8]
          · rw [if_neg h8, if_neg h8]
            exact ih
theorem region_list (l : List Reg) : region_CheckList fuelH l = some (regsChk l) := by
  unfold region_CheckList
  by_cases h : 16 < l.length
  · rw [cnd_t (ilt_t (by simp only [len]; omega))]; simp [regsChk, h]
  · rw [cnd_f (ilt_f (by simp only [len]; omega)), jn_e]
    refine Eq.trans (lst_it (l := l) (fun (_ : Unit) (p : Nat) => (p : Int)) (fun i x (_ : Unit) => regRnd (before l i) x) (fun _ => some (0 : Int)) (fun _ _ => True) (fun self a i hi _ => ?_) (fun self a _ => ?_) fuelH 0 () (Nat.zero_le _) (by have := fuelH_eq; omega) trivial) ?_
    · rw [cnd_t (ilt_t (by simp only [len]; omega)), grd_t (inb_t (by simp only [len]; omega)), lget_i hi, bnd_s (region_check _)]
      unfold regRnd
      by_cases hc : regChk l[i] ≠ 0
      · rw [if_pos hc, cnd_t (ine_t hc)]; rfl
      · rw [if_neg hc, cnd_f (ine_f (by simpa using hc)), jn_e, w64_succ hi (by omega)]
        cases i with
        | zero =>
          rw [cnd_f (by rfl), cnd_f (by rfl)]
          exact ⟨rfl, trivial⟩
        | succ i =>
          have e0 : before l (i + 1) = some l[i] := by simp only [before]; exact List.getElem?_eq_getElem (by omega)
          have hin : inb ((i : Nat) : Int) (len l) = true := inb_t (by simp only [len]; omega)
          have hp : ilt (0 : Int) ((i + 1 : Nat) : Int) = true := ilt_t (by omega)
          rw [e0, cnd_t hp, w64_back (by omega), grd_t hin, lget_i (show i < l.length by omega), cnd_t hp, grd_t hin]
          simp only
          by_cases h7 : l[i + 1].1 = l[i].1
          · rw [if_pos h7, cnd_t (by rw [seq_t]; exact h7)]; rfl
          · rw [if_neg h7, cnd_f (by rw [← Bool.not_eq_true, seq_t]; exact h7)]
            by_cases h8 : slt l[i + 1].1 l[i].1 = true
            · rw [if_pos h8, cnd_t h8]; rfl
            · rw [if_neg h8, cnd_f (by simpa using h8)]
              exact ⟨rfl, trivial⟩
    · rw [cnd_f (ilt_f (by simp only [len]; omega))]
    · rw [List.drop_zero, itI_regs l l 0 rfl (Nat.zero_le _)]
      simp [regsChk, h, before]
def defR : Reg := ([], 11, 4, 0, 32, 2, true)
def noR : Reg := ([], 0, 0, 0, 0, 0, false)
def findR (l : List Reg) (n : List UInt8) : Option Reg := if n = [] then some defR else l.find? fun r => decide (r.1 = n)
def findP (l : List Reg) (n : List UInt8) : Reg × Bool := match findR l n with
  | some r => (r, true)
  | none => (noR, false)
theorem itI_find (n : List UInt8) : ∀ (l : List Reg) (i : Nat), itI (fun _ (x : Reg) (_ : Unit) => if x.1 = n then (.inl (some (x, true)) : Option (Reg × Bool) ⊕ Unit) else .inr ()) (fun _ => some (noR, false)) i l () = some (match l.find? fun r => decide (r.1 = n) with | some r => (r, true) | none => (noR, false))
  | [], _ => rfl
  | x :: l, i => by
    simp only [itI, List.find?_cons]
    by_cases h : x.1 = n
    · rw [if_pos h, decide_eq_true h]
    · rw [if_neg h, decide_eq_false h]
      exact itI_find n l (i + 1)
theorem region_find (l : List Reg) (hl : l.length ≤ 4000000) (n : List UInt8) : region_Find fuelH (l, n) = some (findP l n) := by
  unfold region_Find findP findR
  simp only
  by_cases h : n = []
  · rw [cnd_t (by rw [seq_t]; exact h), if_pos h]; rfl
  · rw [cnd_f (by rw [← Bool.not_eq_true, seq_t]; exact h), if_neg h, jn_e]
    refine Eq.trans (lst_it (l := l) (fun (_ : Unit) (p : Nat) => (p : Int)) (fun _ (x : Reg) (_ : Unit) => if x.1 = n then .inl (some (x, true)) else .inr ()) (fun _ => some (noR, false)) (fun _ _ => True) (fun self a i hi _ => ?_) (fun self a _ => ?_) fuelH 0 () (Nat.zero_le _) (by have := fuelH_eq; omega) trivial) (itI_find n l 0)
    · have hin : inb (i : Int) (len l) = true := inb_t (by simp only [len]; omega)
      rw [cnd_t (ilt_t (by simp only [len]; omega)), grd_t hin, lget_i hi]
      by_cases hc : l[i].1 = n
      · rw [if_pos hc, cnd_t (by rw [seq_t]; exact hc)]; rfl
      · rw [if_neg hc, cnd_f (by rw [← Bool.not_eq_true, seq_t]; exact hc), w64_succ hi (by omega)]
        exact ⟨rfl, trivial⟩
    · rw [cnd_f (ilt_f (by simp only [len]; omega))]
      rfl
end
end Go.Mo
end

section
/-
  Plain facts: the places of rows.
-/
namespace Go.Mo
open Go Go.W Go.Lib
set_option maxRecDepth 100000
noncomputable section

def usableR (r : Reg) : Prop := r = defR ∨ regChk r = 0
instance (r : Reg) : Decidable (usableR r) := by unfold usableR; infer_instance
theorem reg_eq {a b : Reg} : (a = b) = (a.1 = b.1 ∧ a.2.1 = b.2.1 ∧ a.2.2.1 = b.2.2.1 ∧ a.2.2.2.1 = b.2.2.2.1 ∧ a.2.2.2.2.1 = b.2.2.2.2.1 ∧ a.2.2.2.2.2.1 = b.2.2.2.2.2.1 ∧ a.2.2.2.2.2.2 = b.2.2.2.2.2.2) := by
  obtain ⟨a1, a2, a3, a4, a5, a6, a7⟩ := a; obtain ⟨b1, b2, b3, b4, b5, b6, b7⟩ := b; simp
theorem def_band (x : Reg) : (band (seq x.1 defR.1) (band (ieq x.2.1 defR.2.1) (band (ieq x.2.2.1 defR.2.2.1) (band (ieq x.2.2.2.1 defR.2.2.2.1) (band (ieq x.2.2.2.2.1 defR.2.2.2.2.1) (band (ieq (n8 x.2.2.2.2.2.1) (n8 defR.2.2.2.2.2.1)) (beqb x.2.2.2.2.2.2 defR.2.2.2.2.2.2)))))) = true) = (x = defR) := by
  simp only [band_tt, seq_t, ieq_tt, beqb_t, n8_eq]
  exact reg_eq.symm
theorem region_usable_eq (r : Reg) : region_usable fuelH r = some (decide (usableR r)) := by
  unfold region_usable
  rw [bnd_s (show region_Default fuelH () = some defR from rfl), region_check, bnd_some']
  by_cases h : r = defR
  · rw [cnd_t ((def_band r).mpr h), @decide_eq_true (usableR r) _ (.inl h)]
  · rw [cnd_f (by rw [← Bool.not_eq_true]; exact fun k => h ((def_band r).mp k))]
    congr 1
    by_cases h2 : regChk r = 0
    · rw [ieq_t h2, @decide_eq_true (usableR r) _ (.inr h2)]
    · rw [ieq_f h2, @decide_eq_false (usableR r) _ (fun k => k.elim h h2)]
theorem usable_bd {r : Reg} (h : usableR r) : 0 ≤ r.2.1 ∧ 1 ≤ r.2.2.1 ∧ r.2.1 + r.2.2.1 ≤ 15 ∧ 0 ≤ r.2.2.2.1 ∧ 1 ≤ r.2.2.2.2.1 ∧ r.2.2.2.1 + r.2.2.2.2.1 ≤ 32 ∧ 1 ≤ n8 r.2.2.2.2.2.1 ∧ n8 r.2.2.2.2.2.1 ≤ 3 := by
  rcases h with rfl | h
  · decide
  · unfold regChk at h
    split at h
    · cases h
    split at h
    · cases h
    split at h
    · cases h
    split at h
    · cases h
    split at h
    · cases h
    split at h
    · cases h
    omega

def colOf (r : Reg) (n : Int) : Int := if n8 r.2.2.2.2.2.1 = 3 then r.2.2.2.1 + (r.2.2.2.2.1 - n) else if n8 r.2.2.2.2.2.1 = 2 then r.2.2.2.1 + (r.2.2.2.2.1 - n).tdiv 2 else r.2.2.2.1
def topOf (r : Reg) (k : Nat) : Int := if r.2.2.2.2.2.2 = true then r.2.1 + (r.2.2.1 - (k : Int)) else r.2.1
def plRnd (r : Reg) (k : Nat) (i : Nat) (n : Int) (out : List Spot) : Option (List Spot × Int) ⊕ List Spot :=
  if n < 0 then .inl (some ([], 2)) else if r.2.2.2.2.1 < n then .inl (some ([], 11)) else .inr (out ++ [(topOf r k + (i : Int), colOf r n, n)])
def placeL (r : Reg) (k : Nat) : Nat → List Int → List Spot → List Spot × Int
  | _, [], out => (out, 0)
  | i, n :: l, out => if n < 0 then ([], 2) else if r.2.2.2.2.1 < n then ([], 11) else placeL r k (i + 1) l (out ++ [(topOf r k + (i : Int), colOf r n, n)])
def placeS (r : Reg) (l : List Int) : List Spot × Int := if ¬ usableR r then ([], 1) else if r.2.2.1 < (l.length : Int) then ([], 9) else placeL r l.length 0 l []
theorem itI_place (r : Reg) (k : Nat) : ∀ (l : List Int) (i : Nat) (out : List Spot), itI (plRnd r k) (fun a => some (a, (0 : Int))) i l out = some (placeL r k i l out)
  | [], i, out => rfl
  | n :: l, i, out => by
    simp only [itI, placeL, plRnd]
    by_cases h1 : n < 0
    · rw [if_pos h1, if_pos h1]
    · rw [if_neg h1, if_neg h1]
      by_cases h2 : r.2.2.2.2.1 < n
      · rw [if_pos h2, if_pos h2]
      · rw [if_neg h2, if_neg h2]
        exact itI_place r k l (i + 1) _
theorem jn_cnd {α β : Type} (K : α → Option β) (b : Bool) (x y : α) : jn K (fun v => cnd b (v x) (v y)) = K (if b = true then x else y) := by
  rw [jn_e]; cases b <;> rfl
theorem half_bd {x : Int} (h : 0 ≤ x) : 0 ≤ x.tdiv 2 ∧ x.tdiv 2 ≤ x := by
  rw [Int.tdiv_eq_ediv_of_nonneg h]; omega
/-- the numbers of one place do not wrap -/
theorem spot_w {r : Reg} (hu : usableR r) {k i : Nat} {n : Int} (hk : (k : Int) ≤ r.2.2.1) (hi : i < k) (h0 : 0 ≤ n) (hn : n ≤ r.2.2.2.2.1) :
    w64 (iadd (topOf r k) (i : Int)) = topOf r k + (i : Int) ∧ w64 (isub r.2.2.2.2.1 n) = r.2.2.2.2.1 - n ∧ w64 (iadd r.2.2.2.1 (r.2.2.2.2.1 - n)) = r.2.2.2.1 + (r.2.2.2.2.1 - n) ∧ w64 (idiv (r.2.2.2.2.1 - n) 2) = (r.2.2.2.2.1 - n).tdiv 2 ∧ w64 (iadd r.2.2.2.1 ((r.2.2.2.2.1 - n).tdiv 2)) = r.2.2.2.1 + (r.2.2.2.2.1 - n).tdiv 2 := by
  have hb := usable_bd hu
  have hd := half_bd (x := r.2.2.2.2.1 - n) (by omega)
  refine ⟨?_, ?_, ?_, ?_, ?_⟩
  · unfold iadd topOf
    rw [w64_id]
    split <;> omega
  · unfold isub; rw [w64_id (by omega)]
  · unfold iadd; rw [w64_id (by omega)]
  · unfold idiv; rw [w64_id (by omega)]
  · unfold iadd; rw [w64_id (by omega)]
theorem region_place (r : Reg) (l : List Int) : region_Place fuelH (r, l) = some (placeS r l) := by
  unfold region_Place placeS
  simp only
  rw [region_usable_eq, bnd_some', cnd_bnot]
  by_cases hu : usableR r
  · rw [if_pos hu, if_neg (not_not_intro hu)]
    have hb := usable_bd hu
    by_cases hk : r.2.2.1 < (l.length : Int)
    · rw [cnd_t (ilt_t (show r.2.2.1 < len l from hk)), if_pos hk]
    · rw [cnd_f (ilt_f (show ¬ r.2.2.1 < len l from hk)), if_neg hk, jn_cnd]
      have et : (if r.2.2.2.2.2.2 = true then w64 (iadd r.2.1 (w64 (isub r.2.2.1 (len l)))) else r.2.1) = topOf r l.length := by
        unfold topOf
        have e1 : w64 (isub r.2.2.1 (len l)) = r.2.2.1 - (l.length : Int) := by unfold isub len; rw [w64_id (by omega)]
        rw [e1]
        unfold iadd
        rw [w64_id (by omega)]
      rw [et, jn_e]
      refine Eq.trans (lst_it (l := l) (fun (a : List Spot) (p : Nat) => (a, (p : Int))) (plRnd r l.length) (fun a => some (a, (0 : Int))) (fun i a => a.length ≤ i) (fun self a i hi ha => ?_) (fun self a _ => ?_) fuelH 0 [] (Nat.zero_le _) (by have := fuelH_eq; omega) (Nat.le_refl _)) (itI_place r l.length l 0 [])
      · have hin : inb (i : Int) (len l) = true := inb_t (by simp only [len]; omega)
        simp only
        rw [cnd_t (ilt_t (by simp only [len]; omega)), grd_t hin, lget_i hi, w64_succ hi (by omega)]
        unfold plRnd
        by_cases h1 : l[i] < 0
        · rw [if_pos h1, cnd_t (ilt_t h1)]; rfl
        · rw [if_neg h1, cnd_f (ilt_f h1)]
          by_cases h2 : r.2.2.2.2.1 < l[i]
          · rw [if_pos h2, cnd_t (ilt_t h2)]; rfl
          · rw [if_neg h2, cnd_f (ilt_f h2)]
            obtain ⟨q1, q2, q3, q4, q5⟩ := spot_w hu (k := l.length) (i := i) (n := l[i]) (by omega) hi (by omega) (by omega)
            have hroom : ∀ s : Spot, room (iadd (len a) (len [s])) 24 = true := fun s => room_t (by simp only [iadd, len, List.length_singleton]; omega)
            rw [q1, q2, q3, q4, q5]
            rw [grd_t (hroom _), grd_t (hroom _), grd_t (hroom _)]
            refine ⟨?_, by simp only [List.length_append, List.length_singleton]; omega⟩
            unfold colOf
            have e3 : n8 (3 : UInt8) = 3 := rfl
            have e2 : n8 (2 : UInt8) = 2 := rfl
            rw [cnd_ieq, cnd_ieq, e3, e2]
            by_cases c3 : n8 r.2.2.2.2.2.1 = 3
            · rw [if_pos c3, if_pos c3]; rfl
            · rw [if_neg c3, if_neg c3]
              by_cases c2 : n8 r.2.2.2.2.2.1 = 2
              · rw [if_pos c2, if_pos c2]; rfl
              · rw [if_neg c2, if_neg c2]; rfl
      · simp only
        rw [cnd_f (ilt_f (by simp only [len]; omega))]
  · rw [if_neg hu, if_pos hu]
end
end Go.Mo
end

section
/-
  Plain facts: the text and the length of a row; events and their check.
-/
namespace Go.Mo
open Go Go.W Go.Lib
set_option maxRecDepth 100000
noncomputable section
abbrev Ev := Int × (Int × Int) × List UInt8 × UInt8 × List UInt8 × List Row

theorem rune_count {s : List UInt8} (hs : s.length ≤ 4000000) : utf8_RuneCountInString fuelH s = some ((rns s).length : Int) := by
  unfold utf8_RuneCountInString
  rw [jn_e]
  have hf : ∀ (l : List Int) (n : Nat), n + l.length ≤ 100000000 → foldR (fun (_ : Int) (a : Int) self => self (w64 (iadd a 1))) (fun a => some a) l (n : Int) = some ((n + l.length : Nat) : Int) := by
    intro l
    induction l with
    | nil => intro n _; rfl
    | cons r l ih =>
      intro n hn
      simp only [List.length_cons] at hn
      simp only [foldR]
      rw [w64_succ (show n < n + 1 by omega) (by omega), ih (n + 1) (by omega)]
      simp only [List.length_cons]
      congr 2
      omega
  refine (str_loop (s := s) (fun (a : Int) (p : Nat) => (a, s, ofN p)) (fun _ a self => self (w64 (iadd a 1))) (fun a => some a) (fun self a p hp => ?_) (fun self a p hp => ?_) fuelH 0 (0 : Int) (by have := fuelH_eq; omega)).trans ?_
  · simp only [toN_ofN]
    rw [cnd_t (nlt_t (show p < nlen s from hp))]
    rfl
  · simp only [toN_ofN]
    rw [cnd_f (nlt_f (show ¬ p < nlen s by unfold nlen; omega))]
  · have := rns_len _ s (Nat.le_refl _)
    have h := hf (rns s) 0 (by omega)
    rw [List.drop_zero]
    simpa using h
theorem ch_len {s : List UInt8} (hs : s.length ≤ 4000000) (hv : vld s = true) : charset_Len fuelH s = some ((rns s).length : Int) := by
  unfold charset_Len
  rw [ch_valid _ hs, bnd_some', hv, cnd_f (by rfl), rune_count hs]
  rfl
def lenT : Row → Nat
  | [] => 0
  | x :: l => (rns x.1).length + lenT l
def plainT (l : Row) : List UInt8 := l.flatMap (·.1)
/-- a row whose check says yes, of texts that are not too long -/
def okR (l : Row) : Prop := l.length ≤ 16 ∧ (∀ x ∈ l, vld x.1 = true ∧ x.1.length ≤ 4000000) ∧ tot l ≤ 4000000
def smallR (l : Row) : Prop := shortR l ∧ tot l ≤ 4000000
def smallL (l : List Row) : Prop := ∀ r ∈ l, smallR r
theorem okR_of {l : Row} (hs : smallR l) (h : rowChk l = 0) : okR l := by
  obtain ⟨h1, h2⟩ := rowChk_ok h
  exact ⟨h1, fun x hx => ⟨(h2 x hx).1, (hs.1 x hx).1⟩, hs.2⟩
theorem lenT_le : ∀ (l : Row), (∀ x ∈ l, x.1.length ≤ 4000000) → lenT l ≤ 4000000 * l.length
  | [], _ => Nat.le_refl _
  | x :: l, h => by
    have h1 := rns_len _ x.1 (Nat.le_refl _)
    have h2 := h x List.mem_cons_self
    have h3 := lenT_le l fun y hy => h y (List.mem_cons_of_mem _ hy)
    simp only [lenT, List.length_cons]
    omega
theorem lenT_take : ∀ (l : Row) (i : Nat) (h : i < l.length), lenT (l.take (i + 1)) = lenT (l.take i) + (rns l[i].1).length
  | x :: l, 0, _ => by simp [lenT]
  | x :: l, i + 1, h => by
    have := lenT_take l i (by simpa using h)
    simp only [List.take_succ_cons, lenT, this, List.getElem_cons_succ]
    omega
theorem lenT_take_le (l : Row) (i : Nat) : lenT (l.take i) ≤ lenT l := by
  induction l generalizing i with
  | nil => simp [lenT]
  | cons x l ih => cases i with
    | zero => simp [lenT]
    | succ i => simp only [List.take_succ_cons, lenT]; have := ih i; omega
theorem len_loop {l : Row} (h : okR l) (L : List UInt8 → Option Int) (hL : ∀ s : List UInt8, s.length ≤ 4000000 → vld s = true → L s = some ((rns s).length : Int)) :
    fixN (fun (v2 : Int × Int → Option Int) (v3 : Int × Int) =>
    cnd (ilt v3.2 (len l))
      (grd (inb v3.2 (len l))
        (bnd (L (lget l (toN v3.2) ([], (((0 : UInt8), (false, false)), []))).1) fun v4 =>
        cnd (ilt v4 (0 : Int))
          (some (-1 : Int))
          (v2 (w64 (iadd v3.1 v4), w64 (iadd v3.2 (1 : Int))))))
      (some v3.1)) fuelH ((0 : Int), (0 : Int)) = some (lenT l : Int) := by
  have hb := lenT_le l fun x hx => (h.2.1 x hx).2
  have hl := h.1
  refine loop_inv (n := l.length) (fun (a : Nat) (i : Nat) => ((a : Int), (i : Int))) (fun i a => a = lenT (l.take i)) _ (fun self a i hi hI => ?_) (fun self a hI => ?_) fuelH 0 0 (Nat.zero_le _) (by have := fuelH_eq; omega) rfl
  · refine ⟨a + (rns l[i].1).length, ?_, ?_⟩
    · have ht := lenT_take l i hi
      have ht2 := lenT_take_le l (i + 1)
      simp only
      rw [cnd_t (ilt_t (by simp only [len]; omega)), grd_t (inb_t (by simp only [len]; omega)), lget_i hi, hL _ (h.2.1 _ (List.getElem_mem hi)).2 (h.2.1 _ (List.getElem_mem hi)).1, bnd_some', cnd_f (ilt_f (by omega)), w64_succ hi (by omega)]
      have e : w64 (iadd (a : Int) ((rns l[i].1).length : Int)) = ((a + (rns l[i].1).length : Nat) : Int) := by
        unfold iadd; rw [w64_id (by omega)]; omega
      rw [e]
    · rw [lenT_take l i hi, hI]
  · simp only
    rw [cnd_f (ilt_f (by simp only [len]; omega)), hI, List.take_length]
theorem style_len {l : Row} (h : okR l) : style_Len fuelH l = some (lenT l : Int) := by
  unfold style_Len
  rw [jn_e]
  exact len_loop h (charset_Len fuelH) fun s => ch_len
theorem plainT_take (l : Row) (i : Nat) (h : i < l.length) : plainT (l.take (i + 1)) = plainT (l.take i) ++ l[i].1 := by
  unfold plainT
  rw [List.take_succ_eq_append_getElem h, List.flatMap_append]
  simp
theorem plainT_len : ∀ (l : Row), (plainT l).length = tot l
  | [] => rfl
  | x :: l => by
    have h3 := plainT_len l
    unfold plainT at h3 ⊢
    simp only [List.flatMap_cons, List.length_append, tot, h3]
theorem tot_take (l : Row) (i : Nat) : tot (l.take i) ≤ tot l := by
  have h := tot_app (l.take i) (l.drop i)
  rw [List.take_append_drop] at h
  omega
theorem plainT_le {l : Row} (h : okR l) (i : Nat) : (plainT (l.take i)).length ≤ 4000000 := by
  rw [plainT_len]
  have := tot_take l i
  have := h.2.2
  omega
theorem write_str {N : Nat} {a b : List UInt8} (h : a.length + b.length ≤ 100000000) : strings_Builder_WriteString N (((), a), b) = some ((b.length : Int), (), (), a ++ b) := by
  unfold strings_Builder_WriteString
  show (grd (room (iadd (len a) (len b)) 1) (some (len b, (), (), lapp a b))) = _
  rw [grd_t (room_t (by simp only [iadd, len]; omega))]
  rfl
theorem style_plain {l : Row} (h : okR l) : style_Plain fuelH l = some (plainT l) := by
  unfold style_Plain
  rw [jn_e]
  have hl := h.1
  refine loop_inv (n := l.length) (fun (a : List UInt8) (i : Nat) => ((i : Int), (), a)) (fun i a => a = plainT (l.take i)) _ (fun self a i hi hI => ?_) (fun self a hI => ?_) fuelH 0 [] (Nat.zero_le _) (by have := fuelH_eq; omega) rfl
  · refine ⟨a ++ l[i].1, ?_, ?_⟩
    · have h1 := plainT_le h i
      have h2 := (h.2.1 _ (List.getElem_mem hi)).2
      simp only
      rw [cnd_t (ilt_t (by simp only [len]; omega)), grd_t (inb_t (by simp only [len]; omega)), lget_i hi, write_str (by rw [hI]; omega), bnd_some', w64_succ hi (by omega)]
    · rw [plainT_take l i hi, hI]
  · simp only
    rw [cnd_f (ilt_f (by simp only [len]; omega)), hI, List.take_length]
def sp2 : List UInt8 → Bool
  | [] => false
  | [_] => false
  | a :: b :: t => ([32, 32] : List UInt8).isPrefixOf (a :: b :: t) || sp2 (b :: t)
theorem sp2_index : ∀ t : List UInt8, decide (0 ≤ index t [32, 32]) = sp2 t
  | [] => rfl
  | [a] => by
    have e : index [a] [32, 32] = if ([32, 32] : List UInt8).isPrefixOf [a] = true then 0 else if (index [] [32, 32] == -1) = true then -1 else index [] [32, 32] + 1 := rfl
    have hp : ([32, 32] : List UInt8).isPrefixOf [a] = false := by cases h : ((32 : UInt8) == a) <;> simp [List.isPrefixOf, h]
    rw [e, hp]
    rfl
  | a :: b :: t => by
    have ih := sp2_index (b :: t)
    have hg := index_ge (b :: t) [32, 32]
    have e : index (a :: b :: t) [32, 32] = if ([32, 32] : List UInt8).isPrefixOf (a :: b :: t) = true then 0 else if (index (b :: t) [32, 32] == -1) = true then -1 else index (b :: t) [32, 32] + 1 := rfl
    have e2 : sp2 (a :: b :: t) = (([32, 32] : List UInt8).isPrefixOf (a :: b :: t) || sp2 (b :: t)) := rfl
    rw [e, e2, ← ih]
    generalize index (b :: t) [32, 32] = m at hg ⊢
    cases ([32, 32] : List UInt8).isPrefixOf (a :: b :: t) with
    | true => rfl
    | false =>
      rw [if_neg (by decide), Bool.false_or]
      by_cases h1 : m = -1
      · subst h1; rfl
      · rw [if_neg (by simpa using h1), decide_eq_true (by omega), decide_eq_true (by omega)]
theorem sp2_contains (t : List UInt8) : contains t [32, 32] = sp2 t := sp2_index t
def neatT (t : List UInt8) : Bool := if t = [] then false else if n8 (lget t (toN (0 : Int)) 0) = n8 (32 : UInt8) then false else if n8 (lget t (toN (w64 (isub (len t) 1))) 0) = n8 (32 : UInt8) then false else !sp2 t
def rowE (l : Row) : Int := if rowChk l ≠ 0 then rowChk l else if neatT (plainT l) = false then 4 else if 32 < lenT l then 11 else 0
theorem event_row_eq {l : Row} (hs : smallR l) : event_row fuelH l = some (rowE l) := by
  unfold event_row rowE
  rw [bnd_s (style_check hs.1)]
  by_cases hk : rowChk l ≠ 0
  · rw [cnd_t (ine_t hk), if_pos hk]
  · rw [cnd_f (ine_f (by simpa using hk)), if_neg hk]
    have hr := okR_of hs (by simpa using hk)
    have hp := plainT_le hr l.length
    rw [List.take_length] at hp
    rw [bnd_s (style_plain hr)]
    generalize plainT l = t at hp ⊢
    unfold neatT
    by_cases h0 : t = []
    · rw [cnd_t (by rw [seq_t]; exact h0), if_pos h0, if_pos rfl]
    · have hl : 0 < t.length := List.length_pos_iff.2 h0
      have e1 : w64 (isub (len t) 1) = ((t.length - 1 : Nat) : Int) := w64_pred hl (by omega)
      have hin : inb (w64 (isub (len t) 1)) (len t) = true := by rw [e1]; exact inb_t (by simp only [len]; omega)
      rw [cnd_f (by rw [← Bool.not_eq_true, seq_t]; exact h0), if_neg h0, grd_t (inb_t (by simp only [len]; omega)), cnd_ieq]
      by_cases h1 : n8 (lget t (toN (0 : Int)) 0) = n8 (32 : UInt8)
      · rw [if_pos h1, if_pos h1, if_pos rfl]
      · rw [if_neg h1, if_neg h1, grd_t hin, cnd_ieq]
        by_cases h2 : n8 (lget t (toN (w64 (isub (len t) 1))) 0) = n8 (32 : UInt8)
        · rw [if_pos h2, if_pos h2, if_pos rfl]
        · rw [if_neg h2, if_neg h2]
          have hc : strings_Contains fuelH (t, [32, 32]) = some (sp2 t) := by
            show grd (decide (t.length < 4294967281)) (some (contains t [32, 32])) = _
            rw [grd_t (decide_eq_true (by omega)), sp2_contains]
          rw [bnd_s hc]
          by_cases h3 : sp2 t = true
          · rw [cnd_t h3, h3, if_pos (by decide)]
          · rw [cnd_f (by simpa using h3), Bool.eq_false_iff.2 h3, if_neg (by simp), bnd_s (style_len hr), cnd_ilt]
            by_cases h4 : 32 < lenT l
            · rw [if_pos (by omega), if_pos h4]
            · rw [if_neg (by omega), if_neg h4]
end
end Go.Mo
end

section
/-
  Plain facts: the check of an event, on both sides; spots; the length of an event.
-/
namespace Go.Mo
open Go Go.W Go.Lib
set_option maxRecDepth 100000
noncomputable section

theorem spans_eq (N : Nat) (s : Int × Int) : event_spans N s = some (decide (0 ≤ s.1 ∧ s.1 < s.2 ∧ s.2 ≤ 5184000)) := by
  unfold event_spans
  rw [cnd_ile, cnd_ilt]
  by_cases h1 : 0 ≤ s.1
  · rw [if_pos h1]
    by_cases h2 : s.1 < s.2
    · rw [if_pos h2]; simp [h1, h2, ile]
    · rw [if_neg h2]; simp [h2]
  · rw [if_neg h1]; simp [h1]
def kindP (k : UInt8) : Bool := match event_KindName fuelH k with
  | some s => decide (seq s [] = decide (¬ (1 ≤ n8 k ∧ n8 k ≤ 4)))
  | none => false
theorem kind_tab (k : UInt8) : ∃ s, event_KindName fuelH k = some s ∧ seq s [] = decide (¬ (1 ≤ n8 k ∧ n8 k ≤ 4)) := by
  have h : kindP k = true := all_u8 (P := kindP) (by kernel_rfl) k
  unfold kindP at h
  split at h
  · rename_i s hs
    exact ⟨s, hs, of_decide_eq_true h⟩
  · cases h
theorem jn_sp {β : Type} (K : Bool → Option β) (s : List UInt8) (X : Option Bool) (hX : X = some (nm s)) : jn K (fun v => cnd (sne s ([] : List UInt8)) (bnd X fun w => v (bnot w)) (v false)) = K (decide (s ≠ [] ∧ nm s = false)) := by
  rw [jn_e, hX, bnd_some']
  by_cases h : s = []
  · subst h; rfl
  · rw [cnd_t (by simp [sne, h])]
    congr 1
    cases hn : nm s <;> simp [bnot, h]
def rowsE : List Row → Int → Int
  | [], k => k
  | l :: r, k => if rowE l ≠ 0 then rowE l else rowsE r k
def lens (l : List Row) : List Int := l.map fun r => (lenT r : Int)
def evChk (x : Ev) (rs : List Reg) : Int :=
  if x.1 < 1 then 2 else if 1099511627776 < x.1 then 2 else
  if ¬ (0 ≤ x.2.1.1 ∧ x.2.1.1 < x.2.1.2 ∧ x.2.1.2 ≤ 5184000) then 2 else
  match findR rs x.2.2.1 with
  | none => 6
  | some r =>
    if ¬ (1 ≤ n8 x.2.2.2.1 ∧ n8 x.2.2.2.1 ≤ 4) then 3 else
    if x.2.2.2.2.1 ≠ [] ∧ nm x.2.2.2.2.1 = false then 5 else
    if x.2.2.2.2.2.length = 0 then 9 else if 4 < x.2.2.2.2.2.length then 9 else
    rowsE x.2.2.2.2.2 (placeS r (lens x.2.2.2.2.2)).2
theorem rowE_ok {l : Row} (hs : smallR l) (h : rowE l = 0) : okR l := by
  unfold rowE at h
  split at h
  · rename_i hc; exact absurd h hc
  · rename_i hc; exact okR_of hs (by simpa using hc)
theorem event_lens_eq {x : Ev} (h : ∀ l ∈ x.2.2.2.2.2, okR l) (hl : x.2.2.2.2.2.length ≤ 1000000) : event_lens fuelH x = some (lens x.2.2.2.2.2) := by
  unfold event_lens
  rw [jn_e]
  generalize x.2.2.2.2.2 = l at h hl ⊢
  refine loop_inv (n := l.length) (fun (a : List Int) (i : Nat) => (a, (i : Int))) (fun i a => a = lens (l.take i)) _ (fun self a i hi hI => ?_) (fun self a hI => ?_) fuelH 0 [] (Nat.zero_le _) (by have := fuelH_eq; omega) rfl
  · refine ⟨a ++ [(lenT l[i] : Int)], ?_, ?_⟩
    · have ha : a.length ≤ i := by rw [hI]; unfold lens; rw [List.length_map, List.length_take]; omega
      simp only
      rw [cnd_t (ilt_t (by simp only [len]; omega)), grd_t (inb_t (by simp only [len]; omega)), lget_i hi, style_len (h _ (List.getElem_mem hi)), bnd_some', grd_t (room_t (by simp only [iadd, len, List.length_singleton]; omega)), w64_succ hi (by omega)]
      rfl
    · rw [hI]; unfold lens; rw [List.take_succ_eq_append_getElem hi, List.map_append]; rfl
  · simp only
    rw [cnd_f (ilt_f (by simp only [len]; omega)), hI, List.take_length]
theorem itI_rows (K : Option Int) (k : Int) : ∀ (l : List Row) (i : Nat), ((∀ r ∈ l, rowE r = 0) → K = some k) → itI (fun _ (r : Row) (_ : Unit) => if rowE r ≠ 0 then (.inl (some (rowE r)) : Option Int ⊕ Unit) else .inr ()) (fun _ => K) i l () = some (rowsE l k)
  | [], i, h => h fun r hr => by cases hr
  | r :: l, i, h => by
    simp only [itI, rowsE]
    by_cases hc : rowE r ≠ 0
    · rw [if_pos hc, if_pos hc]
    · rw [if_neg hc, if_neg hc]
      refine itI_rows K k l (i + 1) fun hl => h fun q hq => ?_
      rcases List.mem_cons.1 hq with rfl | hq
      · simpa using hc
      · exact hl q hq
theorem event_check_eq {x : Ev} {rs : List Reg} (hs : smallL x.2.2.2.2.2) (hr : rs.length ≤ 4000000) : event_Check fuelH (x, rs) = some (evChk x rs) := by
  unfold event_Check evChk
  simp only
  rw [region_find _ hr, bnd_some', cnd_ilt]
  by_cases c1 : x.1 < 1
  · rw [if_pos c1, if_pos c1]
  rw [if_neg c1, if_neg c1, cnd_ilt]
  by_cases c2 : 1099511627776 < x.1
  · rw [if_pos c2, if_pos c2]
  rw [if_neg c2, if_neg c2, spans_eq, bnd_some', cnd_bnot]
  by_cases c3 : 0 ≤ x.2.1.1 ∧ x.2.1.1 < x.2.1.2 ∧ x.2.1.2 ≤ 5184000
  · rw [if_pos c3, if_neg (not_not_intro c3)]
    unfold findP
    cases hf : findR rs x.2.2.1 with
    | none => rfl
    | some r =>
      simp only
      rw [cnd_f (by rfl)]
      obtain ⟨s, k1, k2⟩ := kind_tab x.2.2.2.1
      rw [bnd_s k1, k2, cnd_dec]
      by_cases c4 : 1 ≤ n8 x.2.2.2.1 ∧ n8 x.2.2.2.1 ≤ 4
      · rw [if_neg (not_not_intro c4), if_neg (not_not_intro c4), jn_sp _ _ _ (lines_name _), cnd_dec]
        by_cases c5 : x.2.2.2.2.1 ≠ [] ∧ nm x.2.2.2.2.1 = false
        · rw [if_pos c5, if_pos c5]
        rw [if_neg c5, if_neg c5]
        by_cases c6 : x.2.2.2.2.2.length = 0
        · rw [cnd_t (ieq_t (by simp only [len]; omega)), if_pos c6]
        rw [cnd_f (ieq_f (by simp only [len]; omega)), if_neg c6]
        by_cases c7 : 4 < x.2.2.2.2.2.length
        · rw [cnd_t (ilt_t (by simp only [len]; omega)), if_pos c7]
        rw [cnd_f (ilt_f (by simp only [len]; omega)), if_neg c7, jn_e]
        have hlen := @event_lens_eq x
        generalize x.2.2.2.2.2 = l at hs c6 c7 hlen ⊢
        refine Eq.trans (lst_it (l := l) (fun (_ : Unit) (p : Nat) => (p : Int)) (fun _ (r : Row) (_ : Unit) => if rowE r ≠ 0 then .inl (some (rowE r)) else .inr ()) (fun _ => bnd (event_lens fuelH x) fun v5 => bnd (region_Place fuelH (r, v5)) fun v6 => some v6.2) (fun _ _ => True) (fun self a i hi _ => ?_) (fun self a _ => ?_) fuelH 0 () (Nat.zero_le _) (by have := fuelH_eq; omega) trivial) (itI_rows _ _ l 0 fun hl => ?_)
        · rw [cnd_t (ilt_t (by simp only [len]; omega)), grd_t (inb_t (by simp only [len]; omega)), lget_i hi, bnd_s (event_row_eq (hs _ (List.getElem_mem hi))), w64_succ hi (by omega)]
          by_cases hc : rowE l[i] ≠ 0
          · rw [if_pos hc, cnd_t (ine_t hc)]; rfl
          · rw [if_neg hc, cnd_f (ine_f (by simpa using hc))]
            exact ⟨rfl, trivial⟩
        · rw [cnd_f (ilt_f (by simp only [len]; omega))]
        · rw [bnd_s (hlen (fun q hq => rowE_ok (hs q hq) (hl q hq)) (by omega)), bnd_s (region_place _ _)]
      · rw [if_pos c4, if_pos c4]
  · rw [if_neg c3, if_pos c3]
end
end Go.Mo
end

section
/-
  Plain facts: the header of a document; events by their number; the length of an event.
-/
namespace Go.Mo
open Go Go.W Go.Lib
set_option maxRecDepth 100000
noncomputable section
abbrev Cmt := Int × Int × Int × Int × List UInt8 × List UInt8 × Bool × Bool
abbrev Doc := List UInt8 × List UInt8 × UInt8 × Bool × Int × List Reg × List Ev × List Cmt

def tvB (r : UInt8) : Bool := (timebase_Valid fuelH r).getD false
def cdB (r : UInt8) : Bool := (timebase_CanDrop fuelH r).getD false
theorem tv_eq (r : UInt8) : timebase_Valid fuelH r = some (tvB r) ∧ timebase_CanDrop fuelH r = some (cdB r) :=
  of_decide_eq_true (all_u8 (P := fun r => decide (timebase_Valid fuelH r = some (tvB r) ∧ timebase_CanDrop fuelH r = some (cdB r))) (by kernel_rfl) r)
def rateBad (r : UInt8) (drop : Bool) : Prop := tvB r = false ∨ (drop = true ∧ cdB r = false)
instance (r : UInt8) (drop : Bool) : Decidable (rateBad r drop) := by unfold rateBad; infer_instance
def headChk (d : Doc) : Int :=
  if vld d.1 = false then 10 else if 400 < d.1.length then 9 else if d.2.1 ≠ [] ∧ nm d.2.1 = false then 5 else
  if rateBad d.2.2.1 d.2.2.2.1 then 13 else if d.2.2.2.2.1 < 0 then 2 else if 1099511627776 < d.2.2.2.2.1 then 2 else 0
theorem rate_chk (r : UInt8) (b : Bool) : document_rate fuelH (r, b) = some (if rateBad r b then 13 else 0) := by
  unfold document_rate
  obtain ⟨h1, h2⟩ := tv_eq r
  simp only
  rw [h1, bnd_some']
  by_cases c1 : tvB r = false
  · rw [cnd_t (by rw [c1]; rfl), if_pos (show rateBad r b from .inl c1)]
  · rw [cnd_f (by rw [← Bool.not_eq_true, bnot_t]; exact c1)]
    cases b with
    | false =>
      rw [cnd_f rfl, if_neg]
      rintro (h | h)
      · exact c1 h
      · cases h.1
    | true =>
      rw [cnd_t rfl, h2, bnd_some']
      by_cases c2 : cdB r = false
      · rw [cnd_t (by rw [c2]; rfl), if_pos (show rateBad r true from .inr ⟨rfl, c2⟩)]
      · rw [cnd_f (by rw [← Bool.not_eq_true, bnot_t]; exact c2), if_neg]
        rintro (h | h)
        · exact c1 h
        · exact c2 h.2
theorem header_eq {d : Doc} (hd : d.1.length ≤ 4000000) : document_header fuelH d = some (headChk d) := by
  unfold document_header headChk
  rw [jn_e, ch_valid _ hd, bnd_some']
  by_cases c1 : vld d.1 = false
  · rw [cnd_t (by rw [c1]; rfl), if_pos c1]
  rw [cnd_f (by rw [← Bool.not_eq_true, bnot_t]; exact c1), if_neg c1]
  by_cases c2 : 400 < d.1.length
  · rw [cnd_t (ilt_t (by simp only [len]; omega)), if_pos c2]
  rw [cnd_f (ilt_f (by simp only [len]; omega)), if_neg c2, lines_name, bnd_some', rate_chk, bnd_some']
  have hrest : cnd (ine (if rateBad d.2.2.1 d.2.2.2.1 then (13 : Int) else 0) 0) (some (if rateBad d.2.2.1 d.2.2.2.1 then (13 : Int) else 0)) (cnd (ilt d.2.2.2.2.1 0) (some (2 : Int)) (cnd (ilt 1099511627776 d.2.2.2.2.1) (some 2) (some 0))) = some (if rateBad d.2.2.1 d.2.2.2.1 then 13 else if d.2.2.2.2.1 < 0 then 2 else if 1099511627776 < d.2.2.2.2.1 then 2 else 0) := by
    by_cases c4 : rateBad d.2.2.1 d.2.2.2.1
    · rw [if_pos c4, if_pos c4]; rfl
    · rw [if_neg c4, if_neg c4, cnd_f (by rfl), cnd_ilt, cnd_ilt]
      by_cases c5 : d.2.2.2.2.1 < 0
      · rw [if_pos c5, if_pos c5]
      rw [if_neg c5, if_neg c5]
      by_cases c6 : 1099511627776 < d.2.2.2.2.1
      · rw [if_pos c6, if_pos c6]
      · rw [if_neg c6, if_neg c6]
  rw [hrest]
  generalize (if rateBad d.2.2.1 d.2.2.2.1 then (13 : Int) else if d.2.2.2.2.1 < 0 then 2 else if 1099511627776 < d.2.2.2.2.1 then 2 else 0) = R
  by_cases c3 : d.2.1 = []
  · rw [cnd_f (by simp [sne, c3]), if_neg fun h => h.1 c3]
  · rw [cnd_t (by simp [sne, c3])]
    by_cases c4 : nm d.2.1 = false
    · rw [cnd_t (by rw [c4]; rfl), if_pos ⟨c3, c4⟩]
    · rw [cnd_f (by rw [← Bool.not_eq_true, bnot_t]; exact c4), if_neg fun h => c4 h.2]
/-- the events' numbers with their places -/
def mapE : Nat → List Ev → List (Int × Int)
  | _, [] => []
  | i, x :: l => (x.1, (i : Int)) :: mapE (i + 1) l
def findE : Nat → List Ev → Int → Int
  | _, [], _ => -1
  | i, x :: l, k => if x.1 = k then (i : Int) else findE (i + 1) l k
def hasE (l : List Ev) (k : Int) : Prop := ∃ x ∈ l, x.1 = k
instance (l : List Ev) (k : Int) : Decidable (hasE l k) := by unfold hasE; infer_instance
theorem mapE_app : ∀ (a b : List Ev) (i : Nat), mapE i (a ++ b) = mapE i a ++ mapE (i + a.length) b
  | [], b, i => by simp [mapE]
  | x :: a, b, i => by
    simp only [List.cons_append, mapE, mapE_app a b (i + 1), List.length_cons]
    congr 3; omega
theorem mhas_mapE : ∀ (l : List Ev) (i : Nat) (k : Int), mhas ieq (mapE i l) k = decide (hasE l k)
  | [], i, k => by simp [mapE, mhas, hasE]
  | x :: l, i, k => by
    simp only [mapE, mhas, mhas_mapE l (i + 1) k]
    by_cases h : k = x.1
    · rw [ieq_t h, decide_eq_true (show hasE (x :: l) k from ⟨x, List.mem_cons_self, h.symm⟩)]; rfl
    · rw [ieq_f h]
      show (false || _) = _
      rw [Bool.false_or]
      exact decide_eq_decide.2 ⟨fun ⟨y, h1, h2⟩ => ⟨y, List.mem_cons_of_mem _ h1, h2⟩, fun ⟨y, h1, h2⟩ => by
        rcases List.mem_cons.1 h1 with rfl | h1
        · exact absurd h2.symm h
        · exact ⟨y, h1, h2⟩⟩
theorem mput_new {k v : Int} : ∀ (m : List (Int × Int)), mhas ieq m k = false → mput ieq m k v = m ++ [(k, v)]
  | [], _ => rfl
  | x :: m, h => by
    simp only [mhas, bor, Bool.or_eq_false_iff] at h
    simp only [mput, h.1, mput_new m h.2]
    rfl
theorem mget_mapE : ∀ (l : List Ev) (i : Nat) (k : Int), hasE l k → mget ieq 0 (mapE i l) k = findE i l k
  | [], i, k, h => by obtain ⟨x, h, _⟩ := h; cases h
  | x :: l, i, k, h => by
    simp only [mapE, mget, findE]
    by_cases hc : x.1 = k
    · rw [ieq_t hc.symm, if_pos hc]; rfl
    · rw [ieq_f (fun e => hc e.symm), if_neg hc]
      obtain ⟨y, h1, h2⟩ := h
      rcases List.mem_cons.1 h1 with rfl | h1
      · exact absurd h2 hc
      · exact mget_mapE l (i + 1) k ⟨y, h1, h2⟩
theorem findE_yes : ∀ (l : List Ev) (i : Nat) (k : Int), hasE l k → ∃ j, ∃ h : j < l.length, findE i l k = ((i + j : Nat) : Int) ∧ l[j].1 = k ∧ ¬ hasE (l.take j) k
  | [], i, k, h => by obtain ⟨x, h, _⟩ := h; cases h
  | x :: l, i, k, h => by
    simp only [findE]
    by_cases hc : x.1 = k
    · exact ⟨0, by simp, by rw [if_pos hc]; rfl, hc, fun ⟨y, h1, _⟩ => by cases h1⟩
    · obtain ⟨y, h1, h2⟩ := h
      rcases List.mem_cons.1 h1 with rfl | h1
      · exact absurd h2 hc
      · obtain ⟨j, hj, e1, e2, e3⟩ := findE_yes l (i + 1) k ⟨y, h1, h2⟩
        refine ⟨j + 1, by simpa using hj, ?_, by simpa using e2, ?_⟩
        · rw [if_neg hc, e1]; congr 1; omega
        · rintro ⟨z, h3, h4⟩
          rw [List.take_succ_cons] at h3
          rcases List.mem_cons.1 h3 with rfl | h3
          · exact hc h4
          · exact e3 ⟨z, h3, h4⟩
def lessE (a b : Ev) : Prop := a.2.1.1 < b.2.1.1 ∨ (a.2.1.1 = b.2.1.1 ∧ a.1 < b.1)
instance (a b : Ev) : Decidable (lessE a b) := by unfold lessE; infer_instance
theorem cmp_eq (N : Nat) (a b : Int) : cmp_Compare_int64 N (a, b) = some (if a < b then -1 else if b < a then 1 else 0) := by
  unfold cmp_Compare_int64
  have h : ∀ x : Int, cmp_isNaN_int64 N x = some false := fun x => by
    show some (ine x x) = _
    rw [ine_f rfl]
  simp only
  rw [h, h, bnd_some', bnd_some', cnd_f rfl, cnd_f rfl, cnd_ilt, cnd_ilt]
  by_cases h1 : a < b
  · rw [if_pos h1, if_pos h1]
  · rw [if_neg h1, if_neg h1]
    by_cases h2 : b < a
    · rw [if_pos h2, if_pos h2]
    · rw [if_neg h2, if_neg h2]
theorem or_eq (a b : Int) : cmp_Or_int fuelH [a, b] = some (if a ≠ 0 then a else b) := by
  have h : cmp_Or_int fuelH [a, b] = cnd (ine a 0) (some a) (cnd (ine b 0) (some b) (some 0)) := by kernel_rfl
  rw [h, cnd_ine, cnd_ine]
  by_cases h1 : a ≠ 0
  · rw [if_pos h1, if_pos h1]
  · rw [if_neg h1, if_neg h1]
    by_cases h2 : b ≠ 0
    · rw [if_pos h2]
    · rw [if_neg h2]; congr 1; omega
theorem event_less (a b : Ev) : event_Less fuelH (a, b) = some (decide (lessE a b)) := by
  unfold event_Less
  simp only
  rw [cmp_eq, bnd_some', cmp_eq, bnd_some', or_eq, bnd_some']
  congr 1
  by_cases h1 : a.2.1.1 < b.2.1.1
  · rw [if_pos h1, if_pos (by decide), @decide_eq_true (lessE a b) _ (.inl h1)]; rfl
  · rw [if_neg h1]
    by_cases h2 : b.2.1.1 < a.2.1.1
    · rw [if_pos h2, if_pos (by decide), @decide_eq_false (lessE a b) _ (by unfold lessE; omega)]; rfl
    · rw [if_neg h2, if_neg (by decide)]
      by_cases h3 : a.1 < b.1
      · rw [if_pos h3, @decide_eq_true (lessE a b) _ (by unfold lessE; omega)]; rfl
      · rw [if_neg h3, @decide_eq_false (lessE a b) _ (by unfold lessE; omega)]
        split <;> rfl
end
end Go.Mo
end

section
/-
  Plain facts: the events of a document, checked one after the other; the length of an event.
-/
namespace Go.Mo
open Go Go.W Go.Lib
set_option maxRecDepth 100000
noncomputable section

def errL {α : Type} (R : List α → α → Int) : List α → List α → Int
  | _, [] => 0
  | pre, x :: l => if R pre x ≠ 0 then R pre x else errL R (pre ++ [x]) l
theorem errL_zero {α : Type} {R : List α → α → Int} : ∀ (l pre : List α), errL R pre l = 0 → ∀ j (h : j < l.length), R (pre ++ l.take j) l[j] = 0
  | [], _, _, j, h => by simp at h
  | x :: l, pre, h0, j, h => by
    simp only [errL] at h0
    split at h0
    · rename_i hc; exact absurd h0 hc
    · rename_i hc
      cases j with
      | zero => simpa using hc
      | succ j =>
        have := errL_zero l (pre ++ [x]) h0 j (by simpa using h)
        simpa using this
theorem loop_err {V σ α ρ : Type} {F : (V → Option ρ) → V → Option ρ} {l : List α} (st : σ → Nat → V) (g : List α → σ) (R : List α → α → Int) (w : Int → ρ) (K : Option ρ)
    (hstep : ∀ self i (h : i < l.length), F self (st (g (l.take i)) i) = if R (l.take i) l[i] ≠ 0 then some (w (R (l.take i) l[i])) else self (st (g (l.take (i + 1))) (i + 1)))
    (hend : (∀ j (h : j < l.length), R (l.take j) l[j] = 0) → ∀ self, F self (st (g l) l.length) = K) :
    ∀ (fuel i : Nat), i ≤ l.length → l.length - i < fuel → (∀ j (h : j < l.length), j < i → R (l.take j) l[j] = 0) →
    fixN F fuel (st (g (l.take i)) i) = if errL R (l.take i) (l.drop i) ≠ 0 then some (w (errL R (l.take i) (l.drop i))) else K
  | 0, i, _, h, _ => by omega
  | fuel + 1, i, hi, h, hp => by
    rw [fixN_s]
    by_cases hl : i < l.length
    · rw [hstep _ i hl, List.drop_eq_getElem_cons hl, errL]
      by_cases hc : R (l.take i) l[i] ≠ 0
      · rw [if_pos hc, if_pos hc, if_pos hc]
      · rw [if_neg hc, if_neg hc]
        have ih := loop_err st g R w K hstep hend fuel (i + 1) (by omega) (by omega) (fun j hj hji => by
          by_cases e : j = i
          · subst e; simpa using hc
          · exact hp j hj (by omega))
        rw [ih, List.take_succ_eq_append_getElem hl]
    · obtain rfl : i = l.length := by omega
      rw [List.take_length, hend (fun j hj => hp j hj hj), List.drop_length]
      rfl

def sumT : List Row → Nat
  | [] => 0
  | r :: l => lenT r + sumT l
def evLen (x : Ev) : Int := ((x.2.2.2.2.2.length - 1 + sumT x.2.2.2.2.2 : Nat) : Int)
theorem sumT_take : ∀ (l : List Row) (i : Nat) (h : i < l.length), sumT (l.take (i + 1)) = sumT (l.take i) + lenT l[i]
  | x :: l, 0, _ => by simp [sumT]
  | x :: l, i + 1, h => by
    have := sumT_take l i (by simpa using h)
    simp only [List.take_succ_cons, sumT, this, List.getElem_cons_succ]
    omega
theorem lenT_tot {l : Row} (h : okR l) : lenT l ≤ 64000000 := by
  have h1 := lenT_le l fun x hx => (h.2.1 x hx).2
  have h2 := h.1
  omega
theorem sumT_le : ∀ (l : List Row), (∀ r ∈ l, okR r) → sumT l ≤ 64000000 * l.length
  | [], _ => Nat.le_refl _
  | r :: l, h => by
    have h1 := lenT_tot (h r List.mem_cons_self)
    have h2 := sumT_le l fun q hq => h q (List.mem_cons_of_mem _ hq)
    simp only [sumT, List.length_cons]
    omega
theorem sumT_take_le (l : List Row) (h : ∀ r ∈ l, okR r) (i : Nat) : sumT (l.take i) ≤ 64000000 * l.length := by
  have h1 := sumT_le (l.take i) fun r hr => h r (List.mem_of_mem_take hr)
  have : (l.take i).length ≤ l.length := by rw [List.length_take]; omega
  omega
theorem event_len_eq {x : Ev} (h : ∀ l ∈ x.2.2.2.2.2, okR l) (hl : x.2.2.2.2.2.length ≤ 1000) : event_Len fuelH x = some (evLen x) := by
  unfold event_Len evLen
  rw [jn_e, bnd_s (event_lens_eq h (by omega))]
  generalize x.2.2.2.2.2 = l at h hl ⊢
  have hll : (lens l).length = l.length := by unfold lens; rw [List.length_map]
  have e0 : imax (w64 (isub (len l) 1)) 0 = ((l.length - 1 : Nat) : Int) := by
    simp only [isub, imax, len]
    rw [w64_id (by omega)]
    omega
  rw [e0]
  refine loop_inv (n := l.length) (fun (a : Nat) (i : Nat) => ((a : Int), (i : Int))) (fun i a => a = l.length - 1 + sumT (l.take i)) _ (fun self a i hi hI => ?_) (fun self a hI => ?_) fuelH 0 (l.length - 1) (Nat.zero_le _) (by have := fuelH_eq; omega) (by simp [sumT])
  · refine ⟨a + lenT l[i], ?_, ?_⟩
    · have ht := sumT_take_le l h i
      have hb := lenT_tot (h _ (List.getElem_mem hi))
      have hin : inb (i : Int) (len (lens l)) = true := inb_t (by simp only [len, hll]; omega)
      have hg : lget (lens l) (toN (i : Int)) (0 : Int) = (lenT l[i] : Int) := by
        rw [lget_i (by omega)]
        simp [lens]
      simp only
      rw [cnd_t (ilt_t (by simp only [len, hll]; omega)), grd_t hin, hg, cnd_f (ilt_f (by omega)), w64_succ hi (by omega)]
      have e : w64 (iadd (a : Int) (lenT l[i] : Int)) = ((a + lenT l[i] : Nat) : Int) := by
        unfold iadd; rw [w64_id (by omega)]; omega
      rw [e]
    · rw [sumT_take l i hi, hI]; omega
  · simp only
    rw [cnd_f (ilt_f (by simp only [len, hll]; omega)), hI, List.take_length]
theorem rowsE_zero : ∀ (l : List Row) (k : Int), rowsE l k = 0 → (∀ r ∈ l, rowE r = 0) ∧ k = 0
  | [], k, h => ⟨fun r hr => (by cases hr), h⟩
  | r :: l, k, h => by
    simp only [rowsE] at h
    split at h
    · rename_i hc; exact absurd h hc
    · rename_i hc
      obtain ⟨h1, h2⟩ := rowsE_zero l k h
      refine ⟨fun q hq => ?_, h2⟩
      rcases List.mem_cons.1 hq with rfl | hq
      · simpa using hc
      · exact h1 q hq
theorem ev_ok {x : Ev} {rs : List Reg} (h : evChk x rs = 0) : 1 ≤ x.1 ∧ x.1 ≤ 1099511627776 ∧ (0 ≤ x.2.1.1 ∧ x.2.1.1 < x.2.1.2 ∧ x.2.1.2 ≤ 5184000) ∧ 0 < x.2.2.2.2.2.length ∧ x.2.2.2.2.2.length ≤ 4 ∧ (∀ r ∈ x.2.2.2.2.2, rowE r = 0) ∧ ∃ r, findR rs x.2.2.1 = some r ∧ (placeS r (lens x.2.2.2.2.2)).2 = 0 := by
  unfold evChk at h
  split at h
  · cases h
  split at h
  · cases h
  split at h
  · cases h
  rename_i c1 c2 c3
  split at h
  · cases h
  rename_i r hr
  split at h
  · cases h
  split at h
  · cases h
  split at h
  · cases h
  split at h
  · cases h
  rename_i c6 c7
  obtain ⟨h1, h2⟩ := rowsE_zero _ _ h
  exact ⟨by omega, by omega, by omega, by omega, by omega, h1, r, hr, h2⟩

def ordB (p : Option Ev) (x : Ev) : Bool := match p with
  | some q => decide (lessE q x)
  | none => true
def evRnd (rs : List Reg) (last : Int) (pre : List Ev) (x : Ev) : Int :=
  if evChk x rs ≠ 0 then evChk x rs else if last < x.1 then 2 else if ordB pre.getLast? x = false then 8 else if hasE pre x.1 then 7 else 0
def evsChk (d : Doc) : Int := errL (evRnd d.2.2.2.2.2.1 d.2.2.2.2.1) [] d.2.2.2.2.2.2.1
theorem evRnd_ok {rs : List Reg} {last : Int} {pre : List Ev} {x : Ev} (h : evRnd rs last pre x = 0) : evChk x rs = 0 ∧ x.1 ≤ last ∧ ordB pre.getLast? x = true ∧ ¬ hasE pre x.1 := by
  unfold evRnd at h
  split at h
  · rename_i hc; exact absurd h hc
  rename_i c1
  split at h
  · cases h
  rename_i c2
  split at h
  · cases h
  rename_i c3
  split at h
  · cases h
  rename_i c4
  exact ⟨by simpa using c1, by omega, by simpa using c3, c4⟩
theorem last_take {α : Type} {l : List α} {i : Nat} (h : i < l.length) : (l.take (i + 1)).getLast? = some l[i] := by
  rw [List.take_succ_eq_append_getElem h, List.getLast?_concat]
end
end Go.Mo
end

section
/-
  Plain facts: the comments of a document, on both sides.
-/
namespace Go.Mo
open Go Go.W Go.Lib
set_option maxRecDepth 100000
noncomputable section

theorem jn_u {α : Type} {K : Unit → Option α} {X : Option α} (h : K () = X) (T : (Unit → Option α) → Option α) : jn K T = T fun _ => X := by
  rw [jn_e, show K = fun _ => X from funext fun _ => h]
def cOrd (p : Option Cmt) (c : Cmt) : Bool := match p with
  | some q => decide (q.1 < c.1)
  | none => true
def evZ : Ev := (0, (0, 0), [], 0, [], [])
def evAt (l : List Ev) (k : Int) : Ev := lget l (toN (findE 0 l k)) evZ
def ancE (d : Doc) (c : Cmt) : Int :=
  if c.2.1 < 1 then 2 else if d.2.2.2.2.1 < c.2.1 then 2 else
  if c.2.2.2.2.2.2.2 = true then (if c.2.2.1 ≠ 0 then 2 else if c.2.2.2.1 ≠ 0 then 2 else 0) else
  if ¬ hasE d.2.2.2.2.2.2.1 c.2.1 then 6 else if c.2.2.1 < 0 then 2 else if c.2.2.2.1 ≤ c.2.2.1 then 2 else
  if evLen (evAt d.2.2.2.2.2.2.1 c.2.1) < c.2.2.2.1 then 2 else 0
def endE (c : Cmt) : Int := if nm c.2.2.2.2.1 = false then 5 else if vld c.2.2.2.2.2.1 = false then 10 else if c.2.2.2.2.2.1 = [] then 4 else if 400 < c.2.2.2.2.2.1.length then 9 else 0
def tailE (d : Doc) (c : Cmt) : Int := if ancE d c ≠ 0 then ancE d c else endE c
def cmtRnd (d : Doc) (pre : List Cmt) (c : Cmt) : Int :=
  if c.1 < 1 then 2 else if d.2.2.2.2.1 < c.1 then 2 else if cOrd pre.getLast? c = false then 8 else if hasE d.2.2.2.2.2.2.1 c.1 then 7 else tailE d c
def cmtsChk (d : Doc) : Int := if 64 < d.2.2.2.2.2.2.2.length then 9 else errL (cmtRnd d) [] d.2.2.2.2.2.2.2
/-- the events are good, the texts of comments not too long -/
def goodD (d : Doc) : Prop := (∀ x ∈ d.2.2.2.2.2.2.1, (∀ r ∈ x.2.2.2.2.2, okR r) ∧ x.2.2.2.2.2.length ≤ 4) ∧ d.2.2.2.2.2.2.1.length ≤ 400 ∧ ∀ c ∈ d.2.2.2.2.2.2.2, c.2.2.2.2.2.1.length ≤ 4000000
theorem evAt_lenS {d : Doc} (hg : goodD d) {k : Int} (h : hasE d.2.2.2.2.2.2.1 k) : inb (findE 0 d.2.2.2.2.2.2.1 k) (len d.2.2.2.2.2.2.1) = true ∧ 0 ≤ findE 0 d.2.2.2.2.2.2.1 k ∧ event_Len fuelH (evAt d.2.2.2.2.2.2.1 k) = some (evLen (evAt d.2.2.2.2.2.2.1 k)) := by
  obtain ⟨j, hj, e1, e2, e3⟩ := findE_yes _ 0 k h
  have he : evAt d.2.2.2.2.2.2.1 k = d.2.2.2.2.2.2.1[j] := by
    unfold evAt
    rw [e1, Nat.zero_add, lget_i hj]
  obtain ⟨h1, h2⟩ := hg.1 _ (List.getElem_mem hj)
  rw [he]
  refine ⟨by rw [e1]; exact inb_t (by simp only [len]; omega), by omega, event_len_eq h1 (by omega)⟩
theorem anchored_eq {d : Doc} (hg : goodD d) (c : Cmt) : document_anchored fuelH (d, c, mapE 0 d.2.2.2.2.2.2.1) = some (ancE d c, mapE 0 d.2.2.2.2.2.2.1) := by
  unfold document_anchored ancE
  simp only
  rw [cnd_ilt]
  by_cases c1 : c.2.1 < 1
  · rw [if_pos c1, if_pos c1]
  rw [if_neg c1, if_neg c1, cnd_ilt]
  by_cases c2 : d.2.2.2.2.1 < c.2.1
  · rw [if_pos c2, if_pos c2]
  rw [if_neg c2, if_neg c2]
  by_cases c3 : c.2.2.2.2.2.2.2 = true
  · rw [cnd_t c3, if_pos c3, cnd_ine, cnd_ine]
    by_cases c4 : c.2.2.1 ≠ 0
    · rw [if_pos c4, if_pos c4]
    rw [if_neg c4, if_neg c4]
    by_cases c5 : c.2.2.2.1 ≠ 0
    · rw [if_pos c5, if_pos c5]
    · rw [if_neg c5, if_neg c5]
  · rw [cnd_f (by simpa using c3), if_neg c3, mhas_mapE, cnd_bnot]
    by_cases c4 : hasE d.2.2.2.2.2.2.1 c.2.1
    · rw [if_pos c4, if_neg (not_not_intro c4), cnd_ilt]
      by_cases c5 : c.2.2.1 < 0
      · rw [if_pos c5, if_pos c5]
      rw [if_neg c5, if_neg c5, cnd_ile]
      by_cases c6 : c.2.2.2.1 ≤ c.2.2.1
      · rw [if_pos c6, if_pos c6]
      obtain ⟨q1, q2, q3⟩ := evAt_lenS hg c4
      have hm : mget ieq (0 : Int) (mapE 0 d.2.2.2.2.2.2.1) c.2.1 = findE 0 d.2.2.2.2.2.2.1 c.2.1 := mget_mapE _ _ _ c4
      rw [if_neg c6, if_neg c6, hm, grd_t q1]
      refine Eq.trans (bnd_s (show event_Len fuelH (lget d.2.2.2.2.2.2.1 (toN (findE 0 d.2.2.2.2.2.2.1 c.2.1)) evZ) = _ from q3)) ?_
      rw [cnd_ilt]
      by_cases c7 : evLen (evAt d.2.2.2.2.2.2.1 c.2.1) < c.2.2.2.1
      · rw [if_pos c7, if_pos c7]
      · rw [if_neg c7, if_neg c7]
    · rw [if_neg c4, if_pos c4]
theorem comments_eq {d : Doc} (hg : goodD d) : document_comments fuelH (d, mapE 0 d.2.2.2.2.2.2.1) = some (cmtsChk d, mapE 0 d.2.2.2.2.2.2.1) := by
  unfold document_comments cmtsChk
  simp only
  by_cases h : 64 < d.2.2.2.2.2.2.2.length
  · rw [cnd_t (ilt_t (by simp only [len]; omega)), if_pos h]
  rw [cnd_f (ilt_f (by simp only [len]; omega)), if_neg h, jn_e]
  have hanc := fun c => anchored_eq hg c
  have hvl := hg.2.2
  generalize hm : mapE 0 d.2.2.2.2.2.2.1 = m at hanc ⊢
  have hmh : ∀ k, mhas ieq m k = decide (hasE d.2.2.2.2.2.2.1 k) := fun k => by rw [← hm]; exact mhas_mapE _ _ _
  generalize hl : d.2.2.2.2.2.2.2 = l at h hvl ⊢
  refine Eq.trans (loop_err (l := l) (fun (_ : Unit) (p : Nat) => ((p : Int), m)) (fun _ => ()) (cmtRnd d) (fun e => (e, m)) (some (0, m)) (fun self i hi => ?_) (fun _ self => ?_) fuelH 0 (Nat.zero_le _) (by have := fuelH_eq; omega) (fun j _ hj => by omega)) ?_
  · have hin : inb (i : Int) (len l) = true := inb_t (by simp only [len]; omega)
    have hv := hvl _ (List.getElem_mem hi)
    simp only
    rw [cnd_t (ilt_t (by simp only [len]; omega)), grd_t hin, lget_i hi]
    refine Eq.trans (jn_u (X := if tailE d l[i] ≠ 0 then some (tailE d l[i], m) else self (((i + 1 : Nat) : Int), m)) ?_ _) ?_
    · skip
      rw [hanc, bnd_some']
      unfold tailE
      by_cases c1 : ancE d l[i] ≠ 0
      · rw [if_pos c1, if_pos c1, cnd_t (ine_t c1)]
      · rw [if_neg c1, cnd_f (ine_f (by simpa using c1)), lines_name, bnd_some']
        unfold endE
        by_cases c2 : nm l[i].2.2.2.2.1 = false
        · rw [cnd_t (by rw [c2]; rfl), if_pos c2, if_pos (by decide)]
        rw [cnd_f (by rw [← Bool.not_eq_true, bnot_t]; exact c2), if_neg c2, ch_valid _ hv, bnd_some']
        by_cases c3 : vld l[i].2.2.2.2.2.1 = false
        · rw [cnd_t (by rw [c3]; rfl), if_pos c3, if_pos (by decide)]
        rw [cnd_f (by rw [← Bool.not_eq_true, bnot_t]; exact c3), if_neg c3]
        by_cases c4 : l[i].2.2.2.2.2.1 = []
        · rw [cnd_t (by rw [seq_t]; exact c4), if_pos c4, if_pos (by decide)]
        rw [cnd_f (by rw [← Bool.not_eq_true, seq_t]; exact c4), if_neg c4]
        by_cases c5 : 400 < l[i].2.2.2.2.2.1.length
        · rw [cnd_t (ilt_t (by simp only [len]; omega)), if_pos c5, if_pos (by decide)]
        · rw [cnd_f (ilt_f (by simp only [len]; omega)), if_neg c5, if_neg (by decide), w64_succ hi (by omega)]
    · simp only
      rw [cnd_ilt, cnd_ilt]
      unfold cmtRnd
      by_cases c1 : l[i].1 < 1
      · rw [if_pos c1, if_pos c1, if_pos (by decide)]
      rw [if_neg c1, if_neg c1]
      by_cases c2 : d.2.2.2.2.1 < l[i].1
      · rw [if_pos c2, if_pos c2, if_pos (by decide)]
      rw [if_neg c2, if_neg c2, hmh]
      cases i with
      | zero =>
        rw [cnd_f (by rfl)]
        have e0 : cOrd (l.take 0).getLast? l[0] = true := rfl
        rw [e0, if_neg (show ¬ true = false by decide), cnd_dec]
        by_cases c3 : hasE d.2.2.2.2.2.2.1 l[0].1
        · rw [if_pos c3, if_pos c3, if_pos (by decide)]
        · rw [if_neg c3, if_neg c3]
      | succ i =>
        rw [cnd_t (ilt_t (by omega)), w64_back (by omega), grd_t (inb_t (by simp only [len]; omega)), lget_i (show i < l.length by omega), cnd_ile, cnd_dec]
        have e0 : cOrd (l.take (i + 1)).getLast? l[i + 1] = decide (l[i].1 < l[i + 1].1) := by rw [last_take (show i < l.length by omega)]; rfl
        rw [e0]
        by_cases c4 : l[i + 1].1 ≤ l[i].1
        · rw [if_pos c4, decide_eq_false (by omega), if_pos rfl, if_pos (by decide)]
        rw [if_neg c4, decide_eq_true (by omega), if_neg (show ¬ true = false by decide)]
        by_cases c3 : hasE d.2.2.2.2.2.2.1 l[i + 1].1
        · rw [if_pos c3, if_pos c3, if_pos (by decide)]
        · rw [if_neg c3, if_neg c3]
  · simp only
    rw [cnd_f (ilt_f (by simp only [len]; omega))]
  · rw [List.take_zero, List.drop_zero]
    by_cases hc : errL (cmtRnd d) [] l ≠ 0
    · rw [if_pos hc]
    · rw [if_neg hc]
      have hc : errL (cmtRnd d) [] l = 0 := by simpa using hc
      rw [hc]
end
end Go.Mo
end

section
/-
  Plain facts: the check of a document is the specified one.
-/
namespace Go.Mo
open Go Go.W Go.Lib
set_option maxRecDepth 100000
noncomputable section

def docChk (d : Doc) : Int :=
  if headChk d ≠ 0 then headChk d else if regsChk d.2.2.2.2.2.1 ≠ 0 then regsChk d.2.2.2.2.2.1 else
  if 400 < d.2.2.2.2.2.2.1.length then 9 else if evsChk d ≠ 0 then evsChk d else cmtsChk d
def smallD (d : Doc) : Prop := d.1.length ≤ 4000000 ∧ d.2.2.2.2.2.1.length ≤ 4000000 ∧ (∀ x ∈ d.2.2.2.2.2.2.1, smallL x.2.2.2.2.2) ∧ ∀ c ∈ d.2.2.2.2.2.2.2, c.2.2.2.2.2.1.length ≤ 4000000
theorem good_of {d : Doc} (hs : smallD d) (hn : d.2.2.2.2.2.2.1.length ≤ 400) (h : ∀ j (h : j < d.2.2.2.2.2.2.1.length), evRnd d.2.2.2.2.2.1 d.2.2.2.2.1 (d.2.2.2.2.2.2.1.take j) d.2.2.2.2.2.2.1[j] = 0) : goodD d := by
  refine ⟨fun x hx => ?_, hn, hs.2.2.2⟩
  obtain ⟨j, hj, rfl⟩ := List.mem_iff_getElem.1 hx
  obtain ⟨h1, _⟩ := evRnd_ok (h j hj)
  obtain ⟨_, _, _, _, h4, h5, _⟩ := ev_ok h1
  exact ⟨fun r hr => rowE_ok (hs.2.2.1 _ hx r hr) (h5 r hr), h4⟩
theorem mput_take {l : List Ev} {i : Nat} (hi : i < l.length) (hn : ¬ hasE (l.take i) l[i].1) : mput ieq (mapE 0 (l.take i)) l[i].1 (i : Int) = mapE 0 (l.take (i + 1)) := by
  rw [mput_new _ (by rw [mhas_mapE, decide_eq_false hn]), List.take_succ_eq_append_getElem hi, mapE_app]
  have : (l.take i).length = i := by rw [List.length_take]; omega
  rw [this, Nat.zero_add]
  rfl
theorem document_check {d : Doc} (hs : smallD d) : document_Check fuelH d = some (docChk d) := by
  unfold document_Check docChk
  rw [bnd_s (header_eq hs.1)]
  by_cases c1 : headChk d ≠ 0
  · rw [cnd_t (ine_t c1), if_pos c1]
  rw [cnd_f (ine_f (by simpa using c1)), if_neg c1, bnd_s (region_list _)]
  by_cases c2 : regsChk d.2.2.2.2.2.1 ≠ 0
  · rw [cnd_t (ine_t c2), if_pos c2]
  rw [cnd_f (ine_f (by simpa using c2)), if_neg c2]
  by_cases c3 : 400 < d.2.2.2.2.2.2.1.length
  · rw [cnd_t (ilt_t (by simp only [len]; omega)), if_pos c3]
  rw [cnd_f (ilt_f (by simp only [len]; omega)), if_neg c3, jn_e]
  have hgood := @good_of d hs (by omega)
  have hcm := @comments_eq d
  unfold evsChk
  have hev := hs.2.2.1
  generalize hl : d.2.2.2.2.2.2.1 = l at c3 hgood hcm hev ⊢
  refine Eq.trans (loop_err (l := l) (fun (a : List (Int × Int)) (p : Nat) => ((p : Int), a)) (fun pre => mapE 0 pre) (evRnd d.2.2.2.2.2.1 d.2.2.2.2.1) (fun e => e) (some (cmtsChk d)) (fun self i hi => ?_) (fun hz self => ?_) fuelH 0 (Nat.zero_le _) (by have := fuelH_eq; omega) (fun j _ hj => by omega)) ?_
  · have hin : inb (i : Int) (len l) = true := inb_t (by simp only [len]; omega)
    have hx := hev _ (List.getElem_mem hi)
    simp only
    rw [cnd_t (ilt_t (by simp only [len]; omega)), grd_t hin, lget_i hi, bnd_s (event_check_eq hx hs.2.1), cnd_ilt, w64_succ hi (by omega)]
    unfold evRnd
    by_cases e1 : evChk l[i] d.2.2.2.2.2.1 ≠ 0
    · rw [if_pos e1, if_pos e1, cnd_t (ine_t e1)]
    rw [if_neg e1, cnd_f (ine_f (by simpa using e1))]
    by_cases e2 : d.2.2.2.2.1 < l[i].1
    · rw [if_pos e2, if_pos e2, if_pos (by decide)]
    rw [if_neg e2, if_neg e2]
    have hput := fun h => mput_take hi h
    cases i with
    | zero =>
      rw [cnd_f (by rfl), mhas_mapE, cnd_dec]
      have e0 : ordB (l.take 0).getLast? l[0] = true := rfl
      rw [e0, if_neg (show ¬ true = false by decide)]
      by_cases e3 : hasE (l.take 0) l[0].1
      · rw [if_pos e3, if_pos e3, if_pos (by decide)]
      · rw [if_neg e3, if_neg e3, hput e3, if_neg (by decide)]
    | succ i =>
      rw [cnd_t (ilt_t (by omega)), w64_back (by omega), grd_t (inb_t (by simp only [len]; omega)), lget_i (show i < l.length by omega), bnd_s (event_less _ _), mhas_mapE, cnd_dec, cnd_bnot]
      have e0 : ordB (l.take (i + 1)).getLast? l[i + 1] = decide (lessE l[i] l[i + 1]) := by rw [last_take (show i < l.length by omega)]; rfl
      rw [e0]
      by_cases e4 : lessE l[i] l[i + 1]
      · rw [if_pos e4, decide_eq_true e4, if_neg (show ¬ true = false by decide)]
        by_cases e3 : hasE (l.take (i + 1)) l[i + 1].1
        · rw [if_pos e3, if_pos e3, if_pos (by decide)]
        · rw [if_neg e3, if_neg e3, hput e3, if_neg (by decide)]
      · rw [if_neg e4, decide_eq_false e4, if_pos rfl, if_pos (by decide)]
  · simp only
    rw [cnd_f (ilt_f (by simp only [len]; omega)), bnd_s (hcm (hgood hz))]
  · rw [List.take_zero, List.drop_zero]
    split <;> rfl
end
end Go.Mo
end

section
/-
  Plain facts: the place of a good event, and its region.
-/
namespace Go.Mo
open Go Go.W Go.Lib
set_option maxRecDepth 100000
noncomputable section

theorem lens_loop {l : List Int} (hl : l.length ≤ 1000000) (h0 : ∀ n ∈ l, 0 ≤ n) (K : Option (List Spot × Int)) : fixN (fun (v5 : Int → Option (List Spot × Int)) (v6 : Int) =>
      cnd (ilt v6 (len l))
        (grd (inb v6 (len l))
          (cnd (ilt (lget l (toN v6) (0 : Int)) (0 : Int))
            (some (([] : List Spot), (10 : Int)))
            (v5 (w64 (iadd v6 (1 : Int))))))
        K) fuelH (0 : Int) = K := by
  refine loop_inv (n := l.length) (fun (_ : Unit) (i : Nat) => (i : Int)) (fun _ _ => True) _ (fun self a i hi _ => ⟨(), ?_, trivial⟩) (fun self a _ => ?_) fuelH 0 () (Nat.zero_le _) (by have := fuelH_eq; omega) trivial
  · have := h0 _ (List.getElem_mem hi)
    rw [cnd_t (ilt_t (by simp only [len]; omega)), grd_t (inb_t (by simp only [len]; omega)), lget_i hi, cnd_f (ilt_f (by omega)), w64_succ hi (by omega)]
  · rw [cnd_f (ilt_f (by simp only [len]; omega))]
theorem lens_pos (l : List Row) : ∀ n ∈ lens l, 0 ≤ n := by
  intro n hn
  obtain ⟨r, _, rfl⟩ := List.mem_map.1 hn
  omega
theorem spots_eq {x : Ev} {rs : List Reg} {r : Reg} (hrs : rs.length ≤ 4000000) (h : ∀ l ∈ x.2.2.2.2.2, okR l) (hl : x.2.2.2.2.2.length ≤ 1000) (hf : findR rs x.2.2.1 = some r) : event_Spots fuelH (x, rs) = some (placeS r (lens x.2.2.2.2.2)) := by
  unfold event_Spots
  simp only
  rw [region_find _ hrs, bnd_some']
  unfold findP
  rw [hf]
  simp only
  rw [cnd_f (by rfl), event_lens_eq h (by omega), bnd_some', jn_e, lens_loop (by unfold lens; rw [List.length_map]; omega) (lens_pos _), region_place]
  rfl
theorem placeL_ok (r : Reg) (k : Nat) : ∀ (l : List Int) (i : Nat) (out : List Spot), (placeL r k i l out).2 = 0 → ∃ t, (placeL r k i l out).1 = out ++ t ∧ t.length = l.length ∧ ∀ n l', l = n :: l' → t[0]? = some (topOf r k + (i : Int), colOf r n, n)
  | [], i, out, _ => ⟨[], by simp [placeL], rfl, fun n l' h => by cases h⟩
  | n :: l, i, out, h => by
    simp only [placeL] at h ⊢
    by_cases h1 : n < 0
    · rw [if_pos h1] at h; cases h
    rw [if_neg h1] at h ⊢
    by_cases h2 : r.2.2.2.2.1 < n
    · rw [if_pos h2] at h; cases h
    rw [if_neg h2] at h ⊢
    obtain ⟨t, e1, e2, _⟩ := placeL_ok r k l (i + 1) _ h
    refine ⟨(topOf r k + (i : Int), colOf r n, n) :: t, by rw [e1]; simp, by simp [e2], fun m l' e => ?_⟩
    injection e with e3 e4
    subst e3
    rfl
theorem placeS_ok {r : Reg} {l : List Int} (h : (placeS r l).2 = 0) (hl : l ≠ []) : usableR r ∧ (l.length : Int) ≤ r.2.2.1 ∧ ∃ s t, (placeS r l).1 = s :: t ∧ s.1 = topOf r l.length ∧ t.length + 1 = l.length := by
  unfold placeS at h ⊢
  by_cases hu : usableR r
  · rw [if_neg (not_not_intro hu)] at h ⊢
    by_cases hk : r.2.2.1 < (l.length : Int)
    · rw [if_pos hk] at h; cases h
    rw [if_neg hk] at h ⊢
    refine ⟨hu, by omega, ?_⟩
    cases l with
    | nil => exact absurd rfl hl
    | cons n l' =>
      obtain ⟨t, e1, e2, e3⟩ := placeL_ok r _ _ _ _ h
      have e4 := e3 n l' rfl
      cases t with
      | nil => cases e2
      | cons s t =>
        refine ⟨s, t, by simpa using e1, ?_, by simpa using e2⟩
        simp only [List.getElem?_cons_zero, Option.some.injEq] at e4
        rw [e4]
        simp
  · rw [if_pos hu] at h; cases h
/-- the grid row where a good event begins, and its alignment -/
def placeE (x : Ev) (rs : List Reg) : Int × UInt8 := match findR rs x.2.2.1 with
  | some r => (topOf r x.2.2.2.2.2.length, r.2.2.2.2.2.1)
  | none => (0, 0)
theorem place_bd {x : Ev} {rs : List Reg} (h : evChk x rs = 0) : 0 ≤ (placeE x rs).1 ∧ (placeE x rs).1 ≤ 14 ∧ 1 ≤ n8 (placeE x rs).2 ∧ n8 (placeE x rs).2 ≤ 3 := by
  obtain ⟨_, _, _, h4, h5, _, r, hf, hp⟩ := ev_ok h
  have hne : lens x.2.2.2.2.2 ≠ [] := by
    unfold lens; intro e; have := congrArg List.length e; rw [List.length_map] at this; simp only [List.length_nil] at this; omega
  obtain ⟨hu, hk, _⟩ := placeS_ok hp hne
  have hb := usable_bd hu
  have hll : (lens x.2.2.2.2.2).length = x.2.2.2.2.2.length := by unfold lens; rw [List.length_map]
  rw [hll] at hk
  unfold placeE
  rw [hf]
  unfold topOf
  simp only
  split <;> omega
theorem placed_stl {d : Doc} {x : Ev} (hs : smallL x.2.2.2.2.2) (hrs : d.2.2.2.2.2.1.length ≤ 4000000) (h : evChk x d.2.2.2.2.2.1 = 0) : stl_placed fuelH (d, x) = some (placeE x d.2.2.2.2.2.1) := by
  obtain ⟨_, _, _, h4, h5, h6, r, hf, hp⟩ := ev_ok h
  have hok : ∀ l ∈ x.2.2.2.2.2, okR l := fun l hl => rowE_ok (hs l hl) (h6 l hl)
  have hne : lens x.2.2.2.2.2 ≠ [] := by
    unfold lens; intro e; have := congrArg List.length e; rw [List.length_map] at this; simp only [List.length_nil] at this; omega
  obtain ⟨hu, hk, s, t, e1, e2, e3⟩ := placeS_ok hp hne
  have hll : (lens x.2.2.2.2.2).length = x.2.2.2.2.2.length := by unfold lens; rw [List.length_map]
  rw [hll] at e2
  have hE : placeE x d.2.2.2.2.2.1 = (s.1, r.2.2.2.2.2.1) := by unfold placeE; rw [hf, e2]
  have hF : region_Find fuelH (d.2.2.2.2.2.1, x.2.2.1) = some (r, true) := by rw [region_find _ hrs]; unfold findP; rw [hf]
  unfold stl_placed
  simp only
  rw [spots_eq hrs hok (by omega) hf, bnd_some', hF, bnd_some', e1, grd_t (inb_t (by simp only [len, List.length_cons]; omega)), hE]
  rfl
def letR (a : UInt8) : UInt8 := if a = 1 then 76 else if a = 2 then 67 else 82
def regOf (p : Int × UInt8) : Reg := ([82, b8 (48 + p.1 / 10), b8 (48 + p.1 % 10), letR p.2], p.1, 15 - p.1, 0, 32, p.2, false)
def regB (x : Option Reg) (r : Reg) : Bool := match x with
  | some y => seq y.1 r.1 && (ieq y.2.1 r.2.1 && (ieq y.2.2.1 r.2.2.1 && (ieq y.2.2.2.1 r.2.2.2.1 && (ieq y.2.2.2.2.1 r.2.2.2.2.1 && (ieq (n8 y.2.2.2.2.2.1) (n8 r.2.2.2.2.2.1) && beqb y.2.2.2.2.2.2 r.2.2.2.2.2.2)))))
  | none => false
theorem regB_t {x : Option Reg} {r : Reg} (h : regB x r = true) : x = some r := by
  cases x with
  | none => cases h
  | some y =>
    simp only [regB, Bool.and_eq_true, seq_t, ieq_tt, beqb_t, n8_eq] at h
    rw [← reg_eq] at h
    rw [h]
theorem okP_mem0 {p : Int × UInt8} (h : 0 ≤ p.1 ∧ p.1 ≤ 14 ∧ 1 ≤ n8 p.2 ∧ n8 p.2 ≤ 3) : ∃ n ∈ List.range 15, ∃ a ∈ ([1, 2, 3] : List UInt8), p = ((n : Int), a) := by
  obtain ⟨n, a⟩ := p
  obtain ⟨h1, h2, h3, h4⟩ := h
  simp only at h1 h2 h3 h4
  have hn : (n.toNat : Int) = n := by omega
  have ha : a ∈ ([1, 2, 3] : List UInt8) := by
    have e1 : n8 (1 : UInt8) = 1 := rfl
    have e2 : n8 (2 : UInt8) = 2 := rfl
    have e3 : n8 (3 : UInt8) = 3 := rfl
    have : n8 a = n8 (1 : UInt8) ∨ n8 a = n8 (2 : UInt8) ∨ n8 a = n8 (3 : UInt8) := by omega
    rcases this with e | e | e <;> rw [n8_inj e] <;> simp
  exact ⟨n.toNat, List.mem_range.2 (by omega), a, ha, by rw [hn]⟩
theorem regOf_tabS : ((List.range 15).all fun n => ([1, 2, 3] : List UInt8).all fun a => regB (stl_place_region fuelH ((n : Int), a)) (regOf ((n : Int), a))) = true := by kernel_rfl
theorem regOf_stl {p : Int × UInt8} (h : 0 ≤ p.1 ∧ p.1 ≤ 14 ∧ 1 ≤ n8 p.2 ∧ n8 p.2 ≤ 3) : stl_place_region fuelH p = some (regOf p) := by
  obtain ⟨n, hn, a, ha, rfl⟩ := okP_mem0 h
  exact regB_t (List.all_eq_true.1 (List.all_eq_true.1 regOf_tabS n hn) a ha)
end
end Go.Mo
end

section
/-
  Plain facts: regions in the order of their names; rows without ruby.
-/
namespace Go.Mo
open Go Go.W Go.Lib
set_option maxRecDepth 100000
noncomputable section

theorem slt_cons (a b : UInt8) (x y : List UInt8) : slt (a :: x) (b :: y) = true ↔ a.toNat < b.toNat ∨ (a = b ∧ slt x y = true) := by
  show (decide (a < b) || (a == b && Op.bytesLess x y)) = true ↔ _
  rw [Bool.or_eq_true, Bool.and_eq_true, decide_eq_true_eq, beq_iff_eq, UInt8.lt_iff_toNat_lt]
  rfl
theorem slt_irr : ∀ x : List UInt8, slt x x = false
  | [] => rfl
  | a :: x => by
    rw [← Bool.not_eq_true, slt_cons]
    rintro (h | h)
    · omega
    · rw [slt_irr x] at h; cases h.2
theorem slt_tr : ∀ x y z : List UInt8, slt x y = true → slt y z = true → slt x z = true
  | x, [], z, h, _ => by cases x <;> cases h
  | x, b :: y, [], _, h => by cases h
  | [], b :: y, c :: z, _, _ => rfl
  | a :: x, b :: y, c :: z, h1, h2 => by
    rw [slt_cons] at h1 h2 ⊢
    rcases h1 with h1 | ⟨rfl, h1⟩
    · rcases h2 with h2 | ⟨rfl, h2⟩
      · exact .inl (by omega)
      · exact .inl h1
    · rcases h2 with h2 | ⟨rfl, h2⟩
      · exact .inl h2
      · exact .inr ⟨rfl, slt_tr x y z h1 h2⟩
theorem slt_tri : ∀ x y : List UInt8, slt x y = false → x ≠ y → slt y x = true
  | [], [], _, h => absurd rfl h
  | [], b :: y, h, _ => by cases h
  | a :: x, [], _, _ => rfl
  | a :: x, b :: y, h, hne => by
    rw [← Bool.not_eq_true, slt_cons] at h
    rw [slt_cons]
    by_cases h1 : b.toNat < a.toNat
    · exact .inl h1
    · have e : a = b := UInt8.toNat_inj.1 (by
        have : ¬ a.toNat < b.toNat := fun h2 => h (.inl h2)
        omega)
      subst e
      refine .inr ⟨rfl, slt_tri x y ?_ fun e => hne (by rw [e])⟩
      rw [← Bool.not_eq_true]
      exact fun h2 => h (.inr ⟨rfl, h2⟩)

def addS : List Reg → Reg → List Reg
  | [], r => [r]
  | x :: l, r => if slt x.1 r.1 = true then x :: addS l r else if x.1 = r.1 then x :: l else r :: x :: l
theorem addS_len (l : List Reg) (r : Reg) : (addS l r).length ≤ l.length + 1 := by
  induction l with
  | nil => simp [addS]
  | cons x l ih =>
    simp only [addS]
    split
    · simp only [List.length_cons]; omega
    · split <;> simp
/-- what the program's loop has found at place k: all ahead are less -/
theorem addS_at : ∀ (l : List Reg) (r : Reg) (k : Nat), k ≤ l.length → (∀ x ∈ l.take k, slt x.1 r.1 = true) → addS l r = l.take k ++ addS (l.drop k) r
  | l, r, 0, _, _ => rfl
  | [], r, k + 1, h, _ => by simp at h
  | x :: l, r, k + 1, h, hk => by
    simp only [addS, List.take_succ_cons, List.drop_succ_cons, List.cons_append]
    rw [if_pos (hk x (by simp)), addS_at l r k (by simpa using h) fun y hy => hk y (by simp [hy])]
theorem stl_add_eq {l : List Reg} (r : Reg) (hl : l.length ≤ 1000000) : stl_add fuelH (l, r) = some (addS l r) := by
  unfold stl_add
  simp only
  rw [jn_e]
  have hbody : ∀ k : Nat, k ≤ l.length → (∀ x ∈ l.take k, slt x.1 r.1 = true) → (∀ h : k < l.length, slt l[k].1 r.1 = false) →
    (jn (fun (_ : Unit) =>
      grd (in2 (k : Int) (len l)) <|
      grd (room (iadd (len ([] : List Reg)) (len (ltake (toN (k : Int)) l))) 56) <|
      grd (room (iadd (len (lapp ([] : List Reg) (ltake (toN (k : Int)) l))) (len ([r] : List Reg))) 56) <|
      grd (in2 (k : Int) (len l)) <|
      grd (room (iadd (len (lapp (lapp ([] : List Reg) (ltake (toN (k : Int)) l)) ([r] : List Reg))) (len (ldrop (toN (k : Int)) l))) 56) <|
      some (lapp (lapp (lapp ([] : List Reg) (ltake (toN (k : Int)) l)) ([r] : List Reg)) (ldrop (toN (k : Int)) l)))
    fun v2 =>
    cnd (ilt (k : Int) (len l))
      (grd (inb (k : Int) (len l))
        (cnd (seq (lget l (toN (k : Int)) ([], ((0 : Int), ((0 : Int), ((0 : Int), ((0 : Int), ((0 : UInt8), false))))))).1 r.1)
          (some l)
          (v2 ())))
      (v2 ())) = some (addS l r) := by
    intro k hk hlt hge
    have htl : (l.take k).length = k := by rw [List.length_take]; omega
    have hdl : (l.drop k).length = l.length - k := List.length_drop
    have hin : in2 (k : Int) (len l) = true := in2_t (by simp only [len]; omega)
    refine Eq.trans (jn_u (X := some (l.take k ++ r :: l.drop k)) ?_ _) ?_
    · have e1 : ltake (toN (k : Int)) l = l.take k := by simp [ltake, toN]
      have e2 : ldrop (toN (k : Int)) l = l.drop k := by simp [ldrop, toN]
      rw [e1, e2, grd_t hin, grd_t (room_t (by simp only [iadd, len, List.length_nil]; omega)), grd_t (room_t (by simp only [iadd, len, lapp, List.length_append, List.length_nil, List.length_singleton]; omega)), grd_t hin, grd_t (room_t (by simp only [iadd, len, lapp, List.length_append, List.length_nil, List.length_singleton]; omega))]
      simp [lapp]
    · simp only
      by_cases hc : k < l.length
      · have hd := List.drop_eq_getElem_cons hc
        rw [cnd_t (ilt_t (by simp only [len]; omega)), grd_t (inb_t (by simp only [len]; omega)), lget_i hc, addS_at l r k hk hlt, hd]
        simp only [addS]
        rw [if_neg (by rw [hge hc]; decide)]
        by_cases he : l[k].1 = r.1
        · rw [cnd_t (by rw [seq_t]; exact he), if_pos he, ← hd, List.take_append_drop]
        · rw [cnd_f (by rw [← Bool.not_eq_true, seq_t]; exact he), if_neg he]
      · rw [cnd_f (ilt_f (by simp only [len]; omega)), addS_at l r k hk hlt]
        have : l.drop k = [] := List.drop_eq_nil_of_le (by omega)
        rw [this]
        rfl
  have hloop : ∀ (fuel k : Nat), l.length - k < fuel → k ≤ l.length → (∀ x ∈ l.take k, slt x.1 r.1 = true) → ∀ K : Int → Option (List Reg), (∀ k : Nat, k ≤ l.length → (∀ x ∈ l.take k, slt x.1 r.1 = true) → (∀ h : k < l.length, slt l[k].1 r.1 = false) → K (k : Int) = some (addS l r)) →
    fixN (fun (v4 : Int → Option (List Reg)) (v5 : Int) =>
    cnd (ilt v5 (len l))
      (grd (inb v5 (len l))
        (cnd (slt (lget l (toN v5) ([], ((0 : Int), ((0 : Int), ((0 : Int), ((0 : Int), ((0 : UInt8), false))))))).1 r.1)
          (v4 (w64 (iadd v5 (1 : Int))))
          (K v5)))
      (K v5)) fuel (k : Int) = some (addS l r) := by
    intro fuel
    induction fuel with
    | zero => intro k h; omega
    | succ fuel ih =>
      intro k h hk hlt K hK
      rw [fixN_s]
      by_cases hc : k < l.length
      · rw [cnd_t (ilt_t (by simp only [len]; omega)), grd_t (inb_t (by simp only [len]; omega)), lget_i hc, w64_succ hc (by omega)]
        by_cases hs : slt l[k].1 r.1 = true
        · rw [cnd_t hs]
          refine ih (k + 1) (by omega) (by omega) (fun x hx => ?_) K hK
          rw [List.take_succ_eq_append_getElem hc] at hx
          rcases List.mem_append.1 hx with hx | hx
          · exact hlt x hx
          · rw [List.mem_singleton.1 hx]; exact hs
        · rw [cnd_f (by simpa using hs)]
          exact hK k hk hlt fun _ => by simpa using hs
      · rw [cnd_f (ilt_f (by simp only [len]; omega))]
        exact hK k hk hlt fun h => absurd h hc
  exact hloop fuelH 0 (by have := fuelH_eq; omega) (Nat.zero_le _) (fun x hx => by cases hx) _ hbody
end
end Go.Mo
end

section
/-
  Plain facts: the reference's list of regions is the same.
-/
namespace Go.Mo
open Go Go.W Go.Lib
set_option maxRecDepth 100000
noncomputable section

def srt (l : List Reg) : Prop := l.Pairwise fun a b => slt a.1 b.1 = true
theorem slt_asym {x y : List UInt8} (h : slt x y = true) : slt y x = false := by
  rw [← Bool.not_eq_true]
  intro h2
  have := slt_tr _ _ _ h h2
  rw [slt_irr] at this
  cases this
theorem slt_ne {x y : List UInt8} (h : slt x y = true) : x ≠ y := fun e => by
  subst e; rw [slt_irr] at h; cases h
theorem mem_addS : ∀ (l : List Reg) (r x : Reg), x ∈ addS l r → x ∈ l ∨ x = r
  | [], r, x, h => .inr (List.mem_singleton.1 h)
  | y :: l, r, x, h => by
    simp only [addS] at h
    split at h
    · rcases List.mem_cons.1 h with rfl | h
      · exact .inl List.mem_cons_self
      · rcases mem_addS l r x h with h | h
        · exact .inl (List.mem_cons_of_mem _ h)
        · exact .inr h
    · split at h
      · exact .inl h
      · rcases List.mem_cons.1 h with rfl | h
        · exact .inr rfl
        · exact .inl h
theorem srt_add : ∀ (l : List Reg) (r : Reg), srt l → srt (addS l r)
  | [], r, _ => List.pairwise_singleton _ _
  | x :: l, r, h => by
    have h1 := (List.pairwise_cons.1 h)
    simp only [addS]
    split
    · rename_i hc
      refine List.pairwise_cons.2 ⟨fun y hy => ?_, srt_add l r h1.2⟩
      rcases mem_addS l r y hy with hy | rfl
      · exact h1.1 y hy
      · exact hc
    · rename_i hc
      split
      · exact h
      · rename_i he
        have hr : slt r.1 x.1 = true := slt_tri _ _ (by simpa using hc) he
        refine List.pairwise_cons.2 ⟨fun y hy => ?_, h⟩
        rcases List.mem_cons.1 hy with rfl | hy
        · exact hr
        · exact slt_tr _ _ _ hr (h1.1 y hy)
end
end Go.Mo
end

section
/-
  Plain facts: rows without ruby, both sides; the day.
-/
namespace Go.Mo
open Go Go.W Go.Lib
set_option maxRecDepth 100000
noncomputable section

theorem bare_loop {l : List Row} (h : ∀ q ∈ l, okR q) (hl : l.length ≤ 1000) (Nrm : Row → Option Row) (hN : ∀ q : Row, q.length ≤ 4000000 → tot q ≤ 8000000 → Nrm q = some (normR q)) :
  fixN (fun (v2 : (List Row) × Int → Option (List Row)) (v3 : (List Row) × Int) =>
    cnd (ilt v3.2 (len l))
      (jn (fun (v4 : List Row) =>
        v2 (v4, w64 (iadd v3.2 (1 : Int))))
      fun v5 =>
      grd (inb v3.2 (len l)) <|
      jn (fun (v6 : Row) =>
        bnd (Nrm v6) fun v7 =>
        grd (room (iadd (len v3.1) (len ([v7] : List Row))) 24) <|
        v5 (lapp v3.1 ([v7] : List Row)))
      fun v8 =>
      fixN (fun v9 (v10 : Int × Row) =>
        cnd (ilt v10.1 (len (lget l (toN v3.2) [])))
          (grd (inb v10.1 (len (lget l (toN v3.2) [])))
            (grd (room (iadd (len v10.2) (len ([((lget (lget l (toN v3.2) []) (toN v10.1) ([], (((0 : UInt8), (false, false)), []))).1, (lget (lget l (toN v3.2) []) (toN v10.1) ([], (((0 : UInt8), (false, false)), []))).2.1, ([] : List UInt8))] : Row))) 40)
              (v9 (w64 (iadd v10.1 (1 : Int)), lapp v10.2 ([((lget (lget l (toN v3.2) []) (toN v10.1) ([], (((0 : UInt8), (false, false)), []))).1, (lget (lget l (toN v3.2) []) (toN v10.1) ([], (((0 : UInt8), (false, false)), []))).2.1, ([] : List UInt8))] : Row)))))
          (v8 v10.2)) fuelH ((0 : Int), ([] : Row)))
      (some v3.1)) fuelH (([] : List Row), (0 : Int)) = some (l.map back) := by
  refine loop_inv (n := l.length) (fun (a : List Row) (i : Nat) => (a, (i : Int))) (fun i a => a = (l.take i).map back) _ (fun self a i hi hI => ?_) (fun self a hI => ?_) fuelH 0 [] (Nat.zero_le _) (by have := fuelH_eq; omega) rfl
  · refine ⟨a ++ [back l[i]], ?_, ?_⟩
    · have hli := h l[i] (List.getElem_mem hi)
      have hq1 := hli.1
      have hq2 := hli.2.2
      have ha : a.length ≤ i := by rw [hI, List.length_map, List.length_take]; omega
      simp only
      rw [cnd_t (ilt_t (by simp only [len]; omega)), jn_e, grd_t (inb_t (by simp only [len]; omega)), lget_i hi, jn_e]
      generalize l[i] = q at hq1 hq2 ⊢
      refine loop_inv (n := q.length) (fun (b : Row) (j : Nat) => ((j : Int), b)) (fun j b => b = (q.take j).map bare) _ (fun self' b j hj hJ => ?_) (fun self' b hJ => ?_) fuelH 0 [] (Nat.zero_le _) (by have := fuelH_eq; omega) rfl
      · refine ⟨b ++ [bare q[j]], ?_, ?_⟩
        · have hbl : b.length ≤ 16 := by rw [hJ, List.length_map, List.length_take]; omega
          simp only
          rw [cnd_t (ilt_t (by simp only [len]; omega)), grd_t (inb_t (by simp only [len]; omega)), lget_i hj, grd_t (room_t (by simp only [iadd, len, List.length_singleton]; omega)), w64_succ hj (by omega)]
          rfl
        · rw [hJ, List.take_succ_eq_append_getElem hj, List.map_append]; rfl
      · simp only
        rw [cnd_f (ilt_f (by simp only [len]; omega))]
        rw [hJ, List.take_length]
        have hn : Nrm (q.map bare) = some (back q) := hN _ (by rw [List.length_map]; omega) (by rw [bare_tot]; omega)
        rw [hn, bnd_some', grd_t (room_t (by simp only [iadd, len, List.length_singleton]; omega)), w64_succ hi (by omega)]
        rfl
    · rw [hI, List.take_succ_eq_append_getElem hi, List.map_append]; rfl
  · simp only
    rw [cnd_f (ilt_f (by simp only [len]; omega)), hI, List.take_length]
theorem stl_bare_eq {l : List Row} (h : ∀ q ∈ l, okR q) (hl : l.length ≤ 1000) : stl_bare fuelH l = some (l.map back) := by
  unfold stl_bare
  rw [jn_e]
  exact bare_loop h hl (style_Norm fuelH) fun q => style_Norm_eq
def dayOf (r : UInt8) : Int := if r = 3 then 2160000 else 2592000
theorem day_stl {r : UInt8} (h : r = 3 ∨ r = 5) : timecode_Day fuelH (r, false) = some (dayOf r) := by
  rcases h with rfl | rfl
  · kernel_rfl
  · kernel_rfl
def acceptRnd (rs : List Reg) (day : Int) (i : Nat) (x : Ev) (l : List Reg) : Option (Int × Int) ⊕ List Reg :=
  if day ≤ x.2.1.2 then .inl (some ((i : Int), 2)) else if 16 < (addS l (regOf (placeE x rs))).length then .inl (some ((i : Int), 9)) else .inr (addS l (regOf (placeE x rs)))
def acceptL (d : Doc) : Option (Int × Int) := itI (acceptRnd d.2.2.2.2.2.1 (dayOf d.2.2.1)) (fun _ => some (-1, 0)) 0 d.2.2.2.2.2.2.1 []
def acceptS (d : Doc) : Option (Int × Int) := if docChk d ≠ 0 then some (-1, docChk d) else if ¬ (d.2.2.1 = 3 ∨ d.2.2.1 = 5) then some (-1, 13) else acceptL d
theorem chk_evs {d : Doc} (h : docChk d = 0) : d.2.2.2.2.2.2.1.length ≤ 400 ∧ ∀ x ∈ d.2.2.2.2.2.2.1, evChk x d.2.2.2.2.2.1 = 0 := by
  unfold docChk at h
  split at h
  · rename_i hc; exact absurd h hc
  split at h
  · rename_i hc; exact absurd h hc
  split at h
  · cases h
  rename_i hn
  split at h
  · rename_i hc; exact absurd h hc
  rename_i hc
  have hc : evsChk d = 0 := by simpa using hc
  refine ⟨by omega, fun x hx => ?_⟩
  obtain ⟨j, hj, rfl⟩ := List.mem_iff_getElem.1 hx
  exact (evRnd_ok (errL_zero _ _ hc j hj)).1
theorem rate_cnd {α : Type} (r : UInt8) (X Y : Option α) : cnd (ine (n8 r) (n8 (3 : UInt8))) (cnd (ine (n8 r) (n8 (5 : UInt8))) X Y) Y = if ¬ (r = 3 ∨ r = 5) then X else Y := by
  rw [cnd_ine, cnd_ine]
  by_cases h3 : r = 3
  · rw [if_neg (by rw [h3]; simp), if_neg (not_not_intro (.inl h3))]
  · rw [if_pos (fun e => h3 (n8_inj e))]
    by_cases h5 : r = 5
    · rw [if_neg (by rw [h5]; simp), if_neg (not_not_intro (.inr h5))]
    · rw [if_pos (fun e => h5 (n8_inj e)), if_pos (fun e => e.elim h3 h5)]
end
end Go.Mo
end

section
/-
  Plain facts: what the form accepts, on both sides.
-/
namespace Go.Mo
open Go Go.W Go.Lib
set_option maxRecDepth 100000
noncomputable section

theorem acc_some (rs : List Reg) (day : Int) : ∀ (l : List Ev) (i : Nat) (a : List Reg), ∃ v, itI (acceptRnd rs day) (fun _ => some ((-1 : Int), (0 : Int))) i l a = some v
  | [], i, a => ⟨_, rfl⟩
  | x :: l, i, a => by
    simp only [itI, acceptRnd]
    by_cases h1 : day ≤ x.2.1.2
    · rw [if_pos h1]; exact ⟨_, rfl⟩
    · rw [if_neg h1]
      by_cases h2 : 16 < (addS a (regOf (placeE x rs))).length
      · rw [if_pos h2]; exact ⟨_, rfl⟩
      · rw [if_neg h2]; exact acc_some rs day l (i + 1) _
theorem accept_some (d : Doc) : ∃ v, acceptS d = some v := by
  unfold acceptS
  split
  · exact ⟨_, rfl⟩
  split
  · exact ⟨_, rfl⟩
  exact acc_some _ _ _ _ _
theorem stl_accept {d : Doc} (hs : smallD d) : stl_Accept fuelH d = acceptS d := by
  unfold stl_Accept acceptS
  rw [bnd_s (document_check hs)]
  by_cases c1 : docChk d ≠ 0
  · rw [cnd_t (ine_t c1), if_pos c1]
  rw [cnd_f (ine_f (by simpa using c1)), if_neg c1, jn_e, rate_cnd]
  by_cases c2 : d.2.2.1 = 3 ∨ d.2.2.1 = 5
  · rw [if_neg (not_not_intro c2), if_neg (not_not_intro c2), jn_e]
    obtain ⟨hn, hev⟩ := chk_evs (d := d) (by simpa using c1)
    unfold acceptL
    have hsm := hs.2.2.1
    have hpl := fun x hx => placed_stl (d := d) (x := x) (hsm x hx) hs.2.1 (hev x hx)
    generalize hl : d.2.2.2.2.2.2.1 = l at hn hev hpl ⊢
    refine Eq.trans (lst_it (l := l) (fun (a : List Reg) (p : Nat) => (a, (p : Int))) (acceptRnd d.2.2.2.2.2.1 (dayOf d.2.2.1)) (fun _ => some (-1, 0)) (fun i a => a.length ≤ i) (fun self a i hi ha => ?_) (fun self a _ => ?_) fuelH 0 [] (Nat.zero_le _) (by have := fuelH_eq; omega) (Nat.le_refl _)) ?_
    · have hx := List.getElem_mem hi
      simp only
      rw [cnd_t (ilt_t (by simp only [len]; omega)), grd_t (inb_t (by simp only [len]; omega)), lget_i hi, bnd_s (day_stl c2), cnd_ile, bnd_s (hpl _ hx), bnd_s (regOf_stl (place_bd (hev _ hx))), bnd_s (stl_add_eq _ (by omega)), cnd_ilt, w64_succ hi (by omega)]
      unfold acceptRnd
      by_cases h1 : dayOf d.2.2.1 ≤ l[i].2.1.2
      · rw [if_pos h1, if_pos h1]; rfl
      · rw [if_neg h1, if_neg h1]
        have hal := addS_len a (regOf (placeE l[i] d.2.2.2.2.2.1))
        by_cases h2 : 16 < (addS a (regOf (placeE l[i] d.2.2.2.2.2.1))).length
        · rw [if_pos h2, if_pos (by simp only [len]; omega)]; rfl
        · rw [if_neg h2, if_neg (by simp only [len]; omega)]
          exact ⟨rfl, by omega⟩
    · simp only
      rw [cnd_f (ilt_f (by simp only [len]; omega))]
    · rw [List.drop_zero]
  · rw [if_pos c2, if_pos c2]
end
end Go.Mo
end

section
/-
  Plain facts: the document as the form carries it, on both sides.
-/
namespace Go.Mo
open Go Go.W Go.Lib
set_option maxRecDepth 100000
noncomputable section

def noD : Doc := ([], [], 0, false, 0, [], [], [])
def evR (rs : List Reg) (i : Nat) (x : Ev) : Ev := (((i + 1 : Nat) : Int), x.2.1, (regOf (placeE x rs)).1, 1, [], x.2.2.2.2.2.map back)
def redRnd (rs : List Reg) (i : Nat) (x : Ev) (a : List Reg × List Ev) : Option Doc ⊕ List Reg × List Ev := .inr (addS a.1 (regOf (placeE x rs)), a.2 ++ [evR rs i x])
def redE (d : Doc) (a : List Reg × List Ev) : Option Doc := some (d.1, d.2.1, d.2.2.1, d.2.2.2.1, len d.2.2.2.2.2.2.1, a.1, a.2, [])
def redD (d : Doc) : Option Doc := if docChk d ≠ 0 then some noD else itI (redRnd d.2.2.2.2.2.1) (redE d) 0 d.2.2.2.2.2.2.1 ([], [])
theorem stl_reduce {d : Doc} (hs : smallD d) : stl_Reduce fuelH d = redD d := by
  unfold stl_Reduce redD
  rw [bnd_s (document_check hs)]
  by_cases c1 : docChk d ≠ 0
  · rw [cnd_t (ine_t c1), if_pos c1]; rfl
  rw [cnd_f (ine_f (by simpa using c1)), if_neg c1, jn_e]
  obtain ⟨hn, hev⟩ := chk_evs (d := d) (by simpa using c1)
  unfold redE
  have hsm := hs.2.2.1
  have hpl := fun x hx => placed_stl (d := d) (x := x) (hsm x hx) hs.2.1 (hev x hx)
  have hok : ∀ x ∈ d.2.2.2.2.2.2.1, (∀ l ∈ x.2.2.2.2.2, okR l) ∧ x.2.2.2.2.2.length ≤ 4 := fun x hx => by
    obtain ⟨_, _, _, _, h5, h6, _⟩ := ev_ok (hev x hx)
    exact ⟨fun l hl => rowE_ok (hsm x hx l hl) (h6 l hl), h5⟩
  generalize hl : d.2.2.2.2.2.2.1 = l at hn hev hpl hok ⊢
  refine Eq.trans (lst_it (l := l) (fun (a : List Reg × List Ev) (p : Nat) => ((p : Int), d.1, d.2.1, d.2.2.1, d.2.2.2.1, len l, a.1, a.2, ([] : List Cmt))) (redRnd d.2.2.2.2.2.1) (fun a => some (d.1, d.2.1, d.2.2.1, d.2.2.2.1, len l, a.1, a.2, [])) (fun i a => a.1.length ≤ i ∧ a.2.length ≤ i) (fun self a i hi ha => ?_) (fun self a _ => ?_) fuelH 0 ([], []) (Nat.zero_le _) (by have := fuelH_eq; omega) ⟨Nat.le_refl _, Nat.le_refl _⟩) ?_
  · have hx := List.getElem_mem hi
    have hal := addS_len a.1 (regOf (placeE l[i] d.2.2.2.2.2.1))
    simp only
    rw [cnd_t (ilt_t (by simp only [len]; omega)), grd_t (inb_t (by simp only [len]; omega)), lget_i hi, bnd_s (hpl _ hx), bnd_s (regOf_stl (place_bd (hev _ hx))), bnd_s (stl_add_eq _ (by omega)), bnd_s (stl_bare_eq (hok _ hx).1 (by have := (hok _ hx).2; omega)), grd_t (room_t (by simp only [iadd, len, List.length_singleton]; omega)), w64_succ hi (by omega)]
    exact ⟨rfl, by simp only; omega, by simp only [List.length_append, List.length_singleton]; omega⟩
  · simp only
    rw [cnd_f (ilt_f (by simp only [len]; omega))]
  · rw [List.drop_zero]
end
end Go.Mo
end

section
/-
  Plain facts: a document is the same as itself; StlAccepts returns true.
-/
namespace Go.Mo
open Go Go.W Go.Lib
set_option maxRecDepth 100000
noncomputable section

theorem regs_self {l : List Reg} (hl : l.length ≤ 1000000) : slices_Equal_Lapi_Region_api_Region fuelH (l, l) = some true := by
  unfold slices_Equal_Lapi_Region_api_Region
  simp only
  rw [cnd_f (ine_f rfl), jn_e]
  refine loop_inv (n := l.length) (fun (_ : Unit) (i : Nat) => (i : Int)) (fun _ _ => True) _ (fun self a i hi _ => ⟨(), ?_, trivial⟩) (fun self a _ => ?_) fuelH 0 () (Nat.zero_le _) (by have := fuelH_eq; omega) trivial
  · have hin : inb (i : Int) (len l) = true := inb_t (by simp only [len]; omega)
    rw [cnd_t (ilt_t (by simp only [len]; omega)), grd_t hin, grd_t hin, lget_i hi, w64_succ hi (by omega), cnd_f]
    rw [← Bool.not_eq_true, bnot_t, Bool.eq_false_iff]
    intro h
    refine h ?_
    simp only [band_tt, seq_t, ieq_tt, beqb_t]
    simp
  · rw [cnd_f (ilt_f (by simp only [len]; omega))]
theorem ev_self {x : Ev} (h1 : x.2.2.2.2.2.length ≤ 4000000) (h2 : ∀ r ∈ x.2.2.2.2.2, r.length ≤ 4000000) : event_Same fuelH (x, x) = some true := by
  unfold event_Same
  simp only
  rw [cnd_t (ieq_t rfl), cnd_t (by simp [band_tt, ieq_tt]), cnd_t (by rw [seq_t]), cnd_t (ieq_t rfl), cnd_t (by rw [seq_t]), same_rows _ _ h1 h2, bnd_some']
  simp
theorem evs_self {l : List Ev} (hl : l.length ≤ 1000000) (h : ∀ x ∈ l, x.2.2.2.2.2.length ≤ 4000000 ∧ ∀ r ∈ x.2.2.2.2.2, r.length ≤ 4000000) : slices_EqualFunc_Lapi_Event_Lapi_Event_api_Event_api_Event fuelH (l, l) = some true := by
  unfold slices_EqualFunc_Lapi_Event_Lapi_Event_api_Event_api_Event
  simp only
  rw [cnd_f (ine_f rfl), jn_e]
  refine loop_inv (n := l.length) (fun (_ : Unit) (i : Nat) => (i : Int)) (fun _ _ => True) _ (fun self a i hi _ => ⟨(), ?_, trivial⟩) (fun self a _ => ?_) fuelH 0 () (Nat.zero_le _) (by have := fuelH_eq; omega) trivial
  · have hin : inb (i : Int) (len l) = true := inb_t (by simp only [len]; omega)
    obtain ⟨h1, h2⟩ := h _ (List.getElem_mem hi)
    rw [cnd_t (ilt_t (by simp only [len]; omega)), grd_t hin, grd_t hin, lget_i hi, w64_succ hi (by omega), bnd_s (ev_self h1 h2), cnd_f (by rfl)]
  · rw [cnd_f (ilt_f (by simp only [len]; omega))]
theorem doc_self {d : Doc} (h1 : d.2.2.2.2.2.1.length ≤ 1000000) (h2 : d.2.2.2.2.2.2.1.length ≤ 1000000) (h3 : ∀ x ∈ d.2.2.2.2.2.2.1, x.2.2.2.2.2.length ≤ 4000000 ∧ ∀ r ∈ x.2.2.2.2.2, r.length ≤ 4000000) (h4 : d.2.2.2.2.2.2.2 = []) : document_Same fuelH (d, d) = some true := by
  unfold document_Same
  have hh : document_Head fuelH d = some (d.1, d.2.1, d.2.2.1, d.2.2.2.1, d.2.2.2.2.1) := rfl
  simp only
  rw [hh, bnd_some', bnd_some', cnd_t (by simp [band_tt, ieq_tt, seq_t, beqb_t]), regs_self h1, bnd_some', cnd_t rfl, evs_self h2 h3, bnd_some', cnd_t rfl, h4]
  have : slices_Equal_Lapi_Comment_api_Comment fuelH ([], []) = some true := by kernel_rfl
  rw [this]
  rfl

theorem red_small {rs : List Reg} (d : Doc) : ∀ (l : List Ev) (i : Nat) (a : List Reg × List Ev), (∀ x ∈ l, (∀ q ∈ x.2.2.2.2.2, okR q) ∧ x.2.2.2.2.2.length ≤ 4) → (∀ x ∈ a.2, x.2.2.2.2.2.length ≤ 4000000 ∧ ∀ r ∈ x.2.2.2.2.2, r.length ≤ 4000000) →
    ∃ y : Doc, itI (redRnd rs) (redE d) i l a = some y ∧ y.2.2.2.2.2.1.length ≤ a.1.length + l.length ∧ y.2.2.2.2.2.2.1.length ≤ a.2.length + l.length ∧ (∀ x ∈ y.2.2.2.2.2.2.1, x.2.2.2.2.2.length ≤ 4000000 ∧ ∀ r ∈ x.2.2.2.2.2, r.length ≤ 4000000) ∧ y.2.2.2.2.2.2.2 = []
  | [], i, a, _, ha => ⟨_, rfl, Nat.le_refl _, Nat.le_refl _, ha, rfl⟩
  | x :: l, i, a, h, ha => by
    simp only [itI, redRnd]
    obtain ⟨k1, k2⟩ := h x List.mem_cons_self
    obtain ⟨y, e1, e2, e3, e4, e5⟩ := red_small (rs := rs) d l (i + 1) (addS a.1 (regOf (placeE x rs)), a.2 ++ [evR rs i x]) (fun z hz => h z (List.mem_cons_of_mem _ hz)) (fun z hz => by
      rcases List.mem_append.1 hz with hz | hz
      · exact ha z hz
      · rw [List.mem_singleton.1 hz]
        unfold evR
        simp only
        refine ⟨by rw [List.length_map]; omega, fun r hr => ?_⟩
        obtain ⟨q, hq, rfl⟩ := List.mem_map.1 hr
        have h1 := normR_len (q.map bare)
        have h2 := (k1 q hq).1
        rw [List.length_map] at h1
        show (normR (q.map bare)).length ≤ _
        omega)
    have hal := addS_len a.1 (regOf (placeE x rs))
    refine ⟨y, e1, ?_, ?_, e4, e5⟩
    · simp only [List.length_cons] at e2 ⊢; omega
    · simp only [List.length_append, List.length_cons, List.length_nil] at e3 ⊢; omega
theorem redD_small {d : Doc} (hs : smallD d) : ∃ y, redD d = some y ∧ document_Same fuelH (y, y) = some true := by
  unfold redD
  by_cases c1 : docChk d ≠ 0
  · rw [if_pos c1]
    exact ⟨_, rfl, doc_self (by simp [noD]) (by simp [noD]) (fun x hx => by cases hx) rfl⟩
  · rw [if_neg c1]
    obtain ⟨hn, hev⟩ := chk_evs (d := d) (by simpa using c1)
    have hsm := hs.2.2.1
    obtain ⟨y, e1, e2, e3, e4, e5⟩ := red_small (rs := d.2.2.2.2.2.1) d d.2.2.2.2.2.2.1 0 ([], []) (fun x hx => by
      obtain ⟨_, _, _, _, h5, h6, _⟩ := ev_ok (hev x hx)
      exact ⟨fun l hl => rowE_ok (hsm x hx l hl) (h6 l hl), h5⟩) (fun x hx => by cases hx)
    simp only [List.length_nil, Nat.zero_add] at e2 e3
    exact ⟨y, e1, doc_self (by omega) (by omega) e4 e5⟩
end
end Go.Mo
end

section
/-
  Plain facts: StlAccepts returns true.
-/
namespace Go.Mo
open Go Go.W Go.Lib
set_option maxRecDepth 100000
noncomputable section

def wtG (r : Reg) : Nat := r.1.length + 1 + (1 + (1 + (1 + (1 + (1 + 1)))))
def wtX (x : Ev) : Nat := 1 + (1 + 1 + (x.2.2.1.length + 1 + (1 + (x.2.2.2.2.1.length + 1 + (bkL wtR x.2.2.2.2.2 + 1)))))
def wtC (c : Cmt) : Nat := 1 + (1 + (1 + (1 + (c.2.2.2.2.1.length + 1 + (c.2.2.2.2.2.1.length + 1 + (1 + 1))))))
def wtD (d : Doc) : Nat := d.1.length + 1 + (d.2.1.length + 1 + (1 + (1 + (1 + (bkL wtG d.2.2.2.2.2.1 + 1 + (bkL wtX d.2.2.2.2.2.2.1 + 1 + (bkL wtC d.2.2.2.2.2.2.2 + 1)))))))
def fewD (d : Doc) : Doc := (d.1, d.2.1, d.2.2.1, d.2.2.2.1, d.2.2.2.2.1, d.2.2.2.2.2.1.take 6, d.2.2.2.2.2.2.1.take 5, d.2.2.2.2.2.2.2.take 4)
theorem few_eq (d : Doc) : l24_few fuelH d = some (fewD d) := by
  unfold l24_few fewD
  obtain ⟨e1, e2⟩ := min_take d.2.2.2.2.2.2.1 5
  obtain ⟨e3, e4⟩ := min_take d.2.2.2.2.2.2.2 4
  obtain ⟨e5, e6⟩ := min_take d.2.2.2.2.2.1 6
  have e1 : ltake (toN (imin (len d.2.2.2.2.2.2.1) (5 : Int))) d.2.2.2.2.2.2.1 = _ := e1
  have e3 : ltake (toN (imin (len d.2.2.2.2.2.2.2) (4 : Int))) d.2.2.2.2.2.2.2 = _ := e3
  have e5 : ltake (toN (imin (len d.2.2.2.2.2.1) (6 : Int))) d.2.2.2.2.2.1 = _ := e5
  rw [grd_t (show in2 (imin (len d.2.2.2.2.2.2.1) (5 : Int)) (len d.2.2.2.2.2.2.1) = true from e2), grd_t (show in2 (imin (len d.2.2.2.2.2.2.2) (4 : Int)) (len d.2.2.2.2.2.2.2) = true from e4), grd_t (show in2 (imin (len d.2.2.2.2.2.1) (6 : Int)) (len d.2.2.2.2.2.1) = true from e6), e1, e3, e5]
theorem few_small {d : Doc} (hb : wtD d ≤ 1048576) : smallD (fewD d) := by
  unfold wtD at hb
  refine ⟨by show d.1.length ≤ _; omega, by show (d.2.2.2.2.2.1.take 6).length ≤ _; rw [List.length_take]; omega, fun x hx => ?_, fun c hc => ?_⟩
  · have hx : x ∈ d.2.2.2.2.2.2.1 := List.mem_of_mem_take (show x ∈ d.2.2.2.2.2.2.1.take 5 from hx)
    have h1 : 1 + (1 + 1 + (x.2.2.1.length + 1 + (1 + (x.2.2.2.2.1.length + 1 + (bkL wtR x.2.2.2.2.2 + 1))))) ≤ bkL wtX d.2.2.2.2.2.2.1 := bk_mem (f := wtX) hx
    intro r hr
    have h2 : bkL wtU r + 1 ≤ bkL wtR x.2.2.2.2.2 := bk_mem (f := wtR) hr
    have h3 := cost_wt r
    have h4 := tot_cost r
    exact ⟨short_wt (l := x.2.2.2.2.2) (B := 1048576) (by omega) (by omega) r hr, by omega⟩
  · have hc : c ∈ d.2.2.2.2.2.2.2 := List.mem_of_mem_take (show c ∈ d.2.2.2.2.2.2.2.take 4 from hc)
    have h1 : 1 + (1 + (1 + (1 + (c.2.2.2.2.1.length + 1 + (c.2.2.2.2.2.1.length + 1 + (1 + 1)))))) ≤ bkL wtC d.2.2.2.2.2.2.2 := bk_mem (f := wtC) hc
    omega
end
end Go.Mo
end

section
/-
  Plain facts: texts that are joined; the normal form of a row that is good.
-/
namespace Go.Mo
open Go Go.W Go.Lib
set_option maxRecDepth 100000
noncomputable section

def decP (t : List UInt8) (r : Int) : Bool := ieq ((decodeL (enc r ++ t)).1 : Int) r && decide ((decodeL (enc r ++ t)).2 = (enc r).length)
theorem dec_tab (t : List UInt8) : ((loRunes ++ hiRunes).all (decP t)) = true := by kernel_rfl
theorem dec_enc {r : Int} (hr : inRep r = true) (t : List UInt8) : ((decodeL (enc r ++ t)).1 : Int) = r ∧ (decodeL (enc r ++ t)).2 = (enc r).length := by
  have h : decP t r = true := all_rep (dec_tab t) hr
  unfold decP at h
  rw [Bool.and_eq_true, ieq_tt, decide_eq_true_eq] at h
  exact h
theorem enc_ne2 {r : Int} (hr : inRep r = true) : enc r ≠ [] := by
  have h := all_rep (P := fun r => !(enc r).isEmpty) (by kernel_rfl) hr
  intro e
  simp [e] at h
theorem rns_ofR : ∀ (l : List Int) (t : List UInt8), l.all inRep = true → rns (ofR l ++ t) = l ++ rns t
  | [], t, _ => rfl
  | r :: l, t, h => by
    rw [List.all_cons, Bool.and_eq_true] at h
    have e : ofR (r :: l) ++ t = enc r ++ (ofR l ++ t) := by unfold ofR; rw [List.flatMap_cons, List.append_assoc]
    obtain ⟨d1, d2⟩ := dec_enc h.1 (ofR l ++ t)
    rw [e, rns_step _ (by simp [enc_ne2 h.1]), d1, d2, List.drop_left, rns_ofR l t h.2]
    rfl
theorem vld_ofR : ∀ (l : List Int) (t : List UInt8), l.all inRep = true → vld (ofR l ++ t) = vld t
  | [], t, _ => rfl
  | r :: l, t, h => by
    rw [List.all_cons, Bool.and_eq_true] at h
    have e : ofR (r :: l) ++ t = enc r ++ (ofR l ++ t) := by unfold ofR; rw [List.flatMap_cons, List.append_assoc]
    obtain ⟨d1, d2⟩ := dec_enc h.1 (ofR l ++ t)
    rw [e, vld_step _ (by simp [enc_ne2 h.1]), d1, d2, List.drop_left, if_pos h.1, vld_ofR l t h.2]
theorem rns_cat {a : List UInt8} (h : vld a = true) (b : List UInt8) : rns (a ++ b) = rns a ++ rns b := by
  conv => lhs; rw [← ofR_rns h]
  exact rns_ofR _ _ (rns_ok h)
theorem vld_cat {a : List UInt8} (h : vld a = true) (b : List UInt8) : vld (a ++ b) = vld b := by
  conv => lhs; rw [← ofR_rns h]
  exact vld_ofR _ _ (rns_ok h)

theorem plainT_app (a b : Row) : plainT (a ++ b) = plainT a ++ plainT b := by unfold plainT; rw [List.flatMap_append]
theorem plainT_one (x : Run) : plainT [x] = x.1 := by unfold plainT; simp
theorem snoc_plain (out : Row) (x : Run) : plainT (snoc out x) = plainT out ++ x.1 := by
  unfold snoc
  split
  · rename_i h; rw [h, List.append_nil]
  · split
    · rename_i p hp
      split
      · rw [plainT_app, plainT_one]
        conv => rhs; rw [last_eq hp, plainT_app, plainT_one]
        simp
      · rw [plainT_app, plainT_one]
    · rw [plainT_app, plainT_one]
theorem fold_plain : ∀ (l out : Row), plainT (l.foldl snoc out) = plainT out ++ plainT l
  | [], out => by simp [plainT]
  | x :: l, out => by
    rw [List.foldl_cons, fold_plain l, snoc_plain]
    have : plainT (x :: l) = x.1 ++ plainT l := by unfold plainT; rw [List.flatMap_cons]
    rw [this, List.append_assoc]
theorem bare_plain (l : Row) : plainT (l.map bare) = plainT l := by unfold plainT; rw [List.flatMap_map]; rfl
theorem back_plain (l : Row) : plainT (back l) = plainT l := by
  unfold back normR
  rw [fold_plain, bare_plain]
  rfl
theorem lenT_plain : ∀ (l : Row), (∀ x ∈ l, vld x.1 = true) → lenT l = (rns (plainT l)).length
  | [], _ => rfl
  | x :: l, h => by
    have : plainT (x :: l) = x.1 ++ plainT l := by unfold plainT; rw [List.flatMap_cons]
    rw [this, rns_cat (h x List.mem_cons_self), List.length_append, ← lenT_plain l fun y hy => h y (List.mem_cons_of_mem _ hy)]
    rfl

def lst (p : Option Run) (out : Row) : Option Run := match out.getLast? with
  | some q => some q
  | none => p
theorem lst_cons (p : Option Run) (y : Run) (out : Row) : lst p (y :: out) = lst (some y) out := by
  unfold lst
  rw [List.getLast?_cons]
  cases out.getLast? <;> rfl
theorem chk_snoc : ∀ (out : Row) (p : Option Run) (x : Run), chkL p (out ++ [x]) = 0 ↔ chkL p out = 0 ∧ runChk (lst p out) x = 0
  | [], p, x => by
    simp only [List.nil_append, chkL, lst, List.getLast?_nil]
    by_cases h : runChk p x ≠ 0
    · rw [if_pos h]; simp
    · rw [if_neg h]; simpa using h
  | y :: out, p, x => by
    simp only [List.cons_append, chkL]
    by_cases h : runChk p y ≠ 0
    · rw [if_pos h, if_pos h]; exact ⟨fun k => absurd k h, fun k => absurd k.1 h⟩
    · rw [if_neg h, if_neg h, chk_snoc out (some y) x, lst_cons]
theorem runChk_zero {p : Option Run} {x : Run} : runChk p x = 0 ↔ vld x.1 = true ∧ x.1 ≠ [] ∧ n8 x.2.1.1 ≤ 6 ∧ vld x.2.2 = true ∧ ∀ q, p = some q → ¬ alikeP q x := by
  unfold runChk
  by_cases h1 : vld x.1 = false
  · rw [if_pos h1]; simp [h1]
  rw [if_neg h1]
  by_cases h2 : x.1 = []
  · rw [if_pos h2]; simp [h2]
  rw [if_neg h2]
  by_cases h3 : n8 x.2.1.1 ≤ 6
  · rw [if_neg (not_not_intro h3)]
    by_cases h4 : vld x.2.2 = false
    · rw [if_pos h4]; simp [h4]
    rw [if_neg h4]
    have h1 : vld x.1 = true := by simpa using h1
    have h4 : vld x.2.2 = true := by simpa using h4
    cases p with
    | none => exact ⟨fun _ => ⟨h1, h2, h3, h4, fun q hq => by cases hq⟩, fun _ => rfl⟩
    | some q =>
      simp only
      by_cases h5 : alikeP q x
      · rw [if_pos h5]; exact ⟨fun k => (by cases k), fun k => absurd h5 (k.2.2.2.2 q rfl)⟩
      · rw [if_neg h5]; exact ⟨fun _ => ⟨h1, h2, h3, h4, fun r hr => by injection hr with hr; rw [← hr]; exact h5⟩, fun _ => rfl⟩
  · rw [if_pos h3]; exact ⟨fun k => (by cases k), fun k => absurd k.2.2.1 h3⟩
def goodS (out : Row) : Prop := chkL none out = 0 ∧ ∀ x ∈ out, x.2.2 = []
theorem snoc_good {out : Row} {x : Run} (h : goodS out) (h1 : vld x.1 = true) (h2 : n8 x.2.1.1 ≤ 6) (h3 : x.2.2 = []) : goodS (snoc out x) := by
  have hv : vld x.2.2 = true := by rw [h3]; rfl
  unfold snoc
  split
  · exact h
  · rename_i he
    split
    · rename_i p hp
      have e := last_eq hp
      have hin : p ∈ out := by rw [e]; simp
      split
      · rename_i ha
        have hc := h.1
        rw [e, chk_snoc, runChk_zero] at hc
        obtain ⟨c1, c2, c3, c4, c5, c6⟩ := hc
        refine ⟨(chk_snoc _ _ _).2 ⟨c1, runChk_zero.2 ⟨?_, by simp [he], c4, c5, fun q hq k => c6 q hq ⟨k.1, k.2.1, k.2.2⟩⟩⟩, fun y hy => ?_⟩
        · rw [vld_cat c2]; exact h1
        · rcases List.mem_append.1 hy with hy | hy
          · exact h.2 y (List.dropLast_subset _ hy)
          · rw [List.mem_singleton.1 hy]; exact h.2 p hin
      · rename_i ha
        refine ⟨(chk_snoc _ _ _).2 ⟨h.1, runChk_zero.2 ⟨h1, he, h2, hv, fun q hq => ?_⟩⟩, fun y hy => ?_⟩
        · unfold lst at hq
          rw [hp] at hq
          injection hq with hq
          rw [← hq]; exact ha
        · rcases List.mem_append.1 hy with hy | hy
          · exact h.2 y hy
          · rw [List.mem_singleton.1 hy]; exact h3
    · rename_i hp
      have : out = [] := List.getLast?_eq_none_iff.1 hp
      subst this
      refine ⟨(chk_snoc _ _ _).2 ⟨rfl, runChk_zero.2 ⟨h1, he, h2, hv, fun q hq => by cases hq⟩⟩, fun y hy => ?_⟩
      rw [List.nil_append] at hy
      rw [List.mem_singleton.1 hy]; exact h3
theorem fold_good : ∀ (l out : Row), goodS out → (∀ x ∈ l, vld x.1 = true ∧ n8 x.2.1.1 ≤ 6) → goodS ((l.map bare).foldl snoc out)
  | [], out, h, _ => h
  | x :: l, out, h, hl => by
    rw [List.map_cons, List.foldl_cons]
    have hx := hl x List.mem_cons_self
    exact fold_good l _ (snoc_good h hx.1 hx.2 rfl) fun y hy => hl y (List.mem_cons_of_mem _ hy)
theorem back_good {l : Row} (h : rowChk l = 0) : goodS (back l) := by
  obtain ⟨_, h2⟩ := rowChk_ok h
  exact fold_good l [] ⟨rfl, fun x hx => by cases hx⟩ fun x hx => ⟨(h2 x hx).1, (h2 x hx).2.2.1⟩
theorem norm_id : ∀ (l pre : Row), chkL pre.getLast? l = 0 → l.foldl snoc pre = pre ++ l
  | [], pre, _ => by simp
  | x :: l, pre, h => by
    simp only [chkL] at h
    split at h
    · rename_i hc; exact absurd h hc
    · rename_i hc
      have hc : runChk pre.getLast? x = 0 := by simpa using hc
      rw [runChk_zero] at hc
      have e : snoc pre x = pre ++ [x] := by
        rw [snoc_ne hc.2.1]
        cases hp : pre.getLast? with
        | none => rfl
        | some p => simp only; rw [if_neg (hc.2.2.2.2 p hp)]
      rw [List.foldl_cons, e, norm_id l _ (by rw [List.getLast?_concat]; exact h), List.append_assoc]
      rfl
theorem back_back {l : Row} (h : rowChk l = 0) : back (back l) = back l := by
  obtain ⟨g1, g2⟩ := back_good h
  have e : (back l).map bare = back l := by
    have : (back l).map bare = (back l).map id := List.map_congr_left fun x hx => by
      have := g2 x hx
      show bare x = x
      unfold bare
      rw [← this]
    rw [this, List.map_id]
  show normR ((back l).map bare) = back l
  rw [e]
  exact norm_id (back l) [] g1
theorem back_len (l : Row) : (back l).length ≤ l.length := by
  have := normR_len (l.map bare)
  rw [List.length_map] at this
  exact this
theorem back_chk {l : Row} (h : rowChk l = 0) : rowChk (back l) = 0 := by
  have h1 := (rowChk_ok h).1
  have h2 := back_len l
  unfold rowChk
  rw [if_neg (by omega)]
  exact (back_good h).1
theorem back_small {l : Row} (hs : smallR l) (h : rowChk l = 0) : smallR (back l) := by
  have ht : tot (back l) = tot l := by rw [← plainT_len, ← plainT_len, back_plain]
  refine ⟨fun x hx => ?_, by rw [ht]; exact hs.2⟩
  have h1 := tot_mem hx
  have h2 := (back_good h).2 x hx
  have h3 := hs.2
  refine ⟨by omega, by rw [h2]; simp⟩
theorem back_lenT {l : Row} (h : rowChk l = 0) : lenT (back l) = lenT l := by
  rw [lenT_plain _ fun x hx => ((rowChk_ok (back_chk h)).2 x hx).1, lenT_plain _ fun x hx => ((rowChk_ok h).2 x hx).1, back_plain]
theorem rowE_zero {l : Row} (h : rowE l = 0) : rowChk l = 0 ∧ neatT (plainT l) = true ∧ lenT l ≤ 32 := by
  unfold rowE at h
  split at h
  · rename_i hc; exact absurd h hc
  split at h
  · cases h
  split at h
  · cases h
  rename_i c1 c2 c3
  exact ⟨by simpa using c1, by simpa using c2, by omega⟩
theorem back_rowE {l : Row} (h : rowE l = 0) : rowE (back l) = 0 := by
  obtain ⟨h1, h2, h3⟩ := rowE_zero h
  unfold rowE
  rw [if_neg (by rw [back_chk h1]; simp), back_plain, h2, if_neg (by simp), back_lenT h1, if_neg (by omega)]
theorem rowsE_of : ∀ (l : List Row) (k : Int), (∀ r ∈ l, rowE r = 0) → rowsE l k = k
  | [], _, _ => rfl
  | r :: l, k, h => by
    simp only [rowsE]
    rw [if_neg (by rw [h r List.mem_cons_self]; simp)]
    exact rowsE_of l k fun q hq => h q (List.mem_cons_of_mem _ hq)
theorem lens_back {l : List Row} (h : ∀ r ∈ l, rowE r = 0) : lens (l.map back) = lens l := by
  unfold lens
  rw [List.map_map]
  exact List.map_congr_left fun r hr => by
    show (lenT (back r) : Int) = _
    rw [back_lenT (rowE_zero (h r hr)).1]
end
end Go.Mo
end

section
/-
  Plain facts: the regions of a reduced document; its events stand where they stood.
-/
namespace Go.Mo
open Go Go.W Go.Lib
set_option maxRecDepth 100000
noncomputable section

def okP (p : Int × UInt8) : Prop := 0 ≤ p.1 ∧ p.1 ≤ 14 ∧ 1 ≤ n8 p.2 ∧ n8 p.2 ≤ 3
theorem okP_mem {p : Int × UInt8} (h : okP p) : ∃ n ∈ List.range 15, ∃ a ∈ ([1, 2, 3] : List UInt8), p = ((n : Int), a) := okP_mem0 h
theorem reg_tab : ((List.range 15).all fun n => ([1, 2, 3] : List UInt8).all fun a => ieq (regChk (regOf ((n : Int), a))) 0) = true := by kernel_rfl
theorem regOf_chk {p : Int × UInt8} (h : okP p) : regChk (regOf p) = 0 := by
  obtain ⟨n, hn, a, ha, rfl⟩ := okP_mem h
  exact ieq_tt.mp (List.all_eq_true.1 (List.all_eq_true.1 reg_tab n hn) a ha)
theorem inj_tab : ((List.range 15).all fun n => ([1, 2, 3] : List UInt8).all fun a => (List.range 15).all fun m => ([1, 2, 3] : List UInt8).all fun b => !(seq (regOf ((n : Int), a)).1 (regOf ((m : Int), b)).1) || (Nat.beq n m && ieq (n8 a) (n8 b))) = true := by kernel_rfl
theorem regOf_inj {p q : Int × UInt8} (hp : okP p) (hq : okP q) (h : (regOf p).1 = (regOf q).1) : p = q := by
  obtain ⟨n, hn, a, ha, rfl⟩ := okP_mem hp
  obtain ⟨m, hm, b, hb, rfl⟩ := okP_mem hq
  have k := List.all_eq_true.1 (List.all_eq_true.1 (List.all_eq_true.1 (List.all_eq_true.1 inj_tab n hn) a ha) m hm) b hb
  rw [Bool.or_eq_true] at k
  rcases k with k | k
  · have : seq (regOf ((n : Int), a)).1 (regOf ((m : Int), b)).1 = true := by rw [seq_t]; exact h
    rw [this] at k
    cases k
  · rw [Bool.and_eq_true, ieq_tt] at k
    rw [Nat.eq_of_beq_eq_true k.1, n8_inj k.2]
def allR (L : List Reg) : Prop := ∀ r ∈ L, ∃ p, okP p ∧ r = regOf p
theorem addS_all {L : List Reg} {p : Int × UInt8} (hL : allR L) (hp : okP p) : allR (addS L (regOf p)) := fun r hr => by
  rcases mem_addS _ _ _ hr with hr | rfl
  · exact hL r hr
  · exact ⟨p, hp, rfl⟩
theorem addS_keep : ∀ (L : List Reg) (r x : Reg), x ∈ L → x ∈ addS L r
  | y :: L, r, x, h => by
    simp only [addS]
    split
    · rcases List.mem_cons.1 h with rfl | h
      · exact List.mem_cons_self
      · exact List.mem_cons_of_mem _ (addS_keep L r x h)
    · split
      · exact h
      · exact List.mem_cons_of_mem _ h
theorem addS_has : ∀ (L : List Reg) (p : Int × UInt8), allR L → okP p → regOf p ∈ addS L (regOf p)
  | [], p, _, _ => List.mem_singleton.2 rfl
  | y :: L, p, h, hp => by
    simp only [addS]
    split
    · exact List.mem_cons_of_mem _ (addS_has L p (fun r hr => h r (List.mem_cons_of_mem _ hr)) hp)
    · split
      · rename_i he
        obtain ⟨q, hq, rfl⟩ := h y List.mem_cons_self
        rw [regOf_inj hq hp he]
        exact List.mem_cons_self
      · exact List.mem_cons_self
theorem find_regOf {L : List Reg} {p : Int × UInt8} (hL : allR L) (hp : okP p) (hm : regOf p ∈ L) : findR L (regOf p).1 = some (regOf p) := by
  unfold findR
  rw [if_neg (by unfold regOf; simp)]
  cases hf : L.find? fun r => decide (r.1 = (regOf p).1) with
  | none =>
    have := List.find?_eq_none.1 hf _ hm
    simp at this
  | some r =>
    have h1 := List.find?_some hf
    obtain ⟨q, hq, rfl⟩ := hL r (List.mem_of_find?_eq_some hf)
    rw [regOf_inj hq hp (by simpa using h1)]

def regsR (rs : List Reg) : List Ev → List Reg → List Reg
  | [], a => a
  | x :: l, a => regsR rs l (addS a (regOf (placeE x rs)))
def evsR (rs : List Reg) : Nat → List Ev → List Ev
  | _, [] => []
  | i, x :: l => evR rs i x :: evsR rs (i + 1) l
theorem red_eq {rs : List Reg} {K : List Reg × List Ev → Option Doc} : ∀ (l : List Ev) (i : Nat) (a : List Reg × List Ev), itI (redRnd rs) K i l a = K (regsR rs l a.1, a.2 ++ evsR rs i l)
  | [], i, a => by simp [itI, regsR, evsR]
  | x :: l, i, a => by
    simp only [itI, redRnd]
    rw [red_eq l (i + 1)]
    simp only [regsR, evsR, List.append_assoc, List.singleton_append]
theorem evsR_len (rs : List Reg) : ∀ (l : List Ev) (i : Nat), (evsR rs i l).length = l.length
  | [], _ => rfl
  | x :: l, i => by simp only [evsR, List.length_cons, evsR_len rs l (i + 1)]
theorem evsR_get (rs : List Reg) : ∀ (l : List Ev) (i j : Nat), (evsR rs i l)[j]? = (l[j]?).map (evR rs (i + j))
  | [], _, _ => by simp [evsR]
  | x :: l, i, 0 => by simp [evsR]
  | x :: l, i, j + 1 => by
    simp only [evsR, List.getElem?_cons_succ]
    rw [evsR_get rs l (i + 1) j]
    have : i + 1 + j = i + (j + 1) := by omega
    rw [this]
theorem evsR_at (rs : List Reg) (l : List Ev) (j : Nat) (h : j < l.length) (h' : j < (evsR rs 0 l).length) : (evsR rs 0 l)[j] = evR rs j l[j] := by
  have := evsR_get rs l 0 j
  rw [List.getElem?_eq_getElem h', List.getElem?_eq_getElem h, Nat.zero_add] at this
  injection this
def goodE (rs : List Reg) (l : List Ev) : Prop := ∀ x ∈ l, evChk x rs = 0
theorem regsR_all {rs : List Reg} : ∀ (l : List Ev) (a : List Reg), goodE rs l → allR a → allR (regsR rs l a)
  | [], a, _, h => h
  | x :: l, a, hg, h => regsR_all l _ (fun y hy => hg y (List.mem_cons_of_mem _ hy)) (addS_all h (place_bd (hg x List.mem_cons_self)))
theorem regsR_keep {rs : List Reg} : ∀ (l : List Ev) (a : List Reg) (r : Reg), r ∈ a → r ∈ regsR rs l a
  | [], _, _, h => h
  | x :: l, a, r, h => regsR_keep l _ r (addS_keep _ _ _ h)
theorem regsR_has {rs : List Reg} : ∀ (l : List Ev) (a : List Reg), goodE rs l → allR a → ∀ x ∈ l, regOf (placeE x rs) ∈ regsR rs l a
  | y :: l, a, hg, h, x, hx => by
    have hy := place_bd (hg y List.mem_cons_self)
    rcases List.mem_cons.1 hx with rfl | hx
    · exact regsR_keep l _ _ (addS_has a _ h hy)
    · exact regsR_has l _ (fun z hz => hg z (List.mem_cons_of_mem _ hz)) (addS_all h hy) x hx
theorem regsR_srt {rs : List Reg} : ∀ (l : List Ev) (a : List Reg), srt a → srt (regsR rs l a)
  | [], _, h => h
  | x :: l, a, h => regsR_srt l _ (srt_add _ _ h)
theorem regsR_find {rs : List Reg} {l : List Ev} (hg : goodE rs l) {x : Ev} (hx : x ∈ l) : findR (regsR rs l []) (regOf (placeE x rs)).1 = some (regOf (placeE x rs)) :=
  find_regOf (regsR_all l [] hg fun r hr => by cases hr) (place_bd (hg x hx)) (regsR_has l [] hg (fun r hr => by cases hr) x hx)
/-- the event stands where it stood -/
theorem place_again {rs : List Reg} {l : List Ev} (hg : goodE rs l) {x : Ev} (hx : x ∈ l) (i : Nat) : placeE (evR rs i x) (regsR rs l []) = placeE x rs := by
  conv => lhs; unfold placeE
  have e : (evR rs i x).2.2.1 = (regOf (placeE x rs)).1 := rfl
  rw [e, regsR_find hg hx]
  show (topOf (regOf (placeE x rs)) _, (regOf (placeE x rs)).2.2.2.2.2.1) = _
  unfold topOf
  rw [if_neg (by unfold regOf; simp)]
  rfl
/-- the rows of an event fit below the place where it begins -/
theorem place_fit {x : Ev} {rs : List Reg} (h : evChk x rs = 0) : (placeE x rs).1 + (x.2.2.2.2.2.length : Int) ≤ 15 := by
  obtain ⟨_, _, _, h4, h5, _, r, hf, hp⟩ := ev_ok h
  have hne : lens x.2.2.2.2.2 ≠ [] := by
    unfold lens; intro e; have := congrArg List.length e; rw [List.length_map] at this; simp only [List.length_nil] at this; omega
  obtain ⟨hu, hk, _⟩ := placeS_ok hp hne
  have hb := usable_bd hu
  have hll : (lens x.2.2.2.2.2).length = x.2.2.2.2.2.length := by unfold lens; rw [List.length_map]
  rw [hll] at hk
  unfold placeE
  rw [hf]
  unfold topOf
  simp only
  split <;> omega
end
end Go.Mo
end

section
/-
  Plain facts: a reduced document is good; StlReduced returns true.
-/
namespace Go.Mo
open Go Go.W Go.Lib
set_option maxRecDepth 100000
noncomputable section

def redF (d : Doc) : Doc := (d.1, d.2.1, d.2.2.1, d.2.2.2.1, len d.2.2.2.2.2.2.1, regsR d.2.2.2.2.2.1 d.2.2.2.2.2.2.1 [], evsR d.2.2.2.2.2.1 0 d.2.2.2.2.2.2.1, [])
theorem redD_eq {d : Doc} (h : docChk d = 0) : redD d = some (redF d) := by
  unfold redD
  rw [if_neg (by rw [h]; simp), red_eq]
  rfl

theorem acc_zero {rs : List Reg} {day : Int} : ∀ (l : List Ev) (i : Nat) (a : List Reg) (v : Int), itI (acceptRnd rs day) (fun _ => some (-1, 0)) i l a = some (v, 0) → a.length ≤ 16 → v = -1 ∧ (regsR rs l a).length ≤ 16
  | [], i, a, v, h, ha => by
    simp only [itI, Option.some.injEq, Prod.mk.injEq] at h
    exact ⟨h.1.symm, ha⟩
  | x :: l, i, a, v, h, ha => by
    simp only [itI, acceptRnd] at h
    by_cases h1 : day ≤ x.2.1.2
    · rw [if_pos h1] at h; simp at h
    rw [if_neg h1] at h
    by_cases h2 : 16 < (addS a (regOf (placeE x rs))).length
    · rw [if_pos h2] at h; simp at h
    rw [if_neg h2] at h
    exact acc_zero l (i + 1) _ v h (by omega)
theorem acceptS_zero {d : Doc} {v : Int} (h : acceptS d = some (v, 0)) : docChk d = 0 ∧ (d.2.2.1 = 3 ∨ d.2.2.1 = 5) ∧ acceptL d = some (-1, 0) ∧ (regsR d.2.2.2.2.2.1 d.2.2.2.2.2.2.1 []).length ≤ 16 := by
  unfold acceptS at h
  by_cases c1 : docChk d ≠ 0
  · rw [if_pos c1] at h
    injection h with h
    injection h with _ h
    exact absurd h c1
  rw [if_neg c1] at h
  by_cases c2 : d.2.2.1 = 3 ∨ d.2.2.1 = 5
  · rw [if_neg (not_not_intro c2)] at h
    obtain ⟨e, h3⟩ := acc_zero _ _ _ _ h (by simp)
    subst e
    exact ⟨by simpa using c1, c2, h, h3⟩
  · rw [if_pos c2] at h
    simp at h
theorem acc_again {rs L : List Reg} {day : Int} : ∀ (l : List Ev) (i : Nat) (a : List Reg), (∀ x ∈ l, ∀ i, placeE (evR rs i x) L = placeE x rs) → itI (acceptRnd L day) (fun _ => some ((-1 : Int), (0 : Int))) i (evsR rs i l) a = itI (acceptRnd rs day) (fun _ => some (-1, 0)) i l a
  | [], _, _, _ => rfl
  | x :: l, i, a, h => by
    have hx := h x List.mem_cons_self i
    have ih := fun b => acc_again (day := day) l (i + 1) b fun y hy => h y (List.mem_cons_of_mem _ hy)
    simp only [evsR, itI, acceptRnd]
    rw [hx]
    have e : (evR rs i x).2.1.2 = x.2.1.2 := rfl
    rw [e]
    by_cases h1 : day ≤ x.2.1.2
    · rw [if_pos h1]
    rw [if_neg h1]
    by_cases h2 : 16 < (addS a (regOf (placeE x rs))).length
    · rw [if_pos h2]
    rw [if_neg h2]
    exact ih _
theorem regs_again {rs L : List Reg} : ∀ (l : List Ev) (i : Nat) (a : List Reg), (∀ x ∈ l, ∀ i, placeE (evR rs i x) L = placeE x rs) → regsR L (evsR rs i l) a = regsR rs l a
  | [], _, _, _ => rfl
  | x :: l, i, a, h => by
    simp only [evsR, regsR]
    rw [h x List.mem_cons_self i, regs_again l (i + 1) _ fun y hy => h y (List.mem_cons_of_mem _ hy)]
theorem evs_again {rs L : List Reg} : ∀ (l : List Ev) (i : Nat), (∀ x ∈ l, ∀ i, placeE (evR rs i x) L = placeE x rs) → goodE rs l → evsR L i (evsR rs i l) = evsR rs i l
  | [], _, _, _ => rfl
  | x :: l, i, h, hg => by
    have hx := h x List.mem_cons_self i
    obtain ⟨_, _, _, _, _, h6, _⟩ := ev_ok (hg x List.mem_cons_self)
    simp only [evsR]
    rw [evs_again l (i + 1) (fun y hy => h y (List.mem_cons_of_mem _ hy)) fun y hy => hg y (List.mem_cons_of_mem _ hy)]
    congr 1
    have e1 : (evR rs i x).2.2.2.2.2.map back = x.2.2.2.2.2.map back := by
      show (x.2.2.2.2.2.map back).map back = _
      rw [List.map_map]
      exact List.map_congr_left fun r hr => back_back (rowE_zero (h6 r hr)).1
    show (((i + 1 : Nat) : Int), (evR rs i x).2.1, (regOf (placeE (evR rs i x) L)).1, (1 : UInt8), ([] : List UInt8), (evR rs i x).2.2.2.2.2.map back) = _
    rw [hx, e1]
    rfl

theorem placeL_zero {r : Reg} {k : Nat} : ∀ (l : List Int) (i : Nat) (out : List Spot), (∀ n ∈ l, 0 ≤ n ∧ n ≤ r.2.2.2.2.1) → (placeL r k i l out).2 = 0
  | [], _, _, _ => rfl
  | n :: l, i, out, h => by
    have hn := h n List.mem_cons_self
    simp only [placeL]
    rw [if_neg (by omega), if_neg (by omega)]
    exact placeL_zero l _ _ fun m hm => h m (List.mem_cons_of_mem _ hm)
theorem evR_chk {rs : List Reg} {l : List Ev} (hg : goodE rs l) {x : Ev} (hx : x ∈ l) {i : Nat} (hi : i < 1000) : evChk (evR rs i x) (regsR rs l []) = 0 := by
  have hc := hg x hx
  obtain ⟨_, _, h3, h4, h5, h6, _⟩ := ev_ok hc
  have hfit := place_fit hc
  have hbd := place_bd hc
  have hf : findR (regsR rs l []) (evR rs i x).2.2.1 = some (regOf (placeE x rs)) := regsR_find hg hx
  have hll : (x.2.2.2.2.2.map back).length = x.2.2.2.2.2.length := List.length_map ..
  unfold evChk
  rw [hf]
  have e1 : (evR rs i x).1 = ((i + 1 : Nat) : Int) := rfl
  have e2 : (evR rs i x).2.1 = x.2.1 := rfl
  have e3 : (evR rs i x).2.2.2.1 = 1 := rfl
  have e4 : (evR rs i x).2.2.2.2.1 = [] := rfl
  have e5 : (evR rs i x).2.2.2.2.2 = x.2.2.2.2.2.map back := rfl
  rw [e1, e2, e3, e4, e5, if_neg (by omega), if_neg (by omega), if_neg (not_not_intro h3)]
  simp only
  rw [if_neg (not_not_intro ⟨by decide, by decide⟩), if_neg (fun k => k.1 rfl), if_neg (by omega), if_neg (by omega), rowsE_of _ _ fun r hr => by
    obtain ⟨q, hq, rfl⟩ := List.mem_map.1 hr
    exact back_rowE (h6 q hq), lens_back h6]
  unfold placeS
  have hl2 : (lens x.2.2.2.2.2).length = x.2.2.2.2.2.length := by unfold lens; rw [List.length_map]
  have e6 : (regOf (placeE x rs)).2.2.1 = 15 - (placeE x rs).1 := rfl
  rw [if_neg (not_not_intro (.inr (regOf_chk hbd))), hl2, e6, if_neg (by omega)]
  refine placeL_zero _ _ _ fun n hn => ?_
  unfold lens at hn
  obtain ⟨q, hq, rfl⟩ := List.mem_map.1 hn
  have := (rowE_zero (h6 q hq)).2.2
  have e7 : (regOf (placeE x rs)).2.2.2.2.1 = 32 := rfl
  rw [e7]
  omega
theorem errL_of {α : Type} {R : List α → α → Int} : ∀ (l pre : List α), (∀ j (h : j < l.length), R (pre ++ l.take j) l[j] = 0) → errL R pre l = 0
  | [], _, _ => rfl
  | x :: l, pre, h => by
    have h0 : R pre x = 0 := by have := h 0 (by simp); simpa using this
    simp only [errL]
    rw [if_neg (by rw [h0]; simp)]
    refine errL_of l _ fun j hj => ?_
    have := h (j + 1) (by simpa using hj)
    simpa using this
theorem chkRegs_of : ∀ (l : List Reg) (p : Option Reg), (∀ r ∈ l, regChk r = 0) → srt l → (∀ q, p = some q → ∀ r ∈ l, slt q.1 r.1 = true) → chkRegs p l = 0
  | [], _, _, _, _ => rfl
  | r :: l, p, h1, h2, h3 => by
    have hs := List.pairwise_cons.1 h2
    have ih := chkRegs_of l (some r) (fun q hq => h1 q (List.mem_cons_of_mem _ hq)) hs.2 fun q hq s hs' => by
      injection hq with hq
      rw [← hq]
      exact hs.1 s hs'
    simp only [chkRegs]
    rw [if_neg (by rw [h1 r List.mem_cons_self]; simp)]
    cases p with
    | none => exact ih
    | some q =>
      have hq := h3 q rfl r List.mem_cons_self
      simp only
      rw [if_neg fun e => slt_ne hq e.symm, if_neg (by rw [slt_asym hq]; simp)]
      exact ih
theorem doc_parts {d : Doc} (h : docChk d = 0) : headChk d = 0 ∧ d.2.2.2.2.2.2.1.length ≤ 400 ∧ evsChk d = 0 := by
  unfold docChk at h
  split at h
  · rename_i hc; exact absurd h hc
  rename_i c1
  split at h
  · rename_i hc; exact absurd h hc
  split at h
  · cases h
  rename_i hn
  split at h
  · rename_i hc; exact absurd h hc
  rename_i hc
  exact ⟨by simpa using c1, by omega, by simpa using hc⟩
theorem head_red {d : Doc} (h : headChk d = 0) (hn : d.2.2.2.2.2.2.1.length ≤ 400) : headChk (redF d) = 0 := by
  unfold headChk at h
  split at h
  · cases h
  rename_i c1
  split at h
  · cases h
  rename_i c2
  split at h
  · cases h
  rename_i c3
  split at h
  · cases h
  rename_i c4
  unfold headChk
  have e : (redF d).2.2.2.2.1 = (d.2.2.2.2.2.2.1.length : Int) := rfl
  rw [e]
  exact (if_neg c1).trans ((if_neg c2).trans ((if_neg c3).trans ((if_neg c4).trans ((if_neg (by omega)).trans (if_neg (by omega))))))
theorem evs_red {d : Doc} (hg : goodE d.2.2.2.2.2.1 d.2.2.2.2.2.2.1) (hn : d.2.2.2.2.2.2.1.length ≤ 400) (h : evsChk d = 0) : evsChk (redF d) = 0 := by
  have hz := errL_zero _ _ h
  unfold redF evsChk
  simp only
  generalize d.2.2.2.2.2.1 = rs at hg hz ⊢
  generalize d.2.2.2.2.2.2.1 = l at hg hz hn ⊢
  refine errL_of _ _ fun j hj => ?_
  have hl := evsR_len rs l 0
  have hj' : j < l.length := by omega
  have hat := evsR_at rs l j hj' hj
  rw [hat, List.nil_append]
  unfold evRnd
  rw [if_neg (by rw [evR_chk hg (List.getElem_mem hj') (by omega)]; simp)]
  have e1 : (evR rs j l[j]).1 = ((j + 1 : Nat) : Int) := rfl
  rw [e1, if_neg (by simp only [len]; omega)]
  have ho : ordB ((evsR rs 0 l).take j).getLast? (evR rs j l[j]) = true := by
    cases j with
    | zero => rfl
    | succ k =>
      have hk' : k < l.length := by omega
      have hk : k < (evsR rs 0 l).length := by omega
      rw [last_take hk, evsR_at rs l k hk' hk]
      have := (evRnd_ok (hz (k + 1) hj')).2.2.1
      rw [List.nil_append, last_take hk'] at this
      simp only [ordB, decide_eq_true_eq] at this ⊢
      unfold lessE at this ⊢
      show l[k].2.1.1 < l[k + 1].2.1.1 ∨ (l[k].2.1.1 = l[k + 1].2.1.1 ∧ ((k + 1 : Nat) : Int) < ((k + 1 + 1 : Nat) : Int))
      omega
  rw [ho, if_neg (by simp), if_neg]
  rintro ⟨y, hy, e⟩
  obtain ⟨k, hk, rfl⟩ := List.mem_iff_getElem.1 hy
  rw [List.length_take] at hk
  have hk1 : k < l.length := by omega
  have hk2 : k < (evsR rs 0 l).length := by omega
  rw [List.getElem_take, evsR_at rs l k hk1 hk2] at e
  have e : ((k + 1 : Nat) : Int) = ((j + 1 : Nat) : Int) := e
  omega
theorem doc_red {d : Doc} (h : docChk d = 0) (h16 : (regsR d.2.2.2.2.2.1 d.2.2.2.2.2.2.1 []).length ≤ 16) : docChk (redF d) = 0 := by
  obtain ⟨h1, h2, h3⟩ := doc_parts h
  have hg : goodE d.2.2.2.2.2.1 d.2.2.2.2.2.2.1 := (chk_evs h).2
  have hall := regsR_all _ [] hg fun r hr => by cases hr
  unfold docChk
  have e1 : (redF d).2.2.2.2.2.1 = regsR d.2.2.2.2.2.1 d.2.2.2.2.2.2.1 [] := rfl
  have e2 : (redF d).2.2.2.2.2.2.1 = evsR d.2.2.2.2.2.1 0 d.2.2.2.2.2.2.1 := rfl
  have hr : regsChk (regsR d.2.2.2.2.2.1 d.2.2.2.2.2.2.1 []) = 0 := by
    unfold regsChk
    rw [if_neg (by omega)]
    refine chkRegs_of _ _ (fun r hr => ?_) (regsR_srt _ _ List.Pairwise.nil) fun q hq => by cases hq
    obtain ⟨p, hp, rfl⟩ := hall r hr
    exact regOf_chk hp
  rw [if_neg (by rw [head_red h1 h2]; simp), e1, hr, if_neg (by simp), e2, evsR_len, if_neg (by omega), if_neg (by rw [evs_red hg h2 h3]; simp)]
  rfl
theorem red_small2 {d : Doc} (hs : smallD d) (h : docChk d = 0) (h16 : (regsR d.2.2.2.2.2.1 d.2.2.2.2.2.2.1 []).length ≤ 16) : smallD (redF d) := by
  have hg : goodE d.2.2.2.2.2.1 d.2.2.2.2.2.2.1 := (chk_evs h).2
  refine ⟨hs.1, by show (regsR d.2.2.2.2.2.1 d.2.2.2.2.2.2.1 []).length ≤ _; omega, fun y hy => ?_, fun c hc => by cases hc⟩
  have hy : y ∈ evsR d.2.2.2.2.2.1 0 d.2.2.2.2.2.2.1 := hy
  obtain ⟨j, hj, rfl⟩ := List.mem_iff_getElem.1 hy
  have hj' : j < d.2.2.2.2.2.2.1.length := by rw [evsR_len] at hj; exact hj
  have hx := List.getElem_mem hj'
  rw [evsR_at _ _ j hj' hj]
  intro r hr
  obtain ⟨q, hq, rfl⟩ := List.mem_map.1 (show r ∈ (d.2.2.2.2.2.2.1[j]).2.2.2.2.2.map back from hr)
  obtain ⟨_, _, _, _, _, h6, _⟩ := ev_ok (hg _ hx)
  exact back_small (hs.2.2.1 _ hx q hq) (rowE_zero (h6 q hq)).1
theorem red_again {d : Doc} {v : Int} (h : acceptS d = some (v, 0)) : docChk (redF d) = 0 ∧ acceptS (redF d) = some (-1, 0) ∧ redD (redF d) = some (redF d) := by
  obtain ⟨h1, h2, h3, h4⟩ := acceptS_zero h
  have hg : goodE d.2.2.2.2.2.1 d.2.2.2.2.2.2.1 := (chk_evs h1).2
  have hp : ∀ x ∈ d.2.2.2.2.2.2.1, ∀ i, placeE (evR d.2.2.2.2.2.1 i x) (regsR d.2.2.2.2.2.1 d.2.2.2.2.2.2.1 []) = placeE x d.2.2.2.2.2.1 := fun x hx i => place_again hg hx i
  have hc := doc_red h1 h4
  refine ⟨hc, ?_, ?_⟩
  · unfold acceptS
    have e : (redF d).2.2.1 = d.2.2.1 := rfl
    rw [if_neg (by rw [hc]; simp), e, if_neg (not_not_intro h2)]
    exact (acc_again d.2.2.2.2.2.2.1 0 [] hp).trans h3
  · rw [redD_eq hc]
    congr 1
    have e1 := regs_again d.2.2.2.2.2.2.1 0 [] hp
    have e2 := evs_again d.2.2.2.2.2.2.1 0 hp hg
    have e3 := evsR_len d.2.2.2.2.2.1 d.2.2.2.2.2.2.1 0
    have e4 : len (evsR d.2.2.2.2.2.1 0 d.2.2.2.2.2.2.1) = len d.2.2.2.2.2.2.1 := by unfold len; rw [e3]
    show ((d.1, d.2.1, d.2.2.1, d.2.2.2.1, len (evsR d.2.2.2.2.2.1 0 d.2.2.2.2.2.2.1), regsR (regsR d.2.2.2.2.2.1 d.2.2.2.2.2.2.1 []) (evsR d.2.2.2.2.2.1 0 d.2.2.2.2.2.2.1) [], evsR (regsR d.2.2.2.2.2.1 d.2.2.2.2.2.2.1 []) 0 (evsR d.2.2.2.2.2.1 0 d.2.2.2.2.2.2.1), []) : Doc) = _
    rw [e1, e2, e4]
    rfl
theorem reduced_true {x : Doc} (hb : wtD x ≤ 1048576) : l24_StlReduced fuelH x = some true := by
  unfold l24_StlReduced
  have hs := few_small hb
  obtain ⟨⟨v, w⟩, hv⟩ := accept_some (fewD x)
  obtain ⟨y, hy, hyy⟩ := redD_small hs
  rw [awake24, bnd_some', cnd_f (by rfl), few_eq, bnd_some', stl_reduce hs, hy, bnd_some', stl_accept hs, hv, bnd_some']
  by_cases hw : w = 0
  · subst hw
    obtain ⟨h1, h2, h3, h4⟩ := acceptS_zero hv
    obtain ⟨k1, k2, k3⟩ := red_again hv
    have e := redD_eq h1
    rw [hy] at e
    injection e with e
    subst e
    have hs2 := red_small2 hs h1 h4
    rw [cnd_f (ine_f rfl), stl_accept hs2, k2, bnd_some', document_check hs2, k1, bnd_some', cnd_t (ieq_t rfl), cnd_t (ieq_t rfl), cnd_t (ieq_t rfl), stl_reduce hs2, k3, bnd_some', hyy]
    rfl
  · rw [cnd_t (ine_t hw)]
end
end Go.Mo
end
