/-
  Texts put together, in build order: UX UY.
-/
import Derived.Test.YtmhoognbjmdddaaGreatDoorVfB
set_option linter.all false

section
/-
  Plain facts: the file of a document, both sides; SubripAccepts and SubripEncodes return true.
-/
namespace Go.Mo
open Go Go.W Go.Lib
set_option maxRecDepth 100000
noncomputable section

theorem wu_id {x : Int} (h : 0 ≤ x ∧ x ≤ 9223372036854775807) : wr .u64 x = x := by
  show IntKind.wrap .u64 x = x
  unfold IntKind.wrap
  simp only [IntKind.bits, IntKind.signed, Bool.false_and, show (2 : Int) ^ 64 = 18446744073709551616 from rfl]
  rw [if_neg (by simp)]
  omega
def tkS (r : UInt8) : Int := (timebase_Ticks fuelH r).getD 0
def tkB (r : UInt8) : Bool := decide (timebase_Ticks fuelH r = some (tkS r)) && (decide (tvB r = false) || (decide (r02_Ticks fuelH r = some (tkS r)) && (decide (2002 ≤ tkS r) && decide (tkS r ≤ 5005))))
theorem tk_tab (r : UInt8) : tkB r = true := all_u8 (P := tkB) (by kernel_rfl) r
theorem tk_facts (r : UInt8) : timebase_Ticks fuelH r = some (tkS r) ∧ (tvB r = true → r02_Ticks fuelH r = some (tkS r) ∧ 2002 ≤ tkS r ∧ tkS r ≤ 5005) := by
  have h := tk_tab r
  unfold tkB at h
  rw [Bool.and_eq_true, Bool.or_eq_true, Bool.and_eq_true, Bool.and_eq_true] at h
  refine ⟨of_decide_eq_true h.1, fun hv => ?_⟩
  rcases h.2 with k | ⟨k1, k2, k3⟩
  · have := of_decide_eq_true k
    rw [hv] at this
    cases this
  · exact ⟨of_decide_eq_true k1, of_decide_eq_true k2, of_decide_eq_true k3⟩
def quo (n d : Int) : Int := if 2 * (n % d) < d then n / d else n / d + 1
def timS (r : UInt8) (f : Int) : Int × Int := if tvB r = false then (0, 3) else if f < 0 then (0, 2) else if 10378368000 / tkS r < f then (0, 2) else (f * tkS r, 0)
def milS (r : UInt8) (f : Int) : Int × Int := if (timS r f).2 ≠ 0 then (0, (timS r f).2) else (quo (timS r f).1 120, 0)
theorem tdiv_w2 {a b : Int} (ha : 0 ≤ a ∧ a ≤ 10378368000) (hb : 0 < b) : w64 (idiv a b) = a / b := by
  unfold idiv
  have h1 := Int.ediv_nonneg ha.1 (Int.le_of_lt hb)
  have h2 := Int.ediv_le_self b ha.1
  rw [Int.tdiv_eq_ediv_of_nonneg ha.1, w64_id (by omega)]
theorem tim_bd (r : UInt8) (f : Int) (h : (timS r f).2 = 0) : 0 ≤ (timS r f).1 ∧ (timS r f).1 ≤ 10378368000 := by
  unfold timS at h ⊢
  split
  · simp
  split
  · simp
  split
  · simp
  rename_i h1 h2 h3
  obtain ⟨_, hk⟩ := tk_facts r
  obtain ⟨_, k1, k2⟩ := hk (by simpa using h1)
  have h4 : f ≤ 10378368000 / tkS r := by omega
  have h5 : f * tkS r ≤ (10378368000 / tkS r) * tkS r := Int.mul_le_mul_of_nonneg_right h4 (by omega)
  have h6 : (10378368000 / tkS r) * tkS r ≤ 10378368000 := Int.ediv_mul_le _ (by omega)
  have h7 : 0 ≤ f * tkS r := Int.mul_nonneg (by omega) (by omega)
  exact ⟨h7, by show f * tkS r ≤ _; omega⟩
theorem time_one {r : UInt8} {f : Int} {T : Option Int} (hv : tvB r = true) (hT : T = some (tkS r)) : cnd (ilt f (0 : Int)) (some ((0 : Int), (2 : Int))) (bnd T fun v1 => grd (ine v1 (0 : Int)) <| cnd (ilt (w64 (idiv (10378368000 : Int) v1)) f) (some ((0 : Int), (2 : Int))) (bnd T fun v2 => some (w64 (imul f v2), (0 : Int)))) = some (timS r f) := by
  obtain ⟨_, k2, k3⟩ := (tk_facts r).2 hv
  have hw := tdiv_w2 (a := 10378368000) (b := tkS r) (by omega) (by omega)
  subst hT
  rw [cnd_ilt]
  by_cases h1 : f < 0
  · rw [if_pos h1]; unfold timS; rw [if_neg (by rw [hv]; simp), if_pos h1]
  rw [if_neg h1, bnd_some', grd_t (ine_t (by omega)), hw, cnd_ilt]
  by_cases h2 : 10378368000 / tkS r < f
  · rw [if_pos h2]; unfold timS; rw [if_neg (by rw [hv]; simp), if_neg h1, if_pos h2]
  rw [if_neg h2, bnd_some']
  have hb := tim_bd r f (by unfold timS; rw [if_neg (by rw [hv]; simp), if_neg h1, if_neg h2])
  unfold timS at hb ⊢
  rw [if_neg (by rw [hv]; simp), if_neg h1, if_neg h2] at hb ⊢
  simp only at hb
  unfold imul
  rw [w64_id (by omega)]
theorem time_both (r : UInt8) (f : Int) : timebase_Time fuelH (r, f) = some (timS r f) ∧ r02_Time fuelH (r, f) = some (timS r f) := by
  obtain ⟨t1, _⟩ := tv_eq r
  obtain ⟨t2, _⟩ := r02_eq r
  obtain ⟨k0, hk⟩ := tk_facts r
  refine ⟨?_, ?_⟩
  · unfold timebase_Time
    simp only
    rw [t1, bnd_some']
    cases hv : tvB r with
    | false => rw [cnd_t (by rfl)]; unfold timS; rw [if_pos hv]
    | true => rw [cnd_f (by rfl)]; exact time_one hv k0
  · unfold r02_Time
    simp only
    rw [t2, bnd_some']
    cases hv : tvB r with
    | false => rw [cnd_t (by rfl)]; unfold timS; rw [if_pos hv]
    | true => rw [cnd_f (by rfl)]; exact time_one hv (hk hv).1
theorem ratio_quo {n d : Int} (h0 : 0 ≤ n ∧ n ≤ 10378368000) (hd : 100 ≤ d ∧ d ≤ 6000) : ratio_Quotient fuelH (n, d, 2) = some (quo n d, 0) := by
  have e1 := Int.tdiv_eq_ediv_of_nonneg (b := d) h0.1
  have e2 := Int.tmod_eq_emod_of_nonneg (b := d) h0.1
  have hm0 := Int.emod_nonneg n (show d ≠ 0 by omega)
  have hm1 := Int.emod_lt_of_pos n (show 0 < d by omega)
  have hq0 := Int.ediv_nonneg h0.1 (show 0 ≤ d by omega)
  have hq1 := Int.ediv_le_self d h0.1
  have s1 : ∀ x : Int, 0 ≤ x → x ≤ 10378368000 → ratio_size fuelH x = some x := fun x hx hx2 => by
    unfold ratio_size
    rw [cnd_f (ilt_f (by omega)), wu_id (by omega)]
  unfold ratio_Quotient ratio_known ratio_away quo
  simp only
  rw [cnd_f (ieq_f (by omega)), cnd_t (by rfl), bnd_some', cnd_f (by rfl), s1 n h0.1 h0.2, s1 d (by omega) (by omega), bnd_some', bnd_some', grd_t (ine_t (by omega)), bnd_some', bnd_some', grd_t (ine_t (by omega)), jn_e, bnd_some', show ilt n 0 = false from ilt_f (by omega), show ilt d 0 = false from ilt_f (by omega)]
  unfold imod idiv
  rw [e1, e2, wu_id (x := n / d) (by omega)]
  have fin : ∀ v : Int, 0 ≤ v → v ≤ 10378368001 → (cnd (bneb false false) (some (w64 (wr .u64 (isub (0 : Int) v)), (0 : Int))) (cnd (ilt (9223372036854775807 : Int) v) (some ((0 : Int), (2 : Int))) (some (w64 v, (0 : Int))))) = some (v, 0) := fun v h1 h2 => by
    rw [cnd_f (by rfl), cnd_f (ilt_f (by omega)), w64_id (by omega)]
  have hsub : wr .u64 (isub d (n % d)) = d - n % d := by unfold isub; exact wu_id (by omega)
  rw [hsub]
  by_cases z : n % d = 0
  · rw [cnd_t (ieq_t z), bnd_some', cnd_f rfl, if_pos (by omega)]
    exact fin _ hq0 (by omega)
  rw [cnd_f (ieq_f z), cnd_f (by rfl), cnd_f (by rfl), cnd_ilt]
  have up : wr .u64 (iadd (n / d) 1) = n / d + 1 := by unfold iadd; exact wu_id (by omega)
  by_cases z1 : d - n % d < n % d
  · rw [if_pos z1, bnd_some', cnd_t rfl, if_neg (by omega), up]
    exact fin _ (by omega) (by omega)
  rw [if_neg z1, cnd_ieq]
  by_cases z2 : n % d = d - n % d
  · rw [if_pos z2, bnd_some', cnd_t (by rfl), if_neg (by omega), up]
    exact fin _ (by omega) (by omega)
  · rw [if_neg z2, bnd_some', cnd_f rfl, if_pos (by omega)]
    exact fin _ hq0 (by omega)
theorem ref_quo {n d : Int} (h0 : 0 ≤ n ∧ n ≤ 10378368000) (hd : 100 ≤ d ∧ d ≤ 6000) : r01_Quotient fuelH (n, d, 2) = some (quo n d, 0) := by
  have e1 := Int.tdiv_eq_ediv_of_nonneg (b := d) h0.1
  have e2 := Int.tmod_eq_emod_of_nonneg (b := d) h0.1
  have hm0 := Int.emod_nonneg n (show d ≠ 0 by omega)
  have hm1 := Int.emod_lt_of_pos n (show 0 < d by omega)
  have hq0 := Int.ediv_nonneg h0.1 (show 0 ≤ d by omega)
  have hq1 := Int.ediv_le_self d h0.1
  have ng : ∀ x : Int, 0 < x → x ≤ 10378368000 → r01_negative fuelH x = some (-x) := fun x hx hx2 => by
    unfold r01_negative isub
    rw [cnd_t (ilt_t hx), w64_id (by omega), Int.zero_sub]
  unfold r01_Quotient r01_Mode quo
  simp only
  rw [cnd_f (ieq_f (by omega)), cnd_t (by rfl), bnd_some', cnd_f (by rfl), jn_e, cnd_f (ieq_f (by omega)), grd_t (ine_t (by omega)), grd_t (ine_t (by omega)), jn_e]
  unfold imod idiv
  rw [e1, e2, w64_id (x := n / d) (by omega), show ilt (n % d) 0 = false from ilt_f (by omega), show ilt d 0 = false from ilt_f (by omega)]
  dsimp only
  by_cases z : n % d = 0
  · rw [cnd_f (ine_f z), cnd_t (ieq_t z), if_pos (by omega)]
  rw [cnd_t (ine_t z), cnd_f (by rfl), cnd_f (ieq_f z), cnd_f (by rfl), cnd_f (by rfl), ng _ (by omega) (by omega), ng _ (by omega) (by omega), bnd_some', bnd_some', bnd_some', cnd_ile]
  unfold isub iadd
  rw [w64_id (by omega), w64_id (by omega)]
  by_cases z1 : 2 * (n % d) < d
  · rw [if_neg (by omega), if_pos z1]
  · rw [if_pos (by omega), if_neg z1]
theorem mil_both (r : UInt8) (f : Int) : timebase_Millis fuelH (r, f) = some (milS r f) ∧ r02_Millis fuelH (r, f) = some (milS r f) := by
  obtain ⟨t1, t2⟩ := time_both r f
  unfold timebase_Millis r02_Millis milS
  rw [t1, t2, bnd_some', bnd_some']
  by_cases h : (timS r f).2 ≠ 0
  · rw [cnd_t (ine_t h), cnd_t (ine_t h), if_pos h]; exact ⟨rfl, rfl⟩
  have h : (timS r f).2 = 0 := by simpa using h
  have hb := tim_bd r f h
  rw [cnd_f (ine_f h), cnd_f (ine_f h), if_neg (by rw [h]; simp), ratio_quo hb (by omega), ref_quo hb (by omega)]
  exact ⟨rfl, rfl⟩
end
end Go.Mo
end

section
/-
  Plain facts: the file of a document, both sides; SubripAccepts and SubripEncodes return true.
-/
namespace Go.Mo
open Go Go.W Go.Lib
set_option maxRecDepth 100000
noncomputable section

theorem num_tab : ((List.range 20).all fun n => decide (lines_Decimal fuelH ((n : Int)) = some (itoa10 (n : Int))) && decide (r07_Decimal fuelH (n : Int) = some (itoa10 (n : Int))) && decide ((itoa10 (n : Int)).length ≤ 3)) = true := by kernel_rfl
theorem num_both {n : Nat} (h : n < 20) : lines_Decimal fuelH (n : Int) = some (itoa10 (n : Int)) ∧ r07_Decimal fuelH (n : Int) = some (itoa10 (n : Int)) ∧ (itoa10 (n : Int)).length ≤ 3 := by
  have := List.all_eq_true.1 num_tab n (List.mem_range.2 h)
  rw [Bool.and_eq_true, Bool.and_eq_true] at this
  exact ⟨of_decide_eq_true this.1.1, of_decide_eq_true this.1.2, of_decide_eq_true this.2⟩

def arrow : List UInt8 := [32, 45, 45, 62, 32]
def rowsQ : List Row → Int ⊕ List UInt8
  | [] => .inr []
  | r :: l => if (mkS r).2 ≠ 0 then .inl (mkS r).2 else match rowsQ l with
    | .inl e => .inl e
    | .inr t => .inr ((mkS r).1 ++ 10 :: t)
def hdQ (r : UInt8) (n : Nat) (x : Ev) : List UInt8 := itoa10 (n : Int) ++ [10] ++ (clkS (milS r x.2.1.1).1).1 ++ arrow ++ (clkS (milS r x.2.1.2).1).1 ++ [10]
def blkQ (r : UInt8) (n : Nat) (x : Ev) : Int ⊕ List UInt8 := if (milS r x.2.1.1).2 ≠ 0 then .inl (milS r x.2.1.1).2 else if (milS r x.2.1.2).2 ≠ 0 then .inl (milS r x.2.1.2).2 else match rowsQ x.2.2.2.2.2 with
  | .inl e => .inl e
  | .inr t => .inr (hdQ r n x ++ t ++ [10])
theorem clkS_len (v : Int) : (clkS v).1.length ≤ 12 := by
  unfold clkS clkB
  split
  · simp
  split
  · simp
  · simp
theorem hdQ_len {r : UInt8} {n : Nat} (hn : n < 20) (x : Ev) : (hdQ r n x).length ≤ 34 := by
  have h1 := (num_both hn).2.2
  have h2 := clkS_len (milS r x.2.1.1).1
  have h3 := clkS_len (milS r x.2.1.2).1
  unfold hdQ arrow
  simp only [List.length_append, List.length_cons, List.length_nil]
  omega
theorem mkS_lenE {r : Row} (h : rowE r = 0) : (mkS r).1.length ≤ 352 := by
  obtain ⟨h1, _, h3⟩ := rowE_zero h
  obtain ⟨h4, h5⟩ := rowChk_ok h1
  have ht := tot_lenT r fun x hx => (h5 x hx).1
  have hw := wr_len (carr r)
  obtain ⟨c1, c2⟩ := carr_len r
  unfold mkS
  rw [if_neg (by rw [h1]; simp)]
  split
  · simp
  · show ((carr r).flatMap wrX).length ≤ 352
    omega
theorem rowsQ_len : ∀ {l : List Row} {t : List UInt8}, (∀ r ∈ l, rowE r = 0) → rowsQ l = .inr t → t.length ≤ 353 * l.length
  | [], t, _, h => by
    simp only [rowsQ, Sum.inr.injEq] at h
    subst h
    simp
  | r :: l, t, hr, h => by
    simp only [rowsQ] at h
    split at h
    · cases h
    · split at h
      · cases h
      · rename_i u hu
        injection h with h
        subst h
        have h1 := rowsQ_len (fun q hq => hr q (List.mem_cons_of_mem _ hq)) hu
        have h2 := mkS_lenE (hr r List.mem_cons_self)
        simp only [List.length_append, List.length_cons]
        omega
def rwR {R : Type} (E : Int → Option R) (_ : Nat) (r : Row) (a : List UInt8) : Option R ⊕ List UInt8 := if (mkS r).2 ≠ 0 then .inl (E (mkS r).2) else .inr (a ++ ((mkS r).1 ++ [10]))
theorem rw_it {R : Type} (E : Int → Option R) (K : List UInt8 → Option R) : ∀ (l : List Row) (i : Nat) (a : List UInt8), itI (rwR E) K i l a = match rowsQ l with
    | .inl e => E e
    | .inr t => K (a ++ t)
  | [], _, a => by simp [itI, rowsQ]
  | r :: l, i, a => by
    simp only [itI, rwR, rowsQ]
    by_cases h : (mkS r).2 ≠ 0
    · rw [if_pos h, if_pos h]
    · rw [if_neg h, if_neg h]
      refine (rw_it E K l (i + 1) (a ++ ((mkS r).1 ++ [10]))).trans ?_
      cases rowsQ l with
      | inl e => rfl
      | inr t => simp
theorem cat_ok {a b : List UInt8} (h : a.length + b.length ≤ 100000000) : catOk (iadd (len a) (len b)) = true := catW h
theorem ev_fit {d : Doc} (hs : smallD d) (h : docChk d = 0) {x : Ev} (hx : x ∈ d.2.2.2.2.2.2.1) : x.2.2.2.2.2.length ≤ 4 ∧ (∀ r ∈ x.2.2.2.2.2, rowE r = 0) ∧ ∀ r ∈ x.2.2.2.2.2, smallR r := by
  obtain ⟨_, _, _, _, h4, h5, _⟩ := ev_ok (ev_rows h hx)
  exact ⟨h4, h5, fun r hr => hs.2.2.1 x hx r hr⟩
theorem sub_block {r : UInt8} {n : Nat} (hn : n < 20) {x : Ev} (h4 : x.2.2.2.2.2.length ≤ 4) (h5 : ∀ q ∈ x.2.2.2.2.2, rowE q = 0) (h6 : ∀ q ∈ x.2.2.2.2.2, smallR q) : subrip_block fuelH (r, (n : Int), x) = some (match blkQ r n x with
    | .inl e => ([], e)
    | .inr t => (t, 0)) := by
  obtain ⟨n1, _, n3⟩ := num_both hn
  unfold subrip_block blkQ
  simp only
  rw [(mil_both r _).1, bnd_some']
  by_cases m1 : (milS r x.2.1.1).2 ≠ 0
  · rw [cnd_t (ine_t m1), if_pos m1]
  rw [cnd_f (ine_f (show (milS r x.2.1.1).2 = 0 by simpa using m1)), if_neg m1, (mil_both r _).1, bnd_some']
  by_cases m2 : (milS r x.2.1.2).2 ≠ 0
  · rw [cnd_t (ine_t m2), if_pos m2]
  have c1 := clkS_len (milS r x.2.1.1).1
  have c2 := clkS_len (milS r x.2.1.2).1
  rw [cnd_f (ine_f (show (milS r x.2.1.2).2 = 0 by simpa using m2)), if_neg m2, sub_clock, sub_clock, bnd_some', bnd_some', n1, bnd_some', grd_t (cat_ok (by simp only [List.length_cons, List.length_nil]; omega)), grd_t (cat_ok (by simp only [lapp, List.length_append, List.length_cons, List.length_nil]; omega)), grd_t (cat_ok (by simp only [lapp, List.length_append, List.length_cons, List.length_nil]; omega)), grd_t (cat_ok (by simp only [lapp, List.length_append, List.length_cons, List.length_nil]; omega)), grd_t (cat_ok (by simp only [lapp, List.length_append, List.length_cons, List.length_nil]; omega)), jn_e]
  have hh := hdQ_len (r := r) hn x
  refine Eq.trans (lst_it (l := x.2.2.2.2.2) (fun (a : List UInt8) (p : Nat) => (a, (p : Int))) (rwR fun e => some (([] : List UInt8), e)) (fun a => some (a ++ [10], (0 : Int))) (fun i a => a.length ≤ 34 + 353 * i) (fun self a i hi hI => ?_) (fun self a hI => ?_) fuelH 0 (hdQ r n x) (Nat.zero_le _) (by have := fuelH_eq; omega) (by omega)) ?_
  · have hm := mkS_lenE (h5 _ (List.getElem_mem hi))
    simp only
    rw [cnd_t (ilt_t (by simp only [len]; omega)), grd_t (inb_t (by simp only [len]; omega)), lget_i hi, sub_markup (h6 _ (List.getElem_mem hi)), bnd_some', w64_succ hi (by omega)]
    unfold rwR
    by_cases m : (mkS x.2.2.2.2.2[i]).2 ≠ 0
    · rw [cnd_t (ine_t m), if_pos m]; rfl
    · rw [cnd_f (ine_f (show (mkS x.2.2.2.2.2[i]).2 = 0 by simpa using m)), if_neg m, grd_t (cat_ok (by simp only [List.length_cons, List.length_nil]; omega)), grd_t (cat_ok (by simp only [lapp, List.length_append, List.length_cons, List.length_nil]; omega))]
      exact ⟨rfl, by simp only [List.length_append, List.length_cons, List.length_nil]; omega⟩
  · simp only
    rw [cnd_f (ilt_f (by simp only [len]; omega)), grd_t (cat_ok (by simp only [List.length_cons, List.length_nil]; omega))]
    rfl
  · rw [List.drop_zero, rw_it]
    cases rowsQ x.2.2.2.2.2 with
    | inl e => rfl
    | inr t => rfl

def filQ (r : UInt8) : Nat → List Ev → (Nat × Int) ⊕ List UInt8
  | _, [] => .inr []
  | i, x :: l => match blkQ r (i + 1) x with
    | .inl e => .inl (i, e)
    | .inr t => match filQ r (i + 1) l with
      | .inl z => .inl z
      | .inr u => .inr (t ++ u)
def encQ (d : Doc) : List UInt8 × Int × Int := if docChk d ≠ 0 then ([], -1, docChk d) else match filQ d.2.2.1 0 d.2.2.2.2.2.2.1 with
  | .inl (i, e) => ([], (i : Int), e)
  | .inr s => if 262144 < s.length then ([], -1, 9) else (s, -1, 0)
def fiR {R : Type} (E : Nat → Int → Option R) (r : UInt8) (i : Nat) (x : Ev) (a : List UInt8) : Option R ⊕ List UInt8 := match blkQ r (i + 1) x with
  | .inl e => .inl (E i e)
  | .inr t => .inr (a ++ t)
theorem fi_it {R : Type} (E : Nat → Int → Option R) (K : List UInt8 → Option R) (r : UInt8) : ∀ (l : List Ev) (i : Nat) (a : List UInt8), itI (fiR E r) K i l a = match filQ r i l with
    | .inl z => E z.1 z.2
    | .inr s => K (a ++ s)
  | [], _, a => by simp [itI, filQ]
  | x :: l, i, a => by
    simp only [itI, fiR, filQ]
    cases blkQ r (i + 1) x with
    | inl e => rfl
    | inr t =>
      refine (fi_it E K r l (i + 1) (a ++ t)).trans ?_
      cases filQ r (i + 1) l with
      | inl z => rfl
      | inr u => simp
theorem blkQ_len {r : UInt8} {n : Nat} (hn : n < 20) {x : Ev} (h4 : x.2.2.2.2.2.length ≤ 4) (h5 : ∀ q ∈ x.2.2.2.2.2, rowE q = 0) {t : List UInt8} (h : blkQ r n x = .inr t) : t.length ≤ 1447 := by
  unfold blkQ at h
  split at h
  · cases h
  split at h
  · cases h
  split at h
  · cases h
  · rename_i u hu
    injection h with h
    subst h
    have h1 := rowsQ_len h5 hu
    have h2 := hdQ_len (r := r) hn x
    simp only [List.length_append, List.length_cons, List.length_nil]
    omega
/-- a document of few events -/
def fewE (d : Doc) : Prop := d.2.2.2.2.2.2.1.length ≤ 6
theorem sub_encode {d : Doc} (hs : smallD d) (hf : fewE d) : subrip_encode fuelH d = some (encQ d) := by
  unfold subrip_encode encQ
  unfold fewE at hf
  rw [document_check hs, bnd_some']
  by_cases hc : docChk d ≠ 0
  · rw [cnd_t (ine_t hc), if_pos hc]
  have hc : docChk d = 0 := by simpa using hc
  rw [cnd_f (ine_f hc), if_neg (by rw [hc]; simp), jn_e]
  refine Eq.trans (lst_it (l := d.2.2.2.2.2.2.1) (fun (a : List UInt8) (p : Nat) => ((p : Int), ((), a))) (fiR (fun i e => some (([] : List UInt8), (i : Int), e)) d.2.2.1) (fun a => some (if 262144 < a.length then (([] : List UInt8), (-1 : Int), (9 : Int)) else (a, -1, 0))) (fun i a => a.length ≤ 1447 * i) (fun self a i hi hI => ?_) (fun self a hI => ?_) fuelH 0 [] (Nat.zero_le _) (by have := fuelH_eq; omega) (Nat.zero_le _)) ?_
  · obtain ⟨h4, h5, h6⟩ := ev_fit hs hc (List.getElem_mem hi)
    simp only
    rw [cnd_t (ilt_t (by simp only [len]; omega)), grd_t (inb_t (by simp only [len]; omega)), lget_i hi, w64_succ hi (by omega), sub_block (r := d.2.2.1) (n := i + 1) (by omega) h4 h5 h6, bnd_some']
    unfold fiR
    cases hb : blkQ d.2.2.1 (i + 1) d.2.2.2.2.2.2.1[i] with
    | inl e =>
      simp only
      have he : e ≠ 0 := by
        unfold blkQ at hb
        split at hb
        · rename_i k; injection hb with hb; rw [← hb]; exact k
        split at hb
        · rename_i k; injection hb with hb; rw [← hb]; exact k
        split at hb
        · rename_i u hu
          injection hb with hb
          rw [← hb]
          have : ∀ (l : List Row) (z : Int), rowsQ l = .inl z → z ≠ 0 := by
            intro l
            induction l with
            | nil => intro z h; cases h
            | cons q l ih =>
              intro z h
              simp only [rowsQ] at h
              split at h
              · rename_i k; injection h with h; rw [← h]; exact k
              · split at h
                · rename_i w hw; injection h with h; rw [← h]; exact ih _ hw
                · cases h
          exact this _ _ hu
        · cases hb
      rw [cnd_t (ine_t he)]
      rfl
    | inr t =>
      have ht := blkQ_len (by omega) h4 h5 hb
      simp only
      rw [cnd_f (ine_f rfl), write_str (by omega), bnd_some']
      exact ⟨rfl, by simp only [List.length_append]; omega⟩
  · simp only
    rw [cnd_f (ilt_f (by simp only [len]; omega))]
    unfold strings_Builder_Len
    rw [bnd_some', cnd_ilt]
    by_cases hk : 262144 < a.length
    · rw [if_pos (by simp only [len]; omega), if_pos hk]
    · rw [if_neg (by simp only [len]; omega), if_neg hk]
  · rw [List.drop_zero, fi_it]
    cases filQ d.2.2.1 0 d.2.2.2.2.2.2.1 with
    | inl z => rfl
    | inr s => rfl
theorem blk_err {r : UInt8} {n : Nat} {x : Ev} {e : Int} (hb : blkQ r n x = .inl e) : e ≠ 0 := by
  unfold blkQ at hb
  split at hb
  · rename_i k; injection hb with hb; rw [← hb]; exact k
  split at hb
  · rename_i k; injection hb with hb; rw [← hb]; exact k
  split at hb
  · rename_i u hu
    injection hb with hb
    rw [← hb]
    have : ∀ (l : List Row) (z : Int), rowsQ l = .inl z → z ≠ 0 := by
      intro l
      induction l with
      | nil => intro z h; cases h
      | cons q l ih =>
        intro z h
        simp only [rowsQ] at h
        split at h
        · rename_i k; injection h with h; rw [← h]; exact k
        · split at h
          · rename_i w hw; injection h with h; rw [← h]; exact ih _ hw
          · cases h
    exact this _ _ hu
  · cases hb
theorem fil_err {r : UInt8} : ∀ {l : List Ev} {i : Nat} {z : Nat × Int}, filQ r i l = .inl z → z.2 ≠ 0
  | [], _, _, h => by cases h
  | x :: l, i, z, h => by
    simp only [filQ] at h
    split at h
    · rename_i e he
      injection h with h
      rw [← h]
      exact blk_err he
    · split at h
      · rename_i w hw
        injection h with h
        rw [← h]
        exact fil_err hw
      · cases h
def filV (d : Doc) : List UInt8 × Int × Int := match filQ d.2.2.1 0 d.2.2.2.2.2.2.1 with
  | .inl (i, e) => ([], (i : Int), e)
  | .inr s => (s, -1, 0)
theorem ref_file {d : Doc} (hs : smallD d) (hf : fewE d) (hc : docChk d = 0) : r19_file fuelH d = some (filV d) := by
  unfold r19_file filV
  unfold fewE at hf
  rw [jn_e]
  refine Eq.trans (lst_it (l := d.2.2.2.2.2.2.1) (fun (a : List UInt8) (p : Nat) => (a, (p : Int))) (fiR (fun i e => some (([] : List UInt8), (i : Int), e)) d.2.2.1) (fun a => some (a, (-1 : Int), (0 : Int))) (fun i a => a.length ≤ 1447 * i) (fun self a i hi hI => ?_) (fun self a hI => ?_) fuelH 0 [] (Nat.zero_le _) (by have := fuelH_eq; omega) (Nat.zero_le _)) ?_
  · obtain ⟨h4, h5, h6⟩ := ev_fit hs hc (List.getElem_mem hi)
    obtain ⟨_, n2, n3⟩ := num_both (n := i + 1) (by omega)
    simp only
    rw [cnd_t (ilt_t (by simp only [len]; omega)), jn_e, grd_t (inb_t (by simp only [len]; omega)), w64_succ hi (by omega)]
    simp only [lget_i hi]
    generalize d.2.2.2.2.2.2.1[i] = x at h4 h5 h6 ⊢
    unfold fiR blkQ
    rw [(mil_both d.2.2.1 _).2, bnd_some']
    by_cases m1 : (milS d.2.2.1 x.2.1.1).2 ≠ 0
    · rw [cnd_t (ine_t m1), if_pos m1]; rfl
    rw [cnd_f (ine_f (show (milS d.2.2.1 x.2.1.1).2 = 0 by simpa using m1)), if_neg m1, (mil_both d.2.2.1 _).2, bnd_some']
    by_cases m2 : (milS d.2.2.1 x.2.1.2).2 ≠ 0
    · rw [cnd_t (ine_t m2), if_pos m2]; rfl
    have c1 := clkS_len (milS d.2.2.1 x.2.1.1).1
    have c2 := clkS_len (milS d.2.2.1 x.2.1.2).1
    rw [cnd_f (ine_f (show (milS d.2.2.1 x.2.1.2).2 = 0 by simpa using m2)), if_neg m2, ref_clock, ref_clock, bnd_some', bnd_some', n2, bnd_some', grd_t (cat_ok (by simp only [List.length_cons, List.length_nil]; omega)), grd_t (cat_ok (by simp only [lapp, List.length_append, List.length_cons, List.length_nil]; omega)), grd_t (cat_ok (by simp only [lapp, List.length_append, List.length_cons, List.length_nil]; omega)), grd_t (cat_ok (by simp only [lapp, List.length_append, List.length_cons, List.length_nil]; omega)), grd_t (cat_ok (by simp only [lapp, List.length_append, List.length_cons, List.length_nil]; omega)), grd_t (cat_ok (by simp only [lapp, List.length_append, List.length_cons, List.length_nil]; omega)), jn_e]
    have hh := hdQ_len (r := d.2.2.1) (n := i + 1) (by omega) x
    have inner : ∀ X : Option (List UInt8 × Int × Int), X = (match rowsQ x.2.2.2.2.2 with
        | .inl e => some (([] : List UInt8), (i : Int), e)
        | .inr t => self (a ++ hdQ d.2.2.1 (i + 1) x ++ t ++ [10], ((i + 1 : Nat) : Int))) → Rnd X self (fun a => (a, ((i + 1 : Nat) : Int))) (fun a => a.length ≤ 1447 * (i + 1)) (match (match rowsQ x.2.2.2.2.2 with
        | .inl e => (.inl e : Int ⊕ List UInt8)
        | .inr t => .inr (hdQ d.2.2.1 (i + 1) x ++ t ++ [10])) with
        | .inl e => .inl (some (([] : List UInt8), (i : Int), e))
        | .inr t => .inr (a ++ t)) := fun X hX => by
      rw [hX]
      cases hq : rowsQ x.2.2.2.2.2 with
      | inl e => rfl
      | inr t =>
        have ht := rowsQ_len h5 hq
        refine ⟨?_, ?_⟩
        · simp only [List.append_assoc]
        · simp only [List.length_append, List.length_cons, List.length_nil]; omega
    refine inner _ ?_
    refine Eq.trans (lst_it (l := x.2.2.2.2.2) (fun (a : List UInt8) (p : Nat) => (a, (p : Int))) (rwR fun e => some (([] : List UInt8), (i : Int), e)) (fun b => self (b ++ [10], ((i + 1 : Nat) : Int))) (fun j b => b.length ≤ a.length + 34 + 353 * j) (fun self' b j hj hJ => ?_) (fun self' b hJ => ?_) fuelH 0 (a ++ hdQ d.2.2.1 (i + 1) x) (Nat.zero_le _) (by have := fuelH_eq; omega) (by simp only [List.length_append]; omega)) ?_
    · have hm := mkS_lenE (h5 _ (List.getElem_mem hj))
      simp only
      rw [cnd_t (ilt_t (by simp only [len]; omega)), grd_t (inb_t (by simp only [len]; omega)), lget_i hj, ref_markup (h6 _ (List.getElem_mem hj)), bnd_some', w64_succ hj (by omega)]
      unfold rwR
      by_cases m : (mkS x.2.2.2.2.2[j]).2 ≠ 0
      · rw [cnd_t (ine_t m), if_pos m]; rfl
      · rw [cnd_f (ine_f (show (mkS x.2.2.2.2.2[j]).2 = 0 by simpa using m)), if_neg m, grd_t (cat_ok (by simp only [List.length_cons, List.length_nil]; omega)), grd_t (cat_ok (by simp only [lapp, List.length_append, List.length_cons, List.length_nil]; omega))]
        exact ⟨rfl, by simp only [List.length_append, List.length_cons, List.length_nil]; omega⟩
    · simp only
      rw [cnd_f (ilt_f (by simp only [len]; omega)), grd_t (cat_ok (by simp only [List.length_cons, List.length_nil]; omega))]
      rfl
    · rw [List.drop_zero, rw_it]
  · simp only
    rw [cnd_f (ilt_f (by simp only [len]; omega))]
  · rw [List.drop_zero, fi_it]
    cases filQ d.2.2.1 0 d.2.2.2.2.2.2.1 with
    | inl z => rfl
    | inr s => rfl
theorem ref_accept {d : Doc} (hs : smallD d) (hf : fewE d) : r19_Accept fuelH d = some (encQ d).2 := by
  unfold r19_Accept encQ
  rw [r12_check hs, bnd_some']
  by_cases hc : docChk d ≠ 0
  · rw [cnd_t (ine_t hc), if_pos hc]
  have hc : docChk d = 0 := by simpa using hc
  rw [cnd_f (ine_f hc), if_neg (by rw [hc]; simp), ref_file hs hf hc, bnd_some']
  unfold filV
  cases hq : filQ d.2.2.1 0 d.2.2.2.2.2.2.1 with
  | inl z =>
    have := fil_err hq
    simp only
    rw [cnd_t (ine_t this)]
  | inr s =>
    simp only
    rw [cnd_f (ine_f rfl), cnd_ilt]
    by_cases hk : 262144 < s.length
    · rw [if_pos (by simp only [len]; omega), if_pos hk]
    · rw [if_neg (by simp only [len]; omega), if_neg hk]
theorem ref_encode {d : Doc} (hs : smallD d) (hf : fewE d) : r19_Encode fuelH d = some ((encQ d).1, (encQ d).2.2) := by
  unfold r19_Encode
  rw [ref_accept hs hf, bnd_some']
  unfold encQ
  by_cases hc : docChk d ≠ 0
  · rw [if_pos hc, cnd_t (ine_t hc)]
  have hc : docChk d = 0 := by simpa using hc
  rw [if_neg (by rw [hc]; simp), ref_file hs hf hc]
  unfold filV
  cases hq : filQ d.2.2.1 0 d.2.2.2.2.2.2.1 with
  | inl z =>
    have := fil_err hq
    simp only
    rw [cnd_t (ine_t this)]
  | inr s =>
    simp only
    by_cases hk : 262144 < s.length
    · rw [if_pos hk, cnd_t (by rfl)]
    · rw [if_neg hk, cnd_f (ine_f rfl), bnd_some']

theorem few_few (d : Doc) : fewE (fewQ d) := by
  show (d.2.2.2.2.2.2.1.take 6).length ≤ 6
  rw [List.length_take]
  omega
theorem encodes19_true {x : Doc} (hb : wtD x ≤ 1048576) : l19_SubripEncodes fuelH x = some true := by
  unfold l19_SubripEncodes
  obtain ⟨hs, _⟩ := few_smallQ hb
  have hf := few_few x
  unfold subrip_Encode
  rw [awake19, bnd_some', cnd_f (by rfl), few_eqQ, bnd_some', sub_encode hs hf, bnd_some', bnd_some', ref_encode hs hf, bnd_some', cnd_t (by rw [seq_t]), ieq_t rfl]
end
end Go.Mo
end
