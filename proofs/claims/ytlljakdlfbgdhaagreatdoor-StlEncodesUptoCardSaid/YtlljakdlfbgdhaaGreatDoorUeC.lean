/-
  Texts put together, in build order: RI RJ RK RL RM RN RO RP RQ RR RS PFt PI PJ PK PL PMb PN PO PP PQ PR PS PT SA SC.
-/
import Derived.Test.YtlljakdlfbgdhaaGreatDoorUeB
set_option linter.all false

section
/-
  Plain facts: the place of a good event, and its region.
-/
namespace Go.Mo
open Go Go.W Go.Lib
set_option maxRecDepth 100000
noncomputable section

theorem lens_loop {l : List Int} (hl : l.length ≤ 1000000) (h0 : ∀ n ∈ l, 0 ≤ n) (K : Option (List Spot × Int)) : fixN (fun (v5 : Int → Option (List Spot × Int)) (v6 : Int) =>
      cnd (ilt v6 (len l))
        (grd (inb v6 (len l))
          (cnd (ilt (lget l (toN v6) (0 : Int)) (0 : Int))
            (some (([] : List Spot), (10 : Int)))
            (v5 (w64 (iadd v6 (1 : Int))))))
        K) fuelH (0 : Int) = K := by
  refine loop_inv (n := l.length) (fun (_ : Unit) (i : Nat) => (i : Int)) (fun _ _ => True) _ (fun self a i hi _ => ⟨(), ?_, trivial⟩) (fun self a _ => ?_) fuelH 0 () (Nat.zero_le _) (by have := fuelH_eq; omega) trivial
  · have := h0 _ (List.getElem_mem hi)
    rw [cnd_t (ilt_t (by simp only [len]; omega)), grd_t (inb_t (by simp only [len]; omega)), lget_i hi, cnd_f (ilt_f (by omega)), w64_succ hi (by omega)]
  · rw [cnd_f (ilt_f (by simp only [len]; omega))]
theorem lens_pos (l : List Row) : ∀ n ∈ lens l, 0 ≤ n := by
  intro n hn
  obtain ⟨r, _, rfl⟩ := List.mem_map.1 hn
  omega
theorem spots_eq {x : Ev} {rs : List Reg} {r : Reg} (hrs : rs.length ≤ 4000000) (h : ∀ l ∈ x.2.2.2.2.2, okR l) (hl : x.2.2.2.2.2.length ≤ 1000) (hf : findR rs x.2.2.1 = some r) : event_Spots fuelH (x, rs) = some (placeS r (lens x.2.2.2.2.2)) := by
  unfold event_Spots
  simp only
  rw [region_find _ hrs, bnd_some']
  unfold findP
  rw [hf]
  simp only
  rw [cnd_f (by rfl), event_lens_eq h (by omega), bnd_some', jn_e, lens_loop (by unfold lens; rw [List.length_map]; omega) (lens_pos _), region_place]
  rfl
theorem r11_spots_eq {x : Ev} {rs : List Reg} {r : Reg} (hrs : rs.length ≤ 4000000) (h : ∀ l ∈ x.2.2.2.2.2, okR l) (hl : x.2.2.2.2.2.length ≤ 1000) (hf : findR rs x.2.2.1 = some r) : r11_Spots fuelH (x, rs) = some (placeS r (lens x.2.2.2.2.2)) := by
  unfold r11_Spots
  simp only
  rw [r10_find, region_find _ hrs, bnd_some']
  unfold findP
  rw [hf]
  simp only
  rw [cnd_f (by rfl), jn_e]
  generalize x.2.2.2.2.2 = l at h hl ⊢
  refine loop_inv (n := l.length) (fun (a : List Int) (i : Nat) => (a, (i : Int))) (fun i a => a = lens (l.take i)) _ (fun self a i hi hI => ?_) (fun self a hI => ?_) fuelH 0 [] (Nat.zero_le _) (by have := fuelH_eq; omega) rfl
  · refine ⟨a ++ [(lenT l[i] : Int)], ?_, ?_⟩
    · have ha : a.length ≤ i := by rw [hI]; unfold lens; rw [List.length_map, List.length_take]; omega
      have hok := h _ (List.getElem_mem hi)
      simp only
      rw [cnd_t (ilt_t (by simp only [len]; omega)), grd_t (inb_t (by simp only [len]; omega)), lget_i hi, r09_len hok, bnd_some', cnd_f (ilt_f (by omega)), bnd_some', grd_t (room_t (by simp only [iadd, len, List.length_singleton]; omega)), w64_succ hi (by omega)]
      rfl
    · rw [hI]; unfold lens; rw [List.take_succ_eq_append_getElem hi, List.map_append]; rfl
  · simp only
    rw [cnd_f (ilt_f (by simp only [len]; omega)), hI, List.take_length, r10_place]
    rfl

theorem placeL_ok (r : Reg) (k : Nat) : ∀ (l : List Int) (i : Nat) (out : List Spot), (placeL r k i l out).2 = 0 → ∃ t, (placeL r k i l out).1 = out ++ t ∧ t.length = l.length ∧ ∀ n l', l = n :: l' → t[0]? = some (topOf r k + (i : Int), colOf r n, n)
  | [], i, out, _ => ⟨[], by simp [placeL], rfl, fun n l' h => by cases h⟩
  | n :: l, i, out, h => by
    simp only [placeL] at h ⊢
    by_cases h1 : n < 0
    · rw [if_pos h1] at h; cases h
    rw [if_neg h1] at h ⊢
    by_cases h2 : r.2.2.2.2.1 < n
    · rw [if_pos h2] at h; cases h
    rw [if_neg h2] at h ⊢
    obtain ⟨t, e1, e2, _⟩ := placeL_ok r k l (i + 1) _ h
    refine ⟨(topOf r k + (i : Int), colOf r n, n) :: t, by rw [e1]; simp, by simp [e2], fun m l' e => ?_⟩
    injection e with e3 e4
    subst e3
    rfl
theorem placeS_ok {r : Reg} {l : List Int} (h : (placeS r l).2 = 0) (hl : l ≠ []) : usableR r ∧ (l.length : Int) ≤ r.2.2.1 ∧ ∃ s t, (placeS r l).1 = s :: t ∧ s.1 = topOf r l.length ∧ t.length + 1 = l.length := by
  unfold placeS at h ⊢
  by_cases hu : usableR r
  · rw [if_neg (not_not_intro hu)] at h ⊢
    by_cases hk : r.2.2.1 < (l.length : Int)
    · rw [if_pos hk] at h; cases h
    rw [if_neg hk] at h ⊢
    refine ⟨hu, by omega, ?_⟩
    cases l with
    | nil => exact absurd rfl hl
    | cons n l' =>
      obtain ⟨t, e1, e2, e3⟩ := placeL_ok r _ _ _ _ h
      have e4 := e3 n l' rfl
      cases t with
      | nil => cases e2
      | cons s t =>
        refine ⟨s, t, by simpa using e1, ?_, by simpa using e2⟩
        simp only [List.getElem?_cons_zero, Option.some.injEq] at e4
        rw [e4]
        simp
  · rw [if_pos hu] at h; cases h
/-- the grid row where a good event begins, and its alignment -/
def placeE (x : Ev) (rs : List Reg) : Int × UInt8 := match findR rs x.2.2.1 with
  | some r => (topOf r x.2.2.2.2.2.length, r.2.2.2.2.2.1)
  | none => (0, 0)
theorem place_bd {x : Ev} {rs : List Reg} (h : evChk x rs = 0) : 0 ≤ (placeE x rs).1 ∧ (placeE x rs).1 ≤ 14 ∧ 1 ≤ n8 (placeE x rs).2 ∧ n8 (placeE x rs).2 ≤ 3 := by
  obtain ⟨_, _, _, h4, h5, _, r, hf, hp⟩ := ev_ok h
  have hne : lens x.2.2.2.2.2 ≠ [] := by
    unfold lens; intro e; have := congrArg List.length e; rw [List.length_map] at this; simp only [List.length_nil] at this; omega
  obtain ⟨hu, hk, _⟩ := placeS_ok hp hne
  have hb := usable_bd hu
  have hll : (lens x.2.2.2.2.2).length = x.2.2.2.2.2.length := by unfold lens; rw [List.length_map]
  rw [hll] at hk
  unfold placeE
  rw [hf]
  unfold topOf
  simp only
  split <;> omega
theorem placed_stl {d : Doc} {x : Ev} (hs : smallL x.2.2.2.2.2) (hrs : d.2.2.2.2.2.1.length ≤ 4000000) (h : evChk x d.2.2.2.2.2.1 = 0) : stl_placed fuelH (d, x) = some (placeE x d.2.2.2.2.2.1) := by
  obtain ⟨_, _, _, h4, h5, h6, r, hf, hp⟩ := ev_ok h
  have hok : ∀ l ∈ x.2.2.2.2.2, okR l := fun l hl => rowE_ok (hs l hl) (h6 l hl)
  have hne : lens x.2.2.2.2.2 ≠ [] := by
    unfold lens; intro e; have := congrArg List.length e; rw [List.length_map] at this; simp only [List.length_nil] at this; omega
  obtain ⟨hu, hk, s, t, e1, e2, e3⟩ := placeS_ok hp hne
  have hll : (lens x.2.2.2.2.2).length = x.2.2.2.2.2.length := by unfold lens; rw [List.length_map]
  rw [hll] at e2
  have hE : placeE x d.2.2.2.2.2.1 = (s.1, r.2.2.2.2.2.1) := by unfold placeE; rw [hf, e2]
  have hF : region_Find fuelH (d.2.2.2.2.2.1, x.2.2.1) = some (r, true) := by rw [region_find _ hrs]; unfold findP; rw [hf]
  unfold stl_placed
  simp only
  rw [spots_eq hrs hok (by omega) hf, bnd_some', hF, bnd_some', e1, grd_t (inb_t (by simp only [len, List.length_cons]; omega)), hE]
  rfl
theorem placed_eq {d : Doc} {x : Ev} (hs : smallL x.2.2.2.2.2) (hrs : d.2.2.2.2.2.1.length ≤ 4000000) (h : evChk x d.2.2.2.2.2.1 = 0) : stl_placed fuelH (d, x) = some (placeE x d.2.2.2.2.2.1) ∧ r24_place fuelH (x, d.2.2.2.2.2.1) = some (placeE x d.2.2.2.2.2.1) := by
  obtain ⟨_, _, _, h4, h5, h6, r, hf, hp⟩ := ev_ok h
  have hok : ∀ l ∈ x.2.2.2.2.2, okR l := fun l hl => rowE_ok (hs l hl) (h6 l hl)
  have hne : lens x.2.2.2.2.2 ≠ [] := by
    unfold lens; intro e; have := congrArg List.length e; rw [List.length_map] at this; simp only [List.length_nil] at this; omega
  obtain ⟨hu, hk, s, t, e1, e2, e3⟩ := placeS_ok hp hne
  have hll : (lens x.2.2.2.2.2).length = x.2.2.2.2.2.length := by unfold lens; rw [List.length_map]
  rw [hll] at e2
  have hE : placeE x d.2.2.2.2.2.1 = (s.1, r.2.2.2.2.2.1) := by unfold placeE; rw [hf, e2]
  have hF : region_Find fuelH (d.2.2.2.2.2.1, x.2.2.1) = some (r, true) := by rw [region_find _ hrs]; unfold findP; rw [hf]
  refine ⟨placed_stl hs hrs h, ?_⟩
  unfold r24_place
  simp only
  rw [r11_spots_eq hrs hok (by omega) hf, bnd_some', r10_find, hF, bnd_some', e1, grd_t (inb_t (by simp only [len, List.length_cons]; omega)), hE]
  rfl

def letR (a : UInt8) : UInt8 := if a = 1 then 76 else if a = 2 then 67 else 82
def regOf (p : Int × UInt8) : Reg := ([82, b8 (48 + p.1 / 10), b8 (48 + p.1 % 10), letR p.2], p.1, 15 - p.1, 0, 32, p.2, false)
def regB (x : Option Reg) (r : Reg) : Bool := match x with
  | some y => seq y.1 r.1 && (ieq y.2.1 r.2.1 && (ieq y.2.2.1 r.2.2.1 && (ieq y.2.2.2.1 r.2.2.2.1 && (ieq y.2.2.2.2.1 r.2.2.2.2.1 && (ieq (n8 y.2.2.2.2.2.1) (n8 r.2.2.2.2.2.1) && beqb y.2.2.2.2.2.2 r.2.2.2.2.2.2)))))
  | none => false
theorem regB_t {x : Option Reg} {r : Reg} (h : regB x r = true) : x = some r := by
  cases x with
  | none => cases h
  | some y =>
    simp only [regB, Bool.and_eq_true, seq_t, ieq_tt, beqb_t, n8_eq] at h
    rw [← reg_eq] at h
    rw [h]
theorem okP_mem0 {p : Int × UInt8} (h : 0 ≤ p.1 ∧ p.1 ≤ 14 ∧ 1 ≤ n8 p.2 ∧ n8 p.2 ≤ 3) : ∃ n ∈ List.range 15, ∃ a ∈ ([1, 2, 3] : List UInt8), p = ((n : Int), a) := by
  obtain ⟨n, a⟩ := p
  obtain ⟨h1, h2, h3, h4⟩ := h
  simp only at h1 h2 h3 h4
  have hn : (n.toNat : Int) = n := by omega
  have ha : a ∈ ([1, 2, 3] : List UInt8) := by
    have e1 : n8 (1 : UInt8) = 1 := rfl
    have e2 : n8 (2 : UInt8) = 2 := rfl
    have e3 : n8 (3 : UInt8) = 3 := rfl
    have : n8 a = n8 (1 : UInt8) ∨ n8 a = n8 (2 : UInt8) ∨ n8 a = n8 (3 : UInt8) := by omega
    rcases this with e | e | e <;> rw [n8_inj e] <;> simp
  exact ⟨n.toNat, List.mem_range.2 (by omega), a, ha, by rw [hn]⟩
theorem regOf_tabS : ((List.range 15).all fun n => ([1, 2, 3] : List UInt8).all fun a => regB (stl_place_region fuelH ((n : Int), a)) (regOf ((n : Int), a))) = true := by kernel_rfl
theorem regOf_stl {p : Int × UInt8} (h : 0 ≤ p.1 ∧ p.1 ≤ 14 ∧ 1 ≤ n8 p.2 ∧ n8 p.2 ≤ 3) : stl_place_region fuelH p = some (regOf p) := by
  obtain ⟨n, hn, a, ha, rfl⟩ := okP_mem0 h
  exact regB_t (List.all_eq_true.1 (List.all_eq_true.1 regOf_tabS n hn) a ha)
theorem regOf_tabR : ((List.range 15).all fun n => ([1, 2, 3] : List UInt8).all fun a => regB (r24_region fuelH ((n : Int), a)) (regOf ((n : Int), a))) = true := by kernel_rfl
theorem regOf_eq {p : Int × UInt8} (h : 0 ≤ p.1 ∧ p.1 ≤ 14 ∧ 1 ≤ n8 p.2 ∧ n8 p.2 ≤ 3) : stl_place_region fuelH p = some (regOf p) ∧ r24_region fuelH p = some (regOf p) := by
  refine ⟨regOf_stl h, ?_⟩
  obtain ⟨n, hn, a, ha, rfl⟩ := okP_mem0 h
  exact regB_t (List.all_eq_true.1 (List.all_eq_true.1 regOf_tabR n hn) a ha)
end
end Go.Mo
end

section
/-
  Plain facts: regions in the order of their names; rows without ruby.
-/
namespace Go.Mo
open Go Go.W Go.Lib
set_option maxRecDepth 100000
noncomputable section

theorem slt_cons (a b : UInt8) (x y : List UInt8) : slt (a :: x) (b :: y) = true ↔ a.toNat < b.toNat ∨ (a = b ∧ slt x y = true) := by
  show (decide (a < b) || (a == b && Op.bytesLess x y)) = true ↔ _
  rw [Bool.or_eq_true, Bool.and_eq_true, decide_eq_true_eq, beq_iff_eq, UInt8.lt_iff_toNat_lt]
  rfl
theorem slt_irr : ∀ x : List UInt8, slt x x = false
  | [] => rfl
  | a :: x => by
    rw [← Bool.not_eq_true, slt_cons]
    rintro (h | h)
    · omega
    · rw [slt_irr x] at h; cases h.2
theorem slt_tr : ∀ x y z : List UInt8, slt x y = true → slt y z = true → slt x z = true
  | x, [], z, h, _ => by cases x <;> cases h
  | x, b :: y, [], _, h => by cases h
  | [], b :: y, c :: z, _, _ => rfl
  | a :: x, b :: y, c :: z, h1, h2 => by
    rw [slt_cons] at h1 h2 ⊢
    rcases h1 with h1 | ⟨rfl, h1⟩
    · rcases h2 with h2 | ⟨rfl, h2⟩
      · exact .inl (by omega)
      · exact .inl h1
    · rcases h2 with h2 | ⟨rfl, h2⟩
      · exact .inl h2
      · exact .inr ⟨rfl, slt_tr x y z h1 h2⟩
theorem slt_tri : ∀ x y : List UInt8, slt x y = false → x ≠ y → slt y x = true
  | [], [], _, h => absurd rfl h
  | [], b :: y, h, _ => by cases h
  | a :: x, [], _, _ => rfl
  | a :: x, b :: y, h, hne => by
    rw [← Bool.not_eq_true, slt_cons] at h
    rw [slt_cons]
    by_cases h1 : b.toNat < a.toNat
    · exact .inl h1
    · have e : a = b := UInt8.toNat_inj.1 (by
        have : ¬ a.toNat < b.toNat := fun h2 => h (.inl h2)
        omega)
      subst e
      refine .inr ⟨rfl, slt_tri x y ?_ fun e => hne (by rw [e])⟩
      rw [← Bool.not_eq_true]
      exact fun h2 => h (.inr ⟨rfl, h2⟩)

def addS : List Reg → Reg → List Reg
  | [], r => [r]
  | x :: l, r => if slt x.1 r.1 = true then x :: addS l r else if x.1 = r.1 then x :: l else r :: x :: l
theorem addS_len (l : List Reg) (r : Reg) : (addS l r).length ≤ l.length + 1 := by
  induction l with
  | nil => simp [addS]
  | cons x l ih =>
    simp only [addS]
    split
    · simp only [List.length_cons]; omega
    · split <;> simp
/-- what the program's loop has found at place k: all ahead are less -/
theorem addS_at : ∀ (l : List Reg) (r : Reg) (k : Nat), k ≤ l.length → (∀ x ∈ l.take k, slt x.1 r.1 = true) → addS l r = l.take k ++ addS (l.drop k) r
  | l, r, 0, _, _ => rfl
  | [], r, k + 1, h, _ => by simp at h
  | x :: l, r, k + 1, h, hk => by
    simp only [addS, List.take_succ_cons, List.drop_succ_cons, List.cons_append]
    rw [if_pos (hk x (by simp)), addS_at l r k (by simpa using h) fun y hy => hk y (by simp [hy])]
theorem stl_add_eq {l : List Reg} (r : Reg) (hl : l.length ≤ 1000000) : stl_add fuelH (l, r) = some (addS l r) := by
  unfold stl_add
  simp only
  rw [jn_e]
  have hbody : ∀ k : Nat, k ≤ l.length → (∀ x ∈ l.take k, slt x.1 r.1 = true) → (∀ h : k < l.length, slt l[k].1 r.1 = false) →
    (jn (fun (_ : Unit) =>
      grd (in2 (k : Int) (len l)) <|
      grd (room (iadd (len ([] : List Reg)) (len (ltake (toN (k : Int)) l))) 56) <|
      grd (room (iadd (len (lapp ([] : List Reg) (ltake (toN (k : Int)) l))) (len ([r] : List Reg))) 56) <|
      grd (in2 (k : Int) (len l)) <|
      grd (room (iadd (len (lapp (lapp ([] : List Reg) (ltake (toN (k : Int)) l)) ([r] : List Reg))) (len (ldrop (toN (k : Int)) l))) 56) <|
      some (lapp (lapp (lapp ([] : List Reg) (ltake (toN (k : Int)) l)) ([r] : List Reg)) (ldrop (toN (k : Int)) l)))
    fun v2 =>
    cnd (ilt (k : Int) (len l))
      (grd (inb (k : Int) (len l))
        (cnd (seq (lget l (toN (k : Int)) ([], ((0 : Int), ((0 : Int), ((0 : Int), ((0 : Int), ((0 : UInt8), false))))))).1 r.1)
          (some l)
          (v2 ())))
      (v2 ())) = some (addS l r) := by
    intro k hk hlt hge
    have htl : (l.take k).length = k := by rw [List.length_take]; omega
    have hdl : (l.drop k).length = l.length - k := List.length_drop
    have hin : in2 (k : Int) (len l) = true := in2_t (by simp only [len]; omega)
    refine Eq.trans (jn_u (X := some (l.take k ++ r :: l.drop k)) ?_ _) ?_
    · have e1 : ltake (toN (k : Int)) l = l.take k := by simp [ltake, toN]
      have e2 : ldrop (toN (k : Int)) l = l.drop k := by simp [ldrop, toN]
      rw [e1, e2, grd_t hin, grd_t (room_t (by simp only [iadd, len, List.length_nil]; omega)), grd_t (room_t (by simp only [iadd, len, lapp, List.length_append, List.length_nil, List.length_singleton]; omega)), grd_t hin, grd_t (room_t (by simp only [iadd, len, lapp, List.length_append, List.length_nil, List.length_singleton]; omega))]
      simp [lapp]
    · simp only
      by_cases hc : k < l.length
      · have hd := List.drop_eq_getElem_cons hc
        rw [cnd_t (ilt_t (by simp only [len]; omega)), grd_t (inb_t (by simp only [len]; omega)), lget_i hc, addS_at l r k hk hlt, hd]
        simp only [addS]
        rw [if_neg (by rw [hge hc]; decide)]
        by_cases he : l[k].1 = r.1
        · rw [cnd_t (by rw [seq_t]; exact he), if_pos he, ← hd, List.take_append_drop]
        · rw [cnd_f (by rw [← Bool.not_eq_true, seq_t]; exact he), if_neg he]
      · rw [cnd_f (ilt_f (by simp only [len]; omega)), addS_at l r k hk hlt]
        have : l.drop k = [] := List.drop_eq_nil_of_le (by omega)
        rw [this]
        rfl
  have hloop : ∀ (fuel k : Nat), l.length - k < fuel → k ≤ l.length → (∀ x ∈ l.take k, slt x.1 r.1 = true) → ∀ K : Int → Option (List Reg), (∀ k : Nat, k ≤ l.length → (∀ x ∈ l.take k, slt x.1 r.1 = true) → (∀ h : k < l.length, slt l[k].1 r.1 = false) → K (k : Int) = some (addS l r)) →
    fixN (fun (v4 : Int → Option (List Reg)) (v5 : Int) =>
    cnd (ilt v5 (len l))
      (grd (inb v5 (len l))
        (cnd (slt (lget l (toN v5) ([], ((0 : Int), ((0 : Int), ((0 : Int), ((0 : Int), ((0 : UInt8), false))))))).1 r.1)
          (v4 (w64 (iadd v5 (1 : Int))))
          (K v5)))
      (K v5)) fuel (k : Int) = some (addS l r) := by
    intro fuel
    induction fuel with
    | zero => intro k h; omega
    | succ fuel ih =>
      intro k h hk hlt K hK
      rw [fixN_s]
      by_cases hc : k < l.length
      · rw [cnd_t (ilt_t (by simp only [len]; omega)), grd_t (inb_t (by simp only [len]; omega)), lget_i hc, w64_succ hc (by omega)]
        by_cases hs : slt l[k].1 r.1 = true
        · rw [cnd_t hs]
          refine ih (k + 1) (by omega) (by omega) (fun x hx => ?_) K hK
          rw [List.take_succ_eq_append_getElem hc] at hx
          rcases List.mem_append.1 hx with hx | hx
          · exact hlt x hx
          · rw [List.mem_singleton.1 hx]; exact hs
        · rw [cnd_f (by simpa using hs)]
          exact hK k hk hlt fun _ => by simpa using hs
      · rw [cnd_f (ilt_f (by simp only [len]; omega))]
        exact hK k hk hlt fun h => absurd h hc
  exact hloop fuelH 0 (by have := fuelH_eq; omega) (Nat.zero_le _) (fun x hx => by cases hx) _ hbody
end
end Go.Mo
end

section
/-
  Plain facts: the reference's list of regions is the same.
-/
namespace Go.Mo
open Go Go.W Go.Lib
set_option maxRecDepth 100000
noncomputable section

def srt (l : List Reg) : Prop := l.Pairwise fun a b => slt a.1 b.1 = true
theorem slt_asym {x y : List UInt8} (h : slt x y = true) : slt y x = false := by
  rw [← Bool.not_eq_true]
  intro h2
  have := slt_tr _ _ _ h h2
  rw [slt_irr] at this
  cases this
theorem slt_ne {x y : List UInt8} (h : slt x y = true) : x ≠ y := fun e => by
  subst e; rw [slt_irr] at h; cases h
theorem mem_addS : ∀ (l : List Reg) (r x : Reg), x ∈ addS l r → x ∈ l ∨ x = r
  | [], r, x, h => .inr (List.mem_singleton.1 h)
  | y :: l, r, x, h => by
    simp only [addS] at h
    split at h
    · rcases List.mem_cons.1 h with rfl | h
      · exact .inl List.mem_cons_self
      · rcases mem_addS l r x h with h | h
        · exact .inl (List.mem_cons_of_mem _ h)
        · exact .inr h
    · split at h
      · exact .inl h
      · rcases List.mem_cons.1 h with rfl | h
        · exact .inr rfl
        · exact .inl h
theorem srt_add : ∀ (l : List Reg) (r : Reg), srt l → srt (addS l r)
  | [], r, _ => List.pairwise_singleton _ _
  | x :: l, r, h => by
    have h1 := (List.pairwise_cons.1 h)
    simp only [addS]
    split
    · rename_i hc
      refine List.pairwise_cons.2 ⟨fun y hy => ?_, srt_add l r h1.2⟩
      rcases mem_addS l r y hy with hy | rfl
      · exact h1.1 y hy
      · exact hc
    · rename_i hc
      split
      · exact h
      · rename_i he
        have hr : slt r.1 x.1 = true := slt_tri _ _ (by simpa using hc) he
        refine List.pairwise_cons.2 ⟨fun y hy => ?_, h⟩
        rcases List.mem_cons.1 hy with rfl | hy
        · exact hr
        · exact slt_tr _ _ _ hr (h1.1 y hy)
def wthF (l : List Reg) (r : Reg) (v2 : (List Reg) × Bool × Int → Option (List Reg)) (v3 : (List Reg) × Bool × Int) : Option (List Reg) :=
    cnd (ilt v3.2.2 (len l))
      (grd (inb v3.2.2 (len l))
        (cnd (seq (lget l (toN v3.2.2) ([], ((0 : Int), ((0 : Int), ((0 : Int), ((0 : Int), ((0 : UInt8), false))))))).1 r.1)
          (some l)
          (cnd (bnot v3.2.1)
            (cnd (slt r.1 (lget l (toN v3.2.2) ([], ((0 : Int), ((0 : Int), ((0 : Int), ((0 : Int), ((0 : UInt8), false))))))).1)
              (grd (room (iadd (len v3.1) (len ([r] : List Reg))) 56)
                (grd (room (iadd (len (lapp v3.1 ([r] : List Reg))) (len ([lget l (toN v3.2.2) ([], ((0 : Int), ((0 : Int), ((0 : Int), ((0 : Int), ((0 : UInt8), false))))))] : List Reg))) 56)
                  (v2 (lapp (lapp v3.1 ([r] : List Reg)) ([lget l (toN v3.2.2) ([], ((0 : Int), ((0 : Int), ((0 : Int), ((0 : Int), ((0 : UInt8), false))))))] : List Reg), true, w64 (iadd v3.2.2 (1 : Int))))))
              (grd (room (iadd (len v3.1) (len ([lget l (toN v3.2.2) ([], ((0 : Int), ((0 : Int), ((0 : Int), ((0 : Int), ((0 : UInt8), false))))))] : List Reg))) 56)
                (v2 (lapp v3.1 ([lget l (toN v3.2.2) ([], ((0 : Int), ((0 : Int), ((0 : Int), ((0 : Int), ((0 : UInt8), false))))))] : List Reg), v3.2.1, w64 (iadd v3.2.2 (1 : Int))))))
            (grd (room (iadd (len v3.1) (len ([lget l (toN v3.2.2) ([], ((0 : Int), ((0 : Int), ((0 : Int), ((0 : Int), ((0 : UInt8), false))))))] : List Reg))) 56)
              (v2 (lapp v3.1 ([lget l (toN v3.2.2) ([], ((0 : Int), ((0 : Int), ((0 : Int), ((0 : Int), ((0 : UInt8), false))))))] : List Reg), v3.2.1, w64 (iadd v3.2.2 (1 : Int))))))))
      (cnd (bnot v3.2.1)
      (grd (room (iadd (len v3.1) (len ([r] : List Reg))) 56)
        (some (lapp v3.1 ([r] : List Reg))))
      (some v3.1))
theorem wth_put {l : List Reg} {r : Reg} (hl : l.length ≤ 1000000) : ∀ (fuel i : Nat) (out : List Reg), l.length - i < fuel → i ≤ l.length → out.length ≤ i + 1 → (∀ x ∈ l.drop i, x.1 ≠ r.1) → fixN (wthF l r) fuel (out, true, (i : Int)) = some (out ++ l.drop i)
  | 0, i, _, h, _, _, _ => by omega
  | fuel + 1, i, out, h, hi, ho, hne => by
    rw [fixN_s]
    unfold wthF
    by_cases hc : i < l.length
    · have hd := List.drop_eq_getElem_cons hc
      have h1 : l[i].1 ≠ r.1 := hne _ (by rw [hd]; exact List.mem_cons_self)
      simp only
      rw [cnd_t (ilt_t (by simp only [len]; omega)), grd_t (inb_t (by simp only [len]; omega)), lget_i hc, cnd_f (by rw [← Bool.not_eq_true, seq_t]; exact h1), cnd_f (by rfl), grd_t (room_t (by simp only [iadd, len, List.length_singleton]; omega)), w64_succ hc (by omega)]
      refine (wth_put hl fuel (i + 1) _ (by omega) (by omega) (by simp only [lapp, List.length_append, List.length_singleton]; omega) fun x hx => hne x (by rw [hd]; exact List.mem_cons_of_mem _ hx)).trans ?_
      rw [hd]
      simp [lapp]
    · simp only
      rw [cnd_f (ilt_f (by simp only [len]; omega)), cnd_f (by rfl), List.drop_eq_nil_of_le (by omega), List.append_nil]
theorem wth_loop {l : List Reg} {r : Reg} (hs : srt l) (hl : l.length ≤ 1000000) : ∀ (fuel i : Nat), l.length - i < fuel → i ≤ l.length → (∀ x ∈ l.take i, slt x.1 r.1 = true) → fixN (wthF l r) fuel (l.take i, false, (i : Int)) = some (addS l r)
  | 0, i, h, _, _ => by omega
  | fuel + 1, i, h, hi, hlt => by
    have htl : (l.take i).length = i := by rw [List.length_take]; omega
    have ha := addS_at l r i hi hlt
    rw [fixN_s]
    unfold wthF
    by_cases hc : i < l.length
    · have hd := List.drop_eq_getElem_cons hc
      simp only
      rw [cnd_t (ilt_t (by simp only [len]; omega)), grd_t (inb_t (by simp only [len]; omega)), lget_i hc]
      rw [hd] at ha
      simp only [addS] at ha
      by_cases he : l[i].1 = r.1
      · rw [cnd_t (by rw [seq_t]; exact he), ha, if_neg (by rw [he, slt_irr]; decide), if_pos he, ← hd, List.take_append_drop]
      · rw [cnd_f (by rw [← Bool.not_eq_true, seq_t]; exact he), cnd_t (by rfl)]
        by_cases hr : slt r.1 l[i].1 = true
        · rw [cnd_t hr, grd_t (room_t (by simp only [iadd, len, List.length_singleton]; omega)), grd_t (room_t (by simp only [iadd, len, lapp, List.length_append, List.length_singleton]; omega)), w64_succ hc (by omega)]
          have hsd : srt (l[i] :: l.drop (i + 1)) := by rw [← hd]; exact List.Pairwise.sublist (List.drop_sublist i l) hs
          refine (wth_put hl fuel (i + 1) _ (by omega) (by omega) (by simp only [lapp, List.length_append, List.length_singleton]; omega) fun x hx => ?_).trans ?_
          · exact (slt_ne (slt_tr _ _ _ hr ((List.pairwise_cons.1 hsd).1 x hx))).symm
          · rw [ha, if_neg (by rw [slt_asym hr]; decide), if_neg he]
            simp [lapp]
        · have hlt2 : slt l[i].1 r.1 = true := slt_tri _ _ (by simpa using hr) fun e => he e.symm
          rw [cnd_f (by simpa using hr), grd_t (room_t (by simp only [iadd, len, List.length_singleton]; omega)), w64_succ hc (by omega)]
          have e : lapp (l.take i) [l[i]] = l.take (i + 1) := (List.take_succ_eq_append_getElem hc).symm
          rw [e]
          refine wth_loop hs hl fuel (i + 1) (by omega) (by omega) fun x hx => ?_
          rw [List.take_succ_eq_append_getElem hc] at hx
          rcases List.mem_append.1 hx with hx | hx
          · exact hlt x hx
          · rw [List.mem_singleton.1 hx]; exact hlt2
    · simp only
      rw [cnd_f (ilt_f (by simp only [len]; omega)), cnd_t (by rfl), grd_t (room_t (by simp only [iadd, len, List.length_singleton]; omega)), ha, List.drop_eq_nil_of_le (by omega)]
      rfl
theorem r24_with_eq {l : List Reg} (r : Reg) (hs : srt l) (hl : l.length ≤ 1000000) : r24_with fuelH (l, r) = some (addS l r) := by
  unfold r24_with
  simp only
  rw [jn_e]
  exact wth_loop hs hl fuelH 0 (by have := fuelH_eq; omega) (Nat.zero_le _) fun x hx => by cases hx
end
end Go.Mo
end

section
/-
  Plain facts: rows without ruby, both sides; the day.
-/
namespace Go.Mo
open Go Go.W Go.Lib
set_option maxRecDepth 100000
noncomputable section

def dayOf (r : UInt8) : Int := if r = 3 then 2160000 else 2592000
theorem day_stl {r : UInt8} (h : r = 3 ∨ r = 5) : timecode_Day fuelH (r, false) = some (dayOf r) := by
  rcases h with rfl | rfl
  · kernel_rfl
  · kernel_rfl
theorem day_eq {r : UInt8} (h : r = 3 ∨ r = 5) : timecode_Day fuelH (r, false) = some (dayOf r) ∧ r03_Day fuelH (r, false) = some (dayOf r) := by
  refine ⟨day_stl h, ?_⟩
  rcases h with rfl | rfl
  · kernel_rfl
  · kernel_rfl

def acceptRnd (rs : List Reg) (day : Int) (i : Nat) (x : Ev) (l : List Reg) : Option (Int × Int) ⊕ List Reg :=
  if day ≤ x.2.1.2 then .inl (some ((i : Int), 2)) else if 16 < (addS l (regOf (placeE x rs))).length then .inl (some ((i : Int), 9)) else .inr (addS l (regOf (placeE x rs)))
def acceptL (d : Doc) : Option (Int × Int) := itI (acceptRnd d.2.2.2.2.2.1 (dayOf d.2.2.1)) (fun _ => some (-1, 0)) 0 d.2.2.2.2.2.2.1 []
def acceptS (d : Doc) : Option (Int × Int) := if docChk d ≠ 0 then some (-1, docChk d) else if ¬ (d.2.2.1 = 3 ∨ d.2.2.1 = 5) then some (-1, 13) else acceptL d
theorem chk_evs {d : Doc} (h : docChk d = 0) : d.2.2.2.2.2.2.1.length ≤ 400 ∧ ∀ x ∈ d.2.2.2.2.2.2.1, evChk x d.2.2.2.2.2.1 = 0 := by
  unfold docChk at h
  split at h
  · rename_i hc; exact absurd h hc
  split at h
  · rename_i hc; exact absurd h hc
  split at h
  · cases h
  rename_i hn
  split at h
  · rename_i hc; exact absurd h hc
  rename_i hc
  have hc : evsChk d = 0 := by simpa using hc
  refine ⟨by omega, fun x hx => ?_⟩
  obtain ⟨j, hj, rfl⟩ := List.mem_iff_getElem.1 hx
  exact (evRnd_ok (errL_zero _ _ hc j hj)).1
theorem rate_cnd {α : Type} (r : UInt8) (X Y : Option α) : cnd (ine (n8 r) (n8 (3 : UInt8))) (cnd (ine (n8 r) (n8 (5 : UInt8))) X Y) Y = if ¬ (r = 3 ∨ r = 5) then X else Y := by
  rw [cnd_ine, cnd_ine]
  by_cases h3 : r = 3
  · rw [if_neg (by rw [h3]; simp), if_neg (not_not_intro (.inl h3))]
  · rw [if_pos (fun e => h3 (n8_inj e))]
    by_cases h5 : r = 5
    · rw [if_neg (by rw [h5]; simp), if_neg (not_not_intro (.inr h5))]
    · rw [if_pos (fun e => h5 (n8_inj e)), if_pos (fun e => e.elim h3 h5)]
end
end Go.Mo
end

section
/-
  Plain facts: what the form accepts, on both sides.
-/
namespace Go.Mo
open Go Go.W Go.Lib
set_option maxRecDepth 100000
noncomputable section

theorem acc_some (rs : List Reg) (day : Int) : ∀ (l : List Ev) (i : Nat) (a : List Reg), ∃ v, itI (acceptRnd rs day) (fun _ => some ((-1 : Int), (0 : Int))) i l a = some v
  | [], i, a => ⟨_, rfl⟩
  | x :: l, i, a => by
    simp only [itI, acceptRnd]
    by_cases h1 : day ≤ x.2.1.2
    · rw [if_pos h1]; exact ⟨_, rfl⟩
    · rw [if_neg h1]
      by_cases h2 : 16 < (addS a (regOf (placeE x rs))).length
      · rw [if_pos h2]; exact ⟨_, rfl⟩
      · rw [if_neg h2]; exact acc_some rs day l (i + 1) _
theorem accept_some (d : Doc) : ∃ v, acceptS d = some v := by
  unfold acceptS
  split
  · exact ⟨_, rfl⟩
  split
  · exact ⟨_, rfl⟩
  exact acc_some _ _ _ _ _
theorem stl_accept {d : Doc} (hs : smallD d) : stl_Accept fuelH d = acceptS d := by
  unfold stl_Accept acceptS
  rw [bnd_s (document_check hs)]
  by_cases c1 : docChk d ≠ 0
  · rw [cnd_t (ine_t c1), if_pos c1]
  rw [cnd_f (ine_f (by simpa using c1)), if_neg c1, jn_e, rate_cnd]
  by_cases c2 : d.2.2.1 = 3 ∨ d.2.2.1 = 5
  · rw [if_neg (not_not_intro c2), if_neg (not_not_intro c2), jn_e]
    obtain ⟨hn, hev⟩ := chk_evs (d := d) (by simpa using c1)
    unfold acceptL
    have hsm := hs.2.2.1
    have hpl := fun x hx => placed_stl (d := d) (x := x) (hsm x hx) hs.2.1 (hev x hx)
    generalize hl : d.2.2.2.2.2.2.1 = l at hn hev hpl ⊢
    refine Eq.trans (lst_it (l := l) (fun (a : List Reg) (p : Nat) => (a, (p : Int))) (acceptRnd d.2.2.2.2.2.1 (dayOf d.2.2.1)) (fun _ => some (-1, 0)) (fun i a => a.length ≤ i) (fun self a i hi ha => ?_) (fun self a _ => ?_) fuelH 0 [] (Nat.zero_le _) (by have := fuelH_eq; omega) (Nat.le_refl _)) ?_
    · have hx := List.getElem_mem hi
      simp only
      rw [cnd_t (ilt_t (by simp only [len]; omega)), grd_t (inb_t (by simp only [len]; omega)), lget_i hi, bnd_s (day_stl c2), cnd_ile, bnd_s (hpl _ hx), bnd_s (regOf_stl (place_bd (hev _ hx))), bnd_s (stl_add_eq _ (by omega)), cnd_ilt, w64_succ hi (by omega)]
      unfold acceptRnd
      by_cases h1 : dayOf d.2.2.1 ≤ l[i].2.1.2
      · rw [if_pos h1, if_pos h1]; rfl
      · rw [if_neg h1, if_neg h1]
        have hal := addS_len a (regOf (placeE l[i] d.2.2.2.2.2.1))
        by_cases h2 : 16 < (addS a (regOf (placeE l[i] d.2.2.2.2.2.1))).length
        · rw [if_pos h2, if_pos (by simp only [len]; omega)]; rfl
        · rw [if_neg h2, if_neg (by simp only [len]; omega)]
          exact ⟨rfl, by omega⟩
    · simp only
      rw [cnd_f (ilt_f (by simp only [len]; omega))]
    · rw [List.drop_zero]
  · rw [if_pos c2, if_pos c2]
theorem r24_accept {d : Doc} (hs : smallD d) : r24_Accept fuelH d = acceptS d := by
  unfold r24_Accept acceptS
  rw [bnd_s (r12_check hs)]
  by_cases c1 : docChk d ≠ 0
  · rw [cnd_t (ine_t c1), if_pos c1]
  rw [cnd_f (ine_f (by simpa using c1)), if_neg c1, jn_e, rate_cnd]
  by_cases c2 : d.2.2.1 = 3 ∨ d.2.2.1 = 5
  · rw [if_neg (not_not_intro c2), if_neg (not_not_intro c2), jn_e]
    obtain ⟨hn, hev⟩ := chk_evs (d := d) (by simpa using c1)
    unfold acceptL
    have hsm := hs.2.2.1
    have hpl := fun x hx => placed_eq (d := d) (x := x) (hsm x hx) hs.2.1 (hev x hx)
    generalize hl : d.2.2.2.2.2.2.1 = l at hn hev hpl ⊢
    refine Eq.trans (lst_it (l := l) (fun (a : List Reg) (p : Nat) => (a, (p : Int))) (acceptRnd d.2.2.2.2.2.1 (dayOf d.2.2.1)) (fun _ => some (-1, 0)) (fun i a => a.length ≤ i ∧ srt a) (fun self a i hi ha => ?_) (fun self a _ => ?_) fuelH 0 [] (Nat.zero_le _) (by have := fuelH_eq; omega) ⟨Nat.le_refl _, List.Pairwise.nil⟩) ?_
    · have hx := List.getElem_mem hi
      obtain ⟨ha, hso⟩ := ha
      simp only
      rw [cnd_t (ilt_t (by simp only [len]; omega)), grd_t (inb_t (by simp only [len]; omega)), lget_i hi, bnd_s (day_eq c2).2, cnd_ile, bnd_s (hpl _ hx).2, bnd_s (regOf_eq (place_bd (hev _ hx))).2, bnd_s (r24_with_eq _ hso (by omega)), cnd_ilt, w64_succ hi (by omega)]
      unfold acceptRnd
      by_cases h1 : dayOf d.2.2.1 ≤ l[i].2.1.2
      · rw [if_pos h1, if_pos h1]; rfl
      · rw [if_neg h1, if_neg h1]
        have hal := addS_len a (regOf (placeE l[i] d.2.2.2.2.2.1))
        by_cases h2 : 16 < (addS a (regOf (placeE l[i] d.2.2.2.2.2.1))).length
        · rw [if_pos h2, if_pos (by simp only [len]; omega)]; rfl
        · rw [if_neg h2, if_neg (by simp only [len]; omega)]
          exact ⟨rfl, by omega, srt_add _ _ hso⟩
    · simp only
      rw [cnd_f (ilt_f (by simp only [len]; omega))]
    · rw [List.drop_zero]
  · rw [if_pos c2, if_pos c2]
end
end Go.Mo
end

section
/-
  Plain facts: the document as the form carries it, on both sides.
-/
namespace Go.Mo
open Go Go.W Go.Lib
set_option maxRecDepth 100000
noncomputable section

end
end Go.Mo
end

section
/-
  Plain facts: a document is the same as itself; StlAccepts returns true.
-/
namespace Go.Mo
open Go Go.W Go.Lib
set_option maxRecDepth 100000
noncomputable section

end
end Go.Mo
end

section
/-
  Plain facts: StlAccepts returns true.
-/
namespace Go.Mo
open Go Go.W Go.Lib
set_option maxRecDepth 100000
noncomputable section

def wtG (r : Reg) : Nat := r.1.length + 1 + (1 + (1 + (1 + (1 + (1 + 1)))))
def wtX (x : Ev) : Nat := 1 + (1 + 1 + (x.2.2.1.length + 1 + (1 + (x.2.2.2.2.1.length + 1 + (bkL wtR x.2.2.2.2.2 + 1)))))
def wtC (c : Cmt) : Nat := 1 + (1 + (1 + (1 + (c.2.2.2.2.1.length + 1 + (c.2.2.2.2.2.1.length + 1 + (1 + 1))))))
def wtD (d : Doc) : Nat := d.1.length + 1 + (d.2.1.length + 1 + (1 + (1 + (1 + (bkL wtG d.2.2.2.2.2.1 + 1 + (bkL wtX d.2.2.2.2.2.2.1 + 1 + (bkL wtC d.2.2.2.2.2.2.2 + 1)))))))
def fewD (d : Doc) : Doc := (d.1, d.2.1, d.2.2.1, d.2.2.2.1, d.2.2.2.2.1, d.2.2.2.2.2.1.take 6, d.2.2.2.2.2.2.1.take 5, d.2.2.2.2.2.2.2.take 4)
theorem few_eq (d : Doc) : l24_few fuelH d = some (fewD d) := by
  unfold l24_few fewD
  obtain ⟨e1, e2⟩ := min_take d.2.2.2.2.2.2.1 5
  obtain ⟨e3, e4⟩ := min_take d.2.2.2.2.2.2.2 4
  obtain ⟨e5, e6⟩ := min_take d.2.2.2.2.2.1 6
  have e1 : ltake (toN (imin (len d.2.2.2.2.2.2.1) (5 : Int))) d.2.2.2.2.2.2.1 = _ := e1
  have e3 : ltake (toN (imin (len d.2.2.2.2.2.2.2) (4 : Int))) d.2.2.2.2.2.2.2 = _ := e3
  have e5 : ltake (toN (imin (len d.2.2.2.2.2.1) (6 : Int))) d.2.2.2.2.2.1 = _ := e5
  rw [grd_t (show in2 (imin (len d.2.2.2.2.2.2.1) (5 : Int)) (len d.2.2.2.2.2.2.1) = true from e2), grd_t (show in2 (imin (len d.2.2.2.2.2.2.2) (4 : Int)) (len d.2.2.2.2.2.2.2) = true from e4), grd_t (show in2 (imin (len d.2.2.2.2.2.1) (6 : Int)) (len d.2.2.2.2.2.1) = true from e6), e1, e3, e5]
theorem few_small {d : Doc} (hb : wtD d ≤ 1048576) : smallD (fewD d) := by
  unfold wtD at hb
  refine ⟨by show d.1.length ≤ _; omega, by show (d.2.2.2.2.2.1.take 6).length ≤ _; rw [List.length_take]; omega, fun x hx => ?_, fun c hc => ?_⟩
  · have hx : x ∈ d.2.2.2.2.2.2.1 := List.mem_of_mem_take (show x ∈ d.2.2.2.2.2.2.1.take 5 from hx)
    have h1 : 1 + (1 + 1 + (x.2.2.1.length + 1 + (1 + (x.2.2.2.2.1.length + 1 + (bkL wtR x.2.2.2.2.2 + 1))))) ≤ bkL wtX d.2.2.2.2.2.2.1 := bk_mem (f := wtX) hx
    intro r hr
    have h2 : bkL wtU r + 1 ≤ bkL wtR x.2.2.2.2.2 := bk_mem (f := wtR) hr
    have h3 := cost_wt r
    have h4 := tot_cost r
    exact ⟨short_wt (l := x.2.2.2.2.2) (B := 1048576) (by omega) (by omega) r hr, by omega⟩
  · have hc : c ∈ d.2.2.2.2.2.2.2 := List.mem_of_mem_take (show c ∈ d.2.2.2.2.2.2.2.take 4 from hc)
    have h1 : 1 + (1 + (1 + (1 + (c.2.2.2.2.1.length + 1 + (c.2.2.2.2.2.1.length + 1 + (1 + 1)))))) ≤ bkL wtC d.2.2.2.2.2.2.2 := bk_mem (f := wtC) hc
    omega
end
end Go.Mo
end

section
/-
  Plain facts: texts that are joined; the normal form of a row that is good.
-/
namespace Go.Mo
open Go Go.W Go.Lib
set_option maxRecDepth 100000
noncomputable section

end
end Go.Mo
end

section
/-
  Plain facts: the regions of a reduced document; its events stand where they stood.
-/
namespace Go.Mo
open Go Go.W Go.Lib
set_option maxRecDepth 100000
noncomputable section

def regsR (rs : List Reg) : List Ev → List Reg → List Reg
  | [], a => a
  | x :: l, a => regsR rs l (addS a (regOf (placeE x rs)))
end
end Go.Mo
end

section
/-
  Plain facts: a reduced document is good; StlReduced returns true.
-/
namespace Go.Mo
open Go Go.W Go.Lib
set_option maxRecDepth 100000
noncomputable section

theorem acc_zero {rs : List Reg} {day : Int} : ∀ (l : List Ev) (i : Nat) (a : List Reg) (v : Int), itI (acceptRnd rs day) (fun _ => some (-1, 0)) i l a = some (v, 0) → a.length ≤ 16 → v = -1 ∧ (regsR rs l a).length ≤ 16
  | [], i, a, v, h, ha => by
    simp only [itI, Option.some.injEq, Prod.mk.injEq] at h
    exact ⟨h.1.symm, ha⟩
  | x :: l, i, a, v, h, ha => by
    simp only [itI, acceptRnd] at h
    by_cases h1 : day ≤ x.2.1.2
    · rw [if_pos h1] at h; simp at h
    rw [if_neg h1] at h
    by_cases h2 : 16 < (addS a (regOf (placeE x rs))).length
    · rw [if_pos h2] at h; simp at h
    rw [if_neg h2] at h
    exact acc_zero l (i + 1) _ v h (by omega)
theorem acceptS_zero {d : Doc} {v : Int} (h : acceptS d = some (v, 0)) : docChk d = 0 ∧ (d.2.2.1 = 3 ∨ d.2.2.1 = 5) ∧ acceptL d = some (-1, 0) ∧ (regsR d.2.2.2.2.2.1 d.2.2.2.2.2.2.1 []).length ≤ 16 := by
  unfold acceptS at h
  by_cases c1 : docChk d ≠ 0
  · rw [if_pos c1] at h
    injection h with h
    injection h with _ h
    exact absurd h c1
  rw [if_neg c1] at h
  by_cases c2 : d.2.2.1 = 3 ∨ d.2.2.1 = 5
  · rw [if_neg (not_not_intro c2)] at h
    obtain ⟨e, h3⟩ := acc_zero _ _ _ _ h (by simp)
    subst e
    exact ⟨by simpa using c1, c2, h, h3⟩
  · rw [if_pos c2] at h
    simp at h
end
end Go.Mo
end

section
/-
  Plain facts of the headers of the tape form.
-/
namespace Go.Mo
open Go Go.W Go.Lib
set_option maxRecDepth 100000
noncomputable section
theorem clone_eq (N : Nat) (x : List UInt8) (h : (x.length : Int) ≤ 140737488355328) : bytes_Clone N x = some x := by
  have h1 : grd (room (iadd (len ([] : List UInt8)) (len x)) 1) (some (lapp ([] : List UInt8) x)) = some x := by
    rw [grd_t (room_t (by simp [iadd, len]; omega))]
    rfl
  unfold bytes_Clone
  cases x with
  | nil =>
    rw [cnd_f (by rfl)]
    exact univ_of rfl h1
  | cons a x =>
    rw [cnd_t (ine_t (by simp [len]; omega))]
    exact h1

theorem mul_tab : ((List.range 1025).all fun n => decide (bits_Mul64 0 (1, (n : Int)) = some (0, (n : Int)))) = true := by kernel_rfl
theorem mul_one {N n : Nat} (h : n ≤ 1024) : bits_Mul N (1, (n : Int)) = some (0, (n : Int)) := by
  have := List.all_eq_true.1 mul_tab n (List.mem_range.2 (by omega))
  have e : bits_Mul64 N (1, (n : Int)) = some (0, (n : Int)) := of_decide_eq_true this
  unfold bits_Mul
  rw [bnd_s e]
theorem repeat_eq {N : Nat} (hN : 1100 ≤ N) (b : UInt8) {n : Nat} (h0 : 0 < n) (hn : n ≤ 1024) : bytes_Repeat N ([b], (n : Int)) = some (List.replicate n b) := by
  unfold bytes_Repeat
  simp only
  rw [cnd_f (ieq_f (by omega)), cnd_f (ilt_f (by omega))]
  have e1 : wr .u64 (len [b]) = 1 := by rw [wru64_id (by simp [len])]; rfl
  have e2 : wr .u64 (n : Int) = (n : Int) := wru64_id (by omega)
  rw [e1, e2, bnd_s (mul_one hn)]
  simp only
  have ew : w64 (n : Int) = (n : Int) := w64_id (by omega)
  rw [cnd_f (by rfl), cnd_f (ilt_f (by omega)), cnd_f (by rfl), ew]
  simp only [jn_e]
  rw [cnd_f (ilt_f (by omega)), grd_t (mkOk_t (by omega))]
  refine univL_of fun l hl => ?_
  have hl : l.length = n := by simpa [toN] using hl
  rw [grd_t (in3_t (by simp only [len]; omega))]
  have ht : ltake (toN (n : Int)) l = l := by simp only [ltake, toN, Int.toNat_natCast]; rw [List.take_of_length_le (by omega)]
  rw [ht]
  have hm : imin (len [b]) (len l) = ((1 : Nat) : Int) := by simp only [imin, len, List.length_singleton]; omega
  rw [hm]
  have hq : putl l 0 (ltake (nlen l) [b]) = b :: l.drop 1 := by
    simp only [putl, ltake, nlen, List.take_zero, List.nil_append]
    rw [List.take_of_length_le (by simp; omega)]
    rfl
  rw [hq]
  refine rep_loop hn N 1 _ (by omega) (Nat.le_refl _) h0 (by simp; omega) rfl

theorem kind_eq (N : Nat) (x : UInt8 × Bool) : timecode_rateError N x = r03_kind N x := by
  unfold timecode_rateError r03_kind
  rw [(rate_eq N x.1).1, (rate_eq N x.1).2.1]
theorem check_eq (N : Nat) (x : UInt8 × Int × Int × Int × Int × Bool) : timecode_Check N x = r03_Check N x := by
  unfold timecode_Check r03_Check
  rw [kind_eq, (rate_eq N x.1).2.2]
  congr 1
  funext v0
  congr 2
  congr 1
  congr 1
  congr 1
  congr 1
  congr 1
  by_cases hF : ilt x.2.2.2.2.1 0 = true
  · rw [cnd_t hF, cnd_t hF]
  · have hF : ilt x.2.2.2.2.1 0 = false := by simpa using hF
    rw [cnd_f hF, cnd_f hF]
    have h0 : ¬ x.2.2.2.2.1 < 0 := of_decide_eq_false hF
    congr 1
    funext v1
    congr 1
    cases hd : x.2.2.2.2.2 with
    | true =>
      rw [cnd_t rfl]
      congr 2
    | false =>
      rw [cnd_f rfl]
      have e : timecode_dropped N (x.1, false) = some 0 := rfl
      rw [bnd_s e, cnd_f (ilt_f h0)]
      have c2 : ∀ b : Bool, cnd b (some (0 : Int)) (some 0) = some 0 := fun b => by cases b <;> rfl
      rw [c2, c2]
theorem within_eq (N : Nat) (n lo hi : Int) : r23_within N (n, lo, hi) = some (decide (lo ≤ n ∧ n ≤ hi)) := by
  unfold r23_within
  simp only
  rw [cnd_ile]
  split
  · simp only [ile, Option.some.injEq, decide_eq_decide]; omega
  · simp only [Option.some.injEq]; exact (decide_eq_false (by omega)).symm
theorem checkHeader_eq (h : Hdr) (h2 : h.2.2.1.length ≤ 4000000) : tape_CheckHeader fuelH h = r23_CheckHeader fuelH h := by
  unfold tape_CheckHeader r23_CheckHeader
  simp only [ch_valid _ h2, r08_valid _ h2, lines_name, r07_name, within_eq, bnd_some', rng_eq, check_eq]
  kernel_rfl
end
end Go.Mo
end

section
/-
  Plain facts: digits and the bytes of a header.
-/
namespace Go.Mo
open Go Go.W Go.Lib
set_option maxRecDepth 100000

/-- the byte of the last digit -/
noncomputable def dg (v : Int) : UInt8 := b8 (w64 (iadd 48 (imod v 10)))
noncomputable def dv (v : Int) : Int := w64 (idiv v 10)
theorem digits2 (v : Int) : tape_digits fuelH (v, 2) = some [dg (dv v), dg v] := by kernel_rfl
theorem digits3 (v : Int) : tape_digits fuelH (v, 3) = some [dg (dv (dv v)), dg (dv v), dg v] := by kernel_rfl
theorem digits5 (v : Int) : tape_digits fuelH (v, 5) = some [dg (dv (dv (dv (dv v)))), dg (dv (dv (dv v))), dg (dv (dv v)), dg (dv v), dg v] := by kernel_rfl
theorem r23_digits2 (v : Int) : r23_digits fuelH (v, 2) = some [dg (dv v), dg v] := by kernel_rfl
theorem r23_digits3 (v : Int) : r23_digits fuelH (v, 3) = some [dg (dv (dv v)), dg (dv v), dg v] := by kernel_rfl
theorem r23_digits5 (v : Int) : r23_digits fuelH (v, 5) = some [dg (dv (dv (dv (dv v)))), dg (dv (dv (dv v))), dg (dv (dv v)), dg (dv v), dg v] := by kernel_rfl
noncomputable def clk (l : Lbl) : List UInt8 := [dg (dv l.1), dg l.1, dg (dv l.2.1), dg l.2.1, dg (dv l.2.2.1), dg l.2.2.1, dg (dv l.2.2.2.1), dg l.2.2.2.1]
theorem clock_eq (l : Lbl) : tape_clock fuelH l = some (clk l) := by kernel_rfl
theorem label_eq (l : Lbl) : r23_label fuelH l = some (clk l) := by kernel_rfl
/-- the digits of a header: n the bytes of the title -/
noncomputable def hdg (h : Hdr) (n : Int) : List UInt8 :=
  [dg (dv (dv n)), dg (dv n), dg n] ++ [dg (dv (dv (dv (dv h.2.2.2.1)))), dg (dv (dv (dv h.2.2.2.1))), dg (dv (dv h.2.2.2.1)), dg (dv h.2.2.2.1), dg h.2.2.2.1] ++ [dg (dv (dv (dv (dv h.2.2.2.2.1)))), dg (dv (dv (dv h.2.2.2.2.1))), dg (dv (dv h.2.2.2.2.1)), dg (dv h.2.2.2.2.1), dg h.2.2.2.2.1] ++ clk h.2.2.2.2.2.1 ++ clk h.2.2.2.2.2.2.1 ++ [dg (dv h.2.2.2.2.2.2.2.1), dg h.2.2.2.2.2.2.2.1] ++ [dg (dv h.2.2.2.2.2.2.2.2), dg h.2.2.2.2.2.2.2.2]
noncomputable def sig (r : UInt8) : List UInt8 := if r = 5 then [83, 84, 76, 51, 48, 46, 48, 49] else [83, 84, 76, 50, 53, 46, 48, 49]
/-- bytes filled up with spaces -/
noncomputable def pad (l : List UInt8) (n : Nat) : List UInt8 := l ++ List.replicate (n - l.length) 32
/-- the bytes of a header -/
noncomputable def hby (h : Hdr) : List UInt8 := sig h.1 ++ pad h.2.1 16 ++ pad (hdg h ((latE h.2.2.1).length : Int)) 40 ++ pad (latE h.2.2.1) 960
theorem sig_len (r : UInt8) : (sig r).length = 8 := by unfold sig; split <;> rfl
theorem hdg_len (h : Hdr) (n : Int) : (hdg h n).length = 33 := rfl
theorem pad_len {l : List UInt8} {n : Nat} (h : l.length ≤ n) : (pad l n).length = n := by simp [pad]; omega
theorem fill_eq {l : List UInt8} {n : Nat} (hn : n ≤ 1100) (hl : l.length ≤ n) : r23_fill fuelH (l, (n : Int), 32) = some (pad l n) := by
  unfold r23_fill
  rw [jn_e, grd_t (room_t (by simp [iadd, len]; omega))]
  have : ∀ (fuel : Nat) (m : List UInt8), n - m.length < fuel → m.length ≤ n → fixN (fun v2 (v3 : List UInt8) =>
    cnd (ilt (len v3) (n : Int))
      (grd (room (iadd (len v3) (len ([32] : List UInt8))) 1)
        (v2 (lapp v3 ([32] : List UInt8))))
      (some v3)) fuel m = some (pad m n) := by
    intro fuel
    induction fuel with
    | zero => intro m h; omega
    | succ fuel ih =>
      intro m h h2
      rw [fixN_s]
      by_cases hm : m.length < n
      · rw [cnd_t (ilt_t (by simp only [len]; omega)), grd_t (room_t (by simp [iadd, len]; omega)), ih _ (by simp [lapp]; omega) (by simp [lapp]; omega)]
        congr 1
        unfold pad lapp
        obtain ⟨k, hk⟩ : ∃ k, n - m.length = k + 1 := ⟨n - m.length - 1, by omega⟩
        rw [hk, List.replicate_succ, List.length_append, List.append_assoc]
        simp only [List.length_singleton, show n - (m.length + 1) = k by omega]
        rfl
      · rw [cnd_f (ilt_f (by simp only [len]; omega))]
        unfold pad
        rw [show n - m.length = 0 by omega]
        simp
  have := this fuelH (lapp [] l) (by have := fuelH_eq; simp [lapp]; omega) (by simp [lapp]; omega)
  simpa [lapp] using this
end Go.Mo
end

section
/-
  Plain facts: what the check of a header lets through; the bytes of a header.
-/
namespace Go.Mo
open Go Go.W Go.Lib
set_option maxRecDepth 100000
noncomputable section

noncomputable def lblOk (l : Lbl) : Prop := (0 ≤ l.1 ∧ l.1 ≤ 23) ∧ (0 ≤ l.2.1 ∧ l.2.1 ≤ 59) ∧ (0 ≤ l.2.2.1 ∧ l.2.2.1 ≤ 59) ∧ (0 ≤ l.2.2.2.1 ∧ l.2.2.2.1 ≤ 59)
structure HdrOk (h : Hdr) : Prop where
  rate : h.1 = 3 ∨ h.1 = 5
  lang : h.2.1 = [] ∨ nm h.2.1 = true
  ttl : vld h.2.2.1 = true
  ttlL : h.2.2.1.length ≤ 400
  blocks : 0 ≤ h.2.2.2.1 ∧ h.2.2.2.1 ≤ 99999
  groups : 0 ≤ h.2.2.2.2.1 ∧ h.2.2.2.2.1 ≤ 99999
  start : lblOk h.2.2.2.2.2.1
  first : lblOk h.2.2.2.2.2.2.1
  rows : 0 ≤ h.2.2.2.2.2.2.2.1 ∧ h.2.2.2.2.2.2.2.1 ≤ 99
  cols : 0 ≤ h.2.2.2.2.2.2.2.2 ∧ h.2.2.2.2.2.2.2.2 ≤ 99
  d1 : h.2.2.2.2.2.1.2.2.2.2 = false
  d2 : h.2.2.2.2.2.2.1.2.2.2.2 = false
theorem r03_ok (N : Nat) {r : UInt8} (l : Lbl) (hr : r = 3 ∨ r = 5) : ∃ e, r03_Check N (r, l) = some e ∧ (e = 0 → lblOk l) := by
  obtain ⟨H, M, S, F, D⟩ := l
  cases D with
  | true =>
    refine ⟨13, ?_, fun h => absurd h (by decide)⟩
    rcases hr with rfl | rfl <;> kernel_rfl
  | false =>
    have e : ∃ n : Int, (n = 25 ∨ n = 30) ∧ r03_Check N (r, H, M, S, F, false) = cnd (ilt H 0) (some 2) (cnd (ilt 23 H) (some 2) (cnd (ilt M 0) (some 2) (cnd (ilt 59 M) (some 2) (cnd (ilt S 0) (some 2) (cnd (ilt 59 S) (some 2) (cnd (ilt F 0) (some 2) (cnd (ile n F) (some 2) (some 0)))))))) := by
      rcases hr with rfl | rfl
      · exact ⟨25, .inl rfl, by kernel_rfl⟩
      · exact ⟨30, .inr rfl, by kernel_rfl⟩
    obtain ⟨n, hn, e⟩ := e
    rw [e]
    by_cases h1 : H < 0
    · exact ⟨2, cnd_t (ilt_t h1), fun h => absurd h (by decide)⟩
    rw [cnd_f (ilt_f h1)]
    by_cases h2 : 23 < H
    · exact ⟨2, cnd_t (ilt_t h2), fun h => absurd h (by decide)⟩
    rw [cnd_f (ilt_f h2)]
    by_cases h3 : M < 0
    · exact ⟨2, cnd_t (ilt_t h3), fun h => absurd h (by decide)⟩
    rw [cnd_f (ilt_f h3)]
    by_cases h4 : 59 < M
    · exact ⟨2, cnd_t (ilt_t h4), fun h => absurd h (by decide)⟩
    rw [cnd_f (ilt_f h4)]
    by_cases h5 : S < 0
    · exact ⟨2, cnd_t (ilt_t h5), fun h => absurd h (by decide)⟩
    rw [cnd_f (ilt_f h5)]
    by_cases h6 : 59 < S
    · exact ⟨2, cnd_t (ilt_t h6), fun h => absurd h (by decide)⟩
    rw [cnd_f (ilt_f h6)]
    by_cases h7 : F < 0
    · exact ⟨2, cnd_t (ilt_t h7), fun h => absurd h (by decide)⟩
    rw [cnd_f (ilt_f h7)]
    by_cases h8 : n ≤ F
    · exact ⟨2, cnd_t (ile_t h8), fun h => absurd h (by decide)⟩
    rw [cnd_f (ile_f h8)]
    exact ⟨0, rfl, fun _ => ⟨⟨by show 0 ≤ H; omega, by show H ≤ 23; omega⟩, ⟨by show 0 ≤ M; omega, by show M ≤ 59; omega⟩, ⟨by show 0 ≤ S; omega, by show S ≤ 59; omega⟩, ⟨by show 0 ≤ F; omega, by show F ≤ 59; omega⟩⟩⟩

noncomputable def ckC (h : Hdr) : Option Int :=
  bnd (r23_within fuelH (h.2.2.2.1, (0 : Int), (99999 : Int))) fun v3 =>
  cnd (bnot v3) (some (2 : Int))
    (bnd (r23_within fuelH (h.2.2.2.2.1, (0 : Int), (99999 : Int))) fun v4 =>
    cnd (bnot v4) (some (2 : Int))
      (bnd (r23_within fuelH (h.2.2.2.2.2.2.2.1, (0 : Int), (99 : Int))) fun v5 =>
      cnd (bnot v5) (some (2 : Int))
        (bnd (r23_within fuelH (h.2.2.2.2.2.2.2.2, (0 : Int), (99 : Int))) fun v6 =>
        cnd (bnot v6) (some (2 : Int))
          (cnd (ilt h.2.2.2.1 h.2.2.2.2.1) (some (8 : Int))
            (bnd (r03_Check fuelH (h.1, h.2.2.2.2.2.1)) fun v7 =>
            cnd (ine v7 (0 : Int)) (some v7)
              (bnd (r03_Check fuelH (h.1, h.2.2.2.2.2.2.1)) fun v8 =>
              cnd (ine v8 (0 : Int)) (some v8)
                (cnd h.2.2.2.2.2.1.2.2.2.2 (some (13 : Int))
                  (cnd h.2.2.2.2.2.2.1.2.2.2.2 (some (13 : Int)) (some (0 : Int))))))))))
noncomputable def ckB (h : Hdr) (v1 : Bool) : Option Int :=
  cnd v1 (some (5 : Int))
    (bnd (r08_Valid fuelH h.2.2.1) fun v2 => cnd (bnot v2) (some (10 : Int)) (cnd (ilt (400 : Int) (len h.2.2.1)) (some (9 : Int)) (ckC h)))
noncomputable def ckA (h : Hdr) (v0 : Bool) : Option Int :=
  cnd v0 (some (13 : Int)) (cnd (sne h.2.1 ([] : List UInt8)) (bnd (r07_Name fuelH h.2.1) fun v10 => ckB h (bnot v10)) (ckB h false))
theorem ck_eq (h : Hdr) : r23_CheckHeader fuelH h = cnd (ine (n8 h.1) (n8 (3 : UInt8))) (ckA h (ine (n8 h.1) (n8 (5 : UInt8)))) (ckA h false) := by kernel_rfl
theorem check_ok {h : Hdr} (h2 : h.2.2.1.length ≤ 4000000) : ∃ e, r23_CheckHeader fuelH h = some e ∧ (e = 0 → HdrOk h) := by
  rw [ck_eq]
  by_cases hr : h.1 = 3 ∨ h.1 = 5
  · have ea : cnd (ine (n8 h.1) (n8 (3 : UInt8))) (ckA h (ine (n8 h.1) (n8 (5 : UInt8)))) (ckA h false) = ckA h false := by
      rcases hr with hr | hr
      · rw [hr]; rfl
      · rw [hr]; rfl
    rw [ea]
    have eb : ∃ b : Bool, ckA h false = ckB h b ∧ (b = false → h.2.1 = [] ∨ nm h.2.1 = true) := by
      unfold ckA
      rw [cnd_f rfl]
      by_cases hl : h.2.1 = []
      · exact ⟨false, cnd_f (by simp [sne, hl]), fun _ => .inl hl⟩
      · refine ⟨bnot (nm h.2.1), ?_, fun hb => .inr (by cases hq : nm h.2.1 <;> simp_all [bnot])⟩
        rw [cnd_t (by simp [sne, hl]), bnd_s (r07_name h.2.1)]
    obtain ⟨b, eb, hb⟩ := eb
    rw [eb]
    unfold ckB
    cases b with
    | true => exact ⟨5, rfl, fun h => absurd h (by decide)⟩
    | false =>
      rw [cnd_f rfl, bnd_s (r08_valid _ h2)]
      cases hv : vld h.2.2.1 with
      | false => exact ⟨10, rfl, fun h => absurd h (by decide)⟩
      | true =>
        rw [cnd_f (by rfl)]
        by_cases hL : (400 : Int) < len h.2.2.1
        · exact ⟨9, cnd_t (ilt_t hL), fun h => absurd h (by decide)⟩
        rw [cnd_f (ilt_f hL)]
        unfold ckC
        rw [within_eq, bnd_some', cnd_bnot]
        by_cases q1 : 0 ≤ h.2.2.2.1 ∧ h.2.2.2.1 ≤ 99999
        case neg => exact ⟨2, if_neg q1, fun h => absurd h (by decide)⟩
        rw [if_pos q1, within_eq, bnd_some', cnd_bnot]
        by_cases q2 : 0 ≤ h.2.2.2.2.1 ∧ h.2.2.2.2.1 ≤ 99999
        case neg => exact ⟨2, if_neg q2, fun h => absurd h (by decide)⟩
        rw [if_pos q2, within_eq, bnd_some', cnd_bnot]
        by_cases q3 : 0 ≤ h.2.2.2.2.2.2.2.1 ∧ h.2.2.2.2.2.2.2.1 ≤ 99
        case neg => exact ⟨2, if_neg q3, fun h => absurd h (by decide)⟩
        rw [if_pos q3, within_eq, bnd_some', cnd_bnot]
        by_cases q4 : 0 ≤ h.2.2.2.2.2.2.2.2 ∧ h.2.2.2.2.2.2.2.2 ≤ 99
        case neg => exact ⟨2, if_neg q4, fun h => absurd h (by decide)⟩
        rw [if_pos q4, cnd_ilt]
        by_cases q5 : h.2.2.2.1 < h.2.2.2.2.1
        · exact ⟨8, if_pos q5, fun h => absurd h (by decide)⟩
        rw [if_neg q5]
        obtain ⟨e1, f1, g1⟩ := r03_ok fuelH h.2.2.2.2.2.1 hr
        obtain ⟨e2, f2, g2⟩ := r03_ok fuelH h.2.2.2.2.2.2.1 hr
        rw [bnd_s f1, cnd_ine]
        by_cases z1 : e1 = 0
        case neg => exact ⟨e1, if_pos z1, fun h => absurd h z1⟩
        rw [if_neg (by simp [z1]), bnd_s f2, cnd_ine]
        by_cases z2 : e2 = 0
        case neg => exact ⟨e2, if_pos z2, fun h => absurd h z2⟩
        rw [if_neg (by simp [z2])]
        cases d1 : h.2.2.2.2.2.1.2.2.2.2 with
        | true => exact ⟨13, rfl, fun h => absurd h (by decide)⟩
        | false =>
          cases d2 : h.2.2.2.2.2.2.1.2.2.2.2 with
          | true => exact ⟨13, rfl, fun h => absurd h (by decide)⟩
          | false => exact ⟨0, rfl, fun _ => ⟨hr, hb rfl, hv, by simp only [len] at hL; omega, q1, q2, g1 z1, g2 z2, q3, q4, d1, d2⟩⟩
  · have h3 : n8 h.1 ≠ n8 (3 : UInt8) := fun e => hr (.inl (n8_inj e))
    have h5 : n8 h.1 ≠ n8 (5 : UInt8) := fun e => hr (.inr (n8_inj e))
    refine ⟨13, ?_, fun h => absurd h (by decide)⟩
    rw [cnd_t (ine_t h3), ine_t h5]
    rfl
theorem lang_len {h : Hdr} (H : HdrOk h) : h.2.1.length ≤ 16 := by
  rcases H.lang with e | e
  · rw [e]; decide
  · simp only [nm, Bool.and_eq_true, decide_eq_true_eq] at e
    exact e.1.1.2
end
end Go.Mo
end

section
/-
  Plain facts: the bytes of a header, by the layer and by the specification.
-/
namespace Go.Mo
open Go Go.W Go.Lib
set_option maxRecDepth 100000
noncomputable section

theorem put_at {A B : List UInt8} {m : Nat} {k : Int} (hk : k = (A.length : Int)) (hB : B.length ≤ m) :
    putl (A ++ List.replicate m 32) (toN k) (ltake (nsub (nlen (A ++ List.replicate m 32)) (toN k)) B) = A ++ B ++ List.replicate (m - B.length) 32 := by
  subst hk
  have e1 : nsub (nlen (A ++ List.replicate m 32)) (toN (A.length : Int)) = m := by simp [nsub, nlen, toN]
  rw [e1]
  unfold ltake putl
  rw [List.take_of_length_le hB, show toN (A.length : Int) = A.length from by simp [toN], List.take_left' rfl]
  rw [List.drop_append, List.drop_eq_nil_of_le (by omega), List.nil_append, List.drop_replicate]
  congr 2
  omega
theorem rep_pad (l : List UInt8) {n m : Nat} (h : l.length ≤ n) (hm : n ≤ m) : l ++ List.replicate (m - l.length) 32 = pad l n ++ List.replicate (m - n) 32 := by
  unfold pad
  rw [List.append_assoc, List.replicate_append_replicate]
  congr 2
  omega
theorem sig_eq (N : Nat) (r : UInt8) : tape_signature N r = some (sig r) := by
  unfold tape_signature sig
  by_cases h : r = 5
  · subst h; rfl
  · rw [cnd_f (ieq_f fun e => h (n8_inj e)), if_neg h]
theorem tape_put {h : Hdr} (hc : tape_CheckHeader fuelH h = some 0) (H : HdrOk h) : tape_PutHeader fuelH h = some (hby h, 0) := by
  have hL := lang_len H
  have hT := latE_len H.ttl
  have hT4 := H.ttlL
  have hs := sig_len h.1
  unfold tape_PutHeader
  rw [bnd_s hc, cnd_f (ine_f rfl), latin_encode (by omega), if_pos H.ttl, bnd_some', grd_t (by kernel_rfl)]
  rw [show ([32], (1024 : Int)) = (([32] : List UInt8), ((1024 : Nat) : Int)) from rfl, bnd_s (repeat_eq (by decide) 32 (by decide) (by decide)), sig_eq, bnd_some']
  have e1 : putl (List.replicate 1024 32) 0 (ltake (nlen (List.replicate 1024 (32 : UInt8))) (sig h.1)) = sig h.1 ++ List.replicate 1016 32 := by
    have := put_at (A := []) (B := sig h.1) (m := 1024) (k := 0) rfl (by omega)
    rw [hs] at this
    exact this
  have e2 : putl (sig h.1 ++ List.replicate 1016 32) (toN (8 : Int)) (ltake (nsub (nlen (sig h.1 ++ List.replicate 1016 (32 : UInt8))) (toN (8 : Int))) h.2.1) = (sig h.1 ++ pad h.2.1 16) ++ List.replicate 1000 32 := by
    rw [put_at (A := sig h.1) (by omega) (by omega), List.append_assoc, rep_pad h.2.1 hL (by decide), List.append_assoc]
  have l2 : (sig h.1 ++ pad h.2.1 16).length = 24 := by rw [List.length_append, hs, pad_len hL]
  have e3 : ∀ B : List UInt8, B.length = 33 → putl ((sig h.1 ++ pad h.2.1 16) ++ List.replicate 1000 32) (toN (24 : Int)) (ltake (nsub (nlen ((sig h.1 ++ pad h.2.1 16) ++ List.replicate 1000 (32 : UInt8))) (toN (24 : Int))) B) = (sig h.1 ++ pad h.2.1 16 ++ pad B 40) ++ List.replicate 960 32 := by
    intro B hB
    rw [put_at (A := sig h.1 ++ pad h.2.1 16) (by omega) (by omega), List.append_assoc _ B, rep_pad B (n := 40) (by omega) (by decide), List.append_assoc _ (pad B 40)]
  have e4 : ∀ B : List UInt8, B.length = 33 → putl ((sig h.1 ++ pad h.2.1 16 ++ pad B 40) ++ List.replicate 960 32) (toN (64 : Int)) (ltake (nsub (nlen ((sig h.1 ++ pad h.2.1 16 ++ pad B 40) ++ List.replicate 960 (32 : UInt8))) (toN (64 : Int))) (latE h.2.2.1)) = sig h.1 ++ pad h.2.1 16 ++ pad B 40 ++ pad (latE h.2.2.1) 960 := by
    intro B hB
    rw [put_at (A := sig h.1 ++ pad h.2.1 16 ++ pad B 40) (by rw [List.length_append, l2, pad_len (by omega)]; rfl) (by omega), List.append_assoc _ (latE h.2.2.1)]
    rfl
  have l1 : nlen (sig h.1 ++ List.replicate 1016 (32 : UInt8)) = 1024 := by simp [nlen, hs]
  have l2' : nlen (sig h.1 ++ pad h.2.1 16 ++ List.replicate 1000 (32 : UInt8)) = 1024 := by unfold nlen; rw [List.length_append, l2]; simp
  have l3 : ∀ B : List UInt8, B.length = 33 → nlen ((sig h.1 ++ pad h.2.1 16 ++ pad B 40) ++ List.replicate 960 (32 : UInt8)) = 1024 := by
    intro B hB
    unfold nlen
    rw [List.length_append, List.length_append, l2, pad_len (by omega)]; simp
  rw [l2'] at e3
  have e4 : ∀ B : List UInt8, B.length = 33 → putl ((sig h.1 ++ pad h.2.1 16 ++ pad B 40) ++ List.replicate 960 32) (toN (64 : Int)) (ltake (nsub 1024 (toN (64 : Int))) (latE h.2.2.1)) = sig h.1 ++ pad h.2.1 16 ++ pad B 40 ++ pad (latE h.2.2.1) 960 := fun B hB => by rw [← l3 B hB]; exact e4 B hB
  rw [e1, e2, l1, l2', grd_t (by kernel_rfl), grd_t (by kernel_rfl)]
  rw [digits3, bnd_some', digits5, bnd_some', grd_t (by kernel_rfl), digits5, bnd_some', grd_t (by kernel_rfl), clock_eq, bnd_some', grd_t (by kernel_rfl), clock_eq, bnd_some', grd_t (by kernel_rfl), digits2, bnd_some', grd_t (by kernel_rfl), digits2, bnd_some', grd_t (by kernel_rfl)]
  rw [e3 _ (by kernel_rfl), l3 _ (by kernel_rfl), grd_t (by kernel_rfl), e4 _ (by kernel_rfl)]
  show some _ = some _
  kernel_rfl
noncomputable def refPut (x : Hdr) (v1 : List UInt8) : Option (List UInt8 × Int) :=
      bnd (r22_Encode fuelH x.2.2.1) fun v2 =>
      grd (catOk (len v1)) <|
      grd (catOk (len x.2.1)) <|
      bnd (r23_fill fuelH (x.2.1, (16 : Int), (32 : UInt8))) fun v3 =>
      grd (room (iadd (len v1) (len v3)) 1) <|
      bnd (r23_digits fuelH (len v2.1, (3 : Int))) fun v4 =>
      bnd (r23_digits fuelH (x.2.2.2.1, (5 : Int))) fun v5 =>
      grd (catOk (iadd (len v4) (len v5))) <|
      bnd (r23_digits fuelH (x.2.2.2.2.1, (5 : Int))) fun v6 =>
      grd (catOk (iadd (len (lapp v4 v5)) (len v6))) <|
      bnd (r23_label fuelH x.2.2.2.2.2.1) fun v7 =>
      grd (catOk (iadd (len (lapp (lapp v4 v5) v6)) (len v7))) <|
      bnd (r23_label fuelH x.2.2.2.2.2.2.1) fun v8 =>
      grd (catOk (iadd (len (lapp (lapp (lapp v4 v5) v6) v7)) (len v8))) <|
      bnd (r23_digits fuelH (x.2.2.2.2.2.2.2.1, (2 : Int))) fun v9 =>
      grd (catOk (iadd (len (lapp (lapp (lapp (lapp v4 v5) v6) v7) v8)) (len v9))) <|
      bnd (r23_digits fuelH (x.2.2.2.2.2.2.2.2, (2 : Int))) fun v10 =>
      grd (catOk (iadd (len (lapp (lapp (lapp (lapp (lapp v4 v5) v6) v7) v8) v9)) (len v10))) <|
      grd (catOk (len (lapp (lapp (lapp (lapp (lapp (lapp v4 v5) v6) v7) v8) v9) v10))) <|
      bnd (r23_fill fuelH (lapp (lapp (lapp (lapp (lapp (lapp v4 v5) v6) v7) v8) v9) v10, (40 : Int), (32 : UInt8))) fun v11 =>
      grd (room (iadd (len (lapp v1 v3)) (len v11)) 1) <|
      grd (room (iadd (len (lapp (lapp v1 v3) v11)) (len v2.1)) 1) <|
      bnd (r23_fill fuelH (lapp (lapp (lapp v1 v3) v11) v2.1, (1024 : Int), (32 : UInt8))) fun v12 =>
      some (v12, (0 : Int))
theorem ref_eq (h : Hdr) : r23_PutHeader fuelH h = bnd (r23_CheckHeader fuelH h) fun v0 => cnd (ine v0 (0 : Int)) (some (([] : List UInt8), v0)) (cnd (ieq (n8 h.1) (n8 (5 : UInt8))) (refPut h [83, 84, 76, 51, 48, 46, 48, 49]) (refPut h [83, 84, 76, 50, 53, 46, 48, 49])) := by kernel_rfl
theorem ref_put {h : Hdr} (hc : r23_CheckHeader fuelH h = some 0) (H : HdrOk h) : r23_PutHeader fuelH h = some (hby h, 0) := by
  have hL := lang_len H
  have hT := latE_len H.ttl
  have hT4 := H.ttlL
  have hs := sig_len h.1
  rw [ref_eq, bnd_s hc, cnd_f (ine_f rfl)]
  have e0 : cnd (ieq (n8 h.1) (n8 (5 : UInt8))) (refPut h [83, 84, 76, 51, 48, 46, 48, 49]) (refPut h [83, 84, 76, 50, 53, 46, 48, 49]) = refPut h (sig h.1) := by
    unfold sig
    by_cases h5 : h.1 = 5
    · rw [h5]; rfl
    · rw [cnd_f (ieq_f fun e => h5 (n8_inj e)), if_neg h5]
  rw [e0]
  unfold refPut
  have l1 : len (sig h.1) = 8 := by simp only [len]; omega
  have f1 : r23_fill fuelH (h.2.1, (16 : Int), (32 : UInt8)) = some (pad h.2.1 16) := fill_eq (n := 16) (by decide) hL
  have f2 : ∀ B : List UInt8, B.length = 33 → r23_fill fuelH (B, (40 : Int), (32 : UInt8)) = some (pad B 40) := fun B hB => fill_eq (n := 40) (by decide) (by omega)
  have l2 : len (lapp (sig h.1) (pad h.2.1 16)) = 24 := by unfold lapp len; rw [List.length_append, hs, pad_len hL]; rfl
  have l3 : ∀ B : List UInt8, B.length = 33 → (lapp (lapp (sig h.1) (pad h.2.1 16)) (pad B 40)).length = 64 := by
    intro B hB
    unfold lapp
    rw [List.length_append, List.length_append, hs, pad_len hL, pad_len (by omega)]
  have f3 : ∀ B : List UInt8, B.length = 33 → r23_fill fuelH (lapp (lapp (lapp (sig h.1) (pad h.2.1 16)) (pad B 40)) (latE h.2.2.1), (1024 : Int), (32 : UInt8)) = some (sig h.1 ++ pad h.2.1 16 ++ pad B 40 ++ pad (latE h.2.2.1) 960) := by
    intro B hB
    have := l3 B hB
    refine (fill_eq (n := 1024) (by decide) (by unfold lapp at this ⊢; rw [List.length_append, this]; omega)).trans ?_
    congr 1
    show lapp _ _ ++ _ = _
    unfold lapp at this ⊢
    rw [List.length_append, this, List.append_assoc _ (latE h.2.2.1)]
    show _ = _ ++ (latE h.2.2.1 ++ List.replicate (960 - (latE h.2.2.1).length) 32)
    congr 3
    omega
  rw [r22_encode (by omega), if_pos H.ttl, bnd_some', l1, grd_t (by kernel_rfl), grd_t (catOk_t (by simp only [len]; omega)), f1, bnd_some', grd_t (room_t (by simp only [iadd, len]; rw [pad_len hL]; decide))]
  rw [r23_digits3, bnd_some', r23_digits5, bnd_some', grd_t (by kernel_rfl), r23_digits5, bnd_some', grd_t (by kernel_rfl), label_eq, bnd_some', grd_t (by kernel_rfl), label_eq, bnd_some', grd_t (by kernel_rfl), r23_digits2, bnd_some', grd_t (by kernel_rfl), r23_digits2, bnd_some', grd_t (by kernel_rfl), grd_t (by kernel_rfl)]
  rw [f2 _ (by kernel_rfl), bnd_some', l2, grd_t (room_t (by simp only [iadd, len]; rw [pad_len (by exact Nat.le_of_ble_eq_true (by kernel_rfl))]; decide))]
  rw [grd_t (room_t (by simp only [iadd, len]; rw [l3 _ (by kernel_rfl)]; omega)), f3 _ (by kernel_rfl), bnd_some']
  show some _ = some _
  kernel_rfl
theorem put_both {h : Hdr} (h2 : h.2.2.1.length ≤ 4000000) : ∃ e, tape_CheckHeader fuelH h = some e ∧ r23_CheckHeader fuelH h = some e ∧ ((e ≠ 0 ∧ tape_PutHeader fuelH h = some ([], e) ∧ r23_PutHeader fuelH h = some ([], e)) ∨ (e = 0 ∧ HdrOk h ∧ tape_PutHeader fuelH h = some (hby h, 0) ∧ r23_PutHeader fuelH h = some (hby h, 0))) := by
  obtain ⟨e, h1, h3⟩ := check_ok h2
  have ht := (checkHeader_eq h h2).trans h1
  refine ⟨e, ht, h1, ?_⟩
  by_cases he : e = 0
  · subst he
    exact .inr ⟨rfl, h3 rfl, tape_put ht (h3 rfl), ref_put h1 (h3 rfl)⟩
  · refine .inl ⟨he, ?_, ?_⟩
    · unfold tape_PutHeader
      rw [bnd_s ht, cnd_t (ine_t he)]
    · rw [ref_eq, bnd_s h1, cnd_t (ine_t he)]
theorem hby_len {h : Hdr} (H : HdrOk h) : (hby h).length = 1024 := by
  have hT := latE_len H.ttl
  have hT4 := H.ttlL
  unfold hby
  rw [List.length_append, List.length_append, List.length_append, sig_len, pad_len (lang_len H), pad_len (by rw [hdg_len]; decide), pad_len (by omega)]
end
end Go.Mo
end

section
/-
  Plain facts: numbers and names read back.
-/
namespace Go.Mo
open Go Go.W Go.Lib
set_option maxRecDepth 100000
noncomputable section

end
end Go.Mo
end

section
/-
  Plain facts: texts of the tape form read back.
-/
namespace Go.Mo
open Go Go.W Go.Lib
set_option maxRecDepth 100000
noncomputable section

end
end Go.Mo
end

section
/-
  Plain facts: a header read back; TapeHeaders.
-/
namespace Go.Mo
open Go Go.W Go.Lib
set_option maxRecDepth 100000
noncomputable section

noncomputable def hz : Hdr := ((0 : UInt8), ([] : List UInt8), ([] : List UInt8), (0 : Int), (0 : Int), ((0 : Int), (0 : Int), (0 : Int), (0 : Int), false), ((0 : Int), (0 : Int), (0 : Int), (0 : Int), false), (0 : Int), (0 : Int))
end
end Go.Mo
end

section
/-
  Plain facts: what is read of any bytes; the layer's reader of headers.
-/
namespace Go.Mo
open Go Go.W Go.Lib
set_option maxRecDepth 100000
noncomputable section

end
end Go.Mo
end

section
/-
  Plain facts: the specification's reader of headers.
-/
namespace Go.Mo
open Go Go.W Go.Lib
set_option maxRecDepth 100000
noncomputable section
end
end Go.Mo
end

section
/-
  Plain facts: the specification's reader of headers; TapeReadsHeaders.
-/
namespace Go.Mo
open Go Go.W Go.Lib
set_option maxRecDepth 100000
noncomputable section

end
end Go.Mo
end

section
/-
  Plain facts: the check and the bytes of a block, by the layer and by the specification.
-/
namespace Go.Mo
open Go Go.W Go.Lib
set_option maxRecDepth 100000
noncomputable section
abbrev Blk := Int × Int × UInt8 × UInt8 × Lbl × Lbl × Int × UInt8 × Bool × List UInt8

noncomputable def lblIn (l : Lbl) : Prop := (0 ≤ l.1 ∧ l.1 ≤ 23) ∧ (0 ≤ l.2.1 ∧ l.2.1 ≤ 59) ∧ (0 ≤ l.2.2.1 ∧ l.2.2.1 ≤ 59) ∧ (0 ≤ l.2.2.2.1 ∧ l.2.2.2.1 ≤ 29)
instance (l : Lbl) : Decidable (lblIn l) := by unfold lblIn; infer_instance
theorem timed_eq (N : Nat) (l : Lbl) : tape_timed N l = some (if lblIn l then 0 else 2) := by
  by_cases h : lblIn l
  · rw [if_pos h]
    obtain ⟨⟨a1, a2⟩, ⟨b1, b2⟩, ⟨c1, c2⟩, ⟨d1, d2⟩⟩ := h
    unfold tape_timed
    rw [cnd_f (ilt_f (by omega)), cnd_f (ilt_f (by omega)), cnd_f (ilt_f (by omega)), cnd_f (ilt_f (by omega)), cnd_f (ilt_f (by omega)), cnd_f (ilt_f (by omega)), cnd_f (ilt_f (by omega)), cnd_f (ilt_f (by omega))]
  · rw [if_neg h]
    unfold tape_timed
    simp only [cnd_ilt]
    repeat' split
    all_goals first | rfl | (exfalso; apply h; unfold lblIn; omega)
theorem clockB_eq (N : Nat) (l : Lbl) : r23_clock N l = some (decide (lblIn l)) := by
  unfold r23_clock
  rw [within_eq, bnd_some', cnd_dec]
  by_cases h1 : 0 ≤ l.1 ∧ l.1 ≤ 23
  case neg => rw [if_neg h1, decide_eq_false (fun h => h1 h.1)]
  rw [if_pos h1, within_eq, bnd_some', cnd_dec]
  by_cases h2 : 0 ≤ l.2.1 ∧ l.2.1 ≤ 59
  case neg => rw [if_neg h2, decide_eq_false (fun h => h2 h.2.1)]
  rw [if_pos h2, within_eq, bnd_some', cnd_dec]
  by_cases h3 : 0 ≤ l.2.2.1 ∧ l.2.2.1 ≤ 59
  case neg => rw [if_neg h3, decide_eq_false (fun h => h3 h.2.2.1)]
  rw [if_pos h3, within_eq, bnd_some']
  congr 1
  rw [decide_eq_decide]
  exact ⟨fun h => ⟨h1, h2, h3, h⟩, fun h => h.2.2.2⟩
structure BlkOk (b : Blk) : Prop where
  grp : 0 ≤ b.1 ∧ b.1 ≤ 255
  num : 0 ≤ b.2.1 ∧ b.2.1 ≤ 65535
  ain : lblIn b.2.2.2.2.1
  aout : lblIn b.2.2.2.2.2.1
  d1 : b.2.2.2.2.1.2.2.2.2 = false
  d2 : b.2.2.2.2.2.1.2.2.2.2 = false
  row : 0 ≤ b.2.2.2.2.2.2.1 ∧ b.2.2.2.2.2.2.1 ≤ 14
  txt : b.2.2.2.2.2.2.2.2.2.length ≤ 112
  fil : (143 : UInt8) ∉ b.2.2.2.2.2.2.2.2.2
theorem index_ge (l : List UInt8) (c : UInt8) : 0 ≤ indexByte l c ↔ c ∈ l := by
  induction l with
  | nil => simp [indexByte]
  | cons b l ih =>
    unfold indexByte
    have := indexByte_ge l c
    by_cases h : b = c
    · simp [h]
    · have hb : (b == c) = false := by simpa using h
      rw [hb]
      simp only [Bool.false_eq_true, if_false, List.mem_cons]
      have hne : ¬ c = b := fun e => h e.symm
      simp only [hne, false_or, ← ih]
      by_cases h1 : indexByte l c = -1
      · simp [h1]
      · have h2 : (indexByte l c == -1) = false := by simpa using h1
        rw [h2]
        simp only [Bool.false_eq_true, if_false]
        omega
theorem indexB_eq (N : Nat) (l : List UInt8) (c : UInt8) : bytes_IndexByte N (l, c) = some (indexByte l c) := by kernel_rfl
theorem filled_eq {l : List UInt8} (h : l.length ≤ 4000000) : r23_filled fuelH l = some (decide ((143 : UInt8) ∈ l)) := by
  unfold r23_filled
  rw [jn_e]
  refine Eq.trans (lst_loop (l := l) (fun (_ : Unit) (p : Nat) => (p : Int)) (fun _ c (_ : Unit) self => cnd (ieq (n8 c) (n8 (143 : UInt8))) (some true) (self ())) (fun _ => some false) (fun self a i hi => ?_) (fun self a => ?_) fuelH 0 () (Nat.zero_le _) (by have := fuelH_eq; omega)) ?_
  · rw [cnd_t (ilt_t (by simp only [len]; omega)), grd_t (inb_t (by simp only [len]; omega)), lget_i hi, w64_succ hi (by omega)]
  · rw [cnd_f (ilt_f (by simp only [len]; omega))]
  · rw [List.drop_zero]
    have : ∀ (l : List UInt8) (i : Nat), foldI (fun _ c (_ : Unit) self => cnd (ieq (n8 c) (n8 (143 : UInt8))) (some true) (self ())) (fun _ => some false) i l () = some (decide ((143 : UInt8) ∈ l)) := by
      intro l
      induction l with
      | nil => intro i; rfl
      | cons c l ih =>
        intro i
        rw [foldI]
        by_cases hc : c = 143
        · rw [cnd_t (ieq_t (by rw [hc]))]
          simp [hc]
        · rw [cnd_f (ieq_f fun e => hc (n8_inj e))]
          show foldI _ _ _ l () = _
          rw [ih (i + 1)]
          congr 1
          have hne : ¬ 143 = c := fun e => hc e.symm
          simp [hne]
    exact this l 0
noncomputable def tcB (x : Blk) (v0 : Bool) : Option Int :=
            cnd v0
              (some (3 : Int))
              (bnd (tape_timed fuelH x.2.2.2.2.1) fun v1 =>
              cnd (ine v1 (0 : Int))
                (some (2 : Int))
                (bnd (tape_timed fuelH x.2.2.2.2.2.1) fun v2 =>
                cnd (ine v2 (0 : Int))
                  (some (2 : Int))
                  (cnd x.2.2.2.2.1.2.2.2.2
                    (some (13 : Int))
                    (cnd x.2.2.2.2.2.1.2.2.2.2
                      (some (13 : Int))
                      (cnd (ilt x.2.2.2.2.2.2.1 (0 : Int))
                        (some (2 : Int))
                        (cnd (ile (15 : Int) x.2.2.2.2.2.2.1)
                          (some (2 : Int))
                          (cnd (ilt (n8 x.2.2.2.2.2.2.2.1) (n8 (1 : UInt8)))
                            (some (3 : Int))
                            (cnd (ilt (n8 (3 : UInt8)) (n8 x.2.2.2.2.2.2.2.1))
                              (some (3 : Int))
                              (cnd (ilt (112 : Int) (len x.2.2.2.2.2.2.2.2.2))
                                (some (9 : Int))
                                (bnd (bytes_IndexByte fuelH (x.2.2.2.2.2.2.2.2.2, (143 : UInt8))) fun v3 =>
                                cnd (ile (0 : Int) v3)
                                  (some (4 : Int))
                                  (some (0 : Int))))))))))))
noncomputable def tcA (x : Blk) : Option Int :=
          cnd (ile (n8 (240 : UInt8)) (n8 x.2.2.1))
            (cnd (ilt (n8 x.2.2.1) (n8 (255 : UInt8)))
              (tcB x true)
              (tcB x (ilt (n8 (3 : UInt8)) (n8 x.2.2.2.1))))
            (tcB x (ilt (n8 (3 : UInt8)) (n8 x.2.2.2.1)))
theorem tc_eq (x : Blk) : tape_Check fuelH x = cnd (ilt x.1 (0 : Int)) (some (2 : Int)) (cnd (ilt (255 : Int) x.1) (some (2 : Int)) (cnd (ilt x.2.1 (0 : Int)) (some (2 : Int)) (cnd (ilt (65535 : Int) x.2.1) (some (2 : Int)) (tcA x)))) := by kernel_rfl
noncomputable def rcB (x : Blk) (v2 : Bool) : Option Int :=
        cnd v2
          (some (3 : Int))
          (bnd (r23_clock fuelH x.2.2.2.2.1) fun v3 =>
          cnd (bnot v3)
            (some (2 : Int))
            (bnd (r23_clock fuelH x.2.2.2.2.2.1) fun v4 =>
            cnd (bnot v4)
              (some (2 : Int))
              (cnd x.2.2.2.2.1.2.2.2.2
                (some (13 : Int))
                (cnd x.2.2.2.2.2.1.2.2.2.2
                  (some (13 : Int))
                  (bnd (r23_within fuelH (x.2.2.2.2.2.2.1, (0 : Int), (14 : Int))) fun v5 =>
                  cnd (bnot v5)
                    (some (2 : Int))
                    (cnd (ilt (n8 x.2.2.2.2.2.2.2.1) (n8 (1 : UInt8)))
                      (some (3 : Int))
                      (cnd (ilt (n8 (3 : UInt8)) (n8 x.2.2.2.2.2.2.2.1))
                        (some (3 : Int))
                        (cnd (ilt (112 : Int) (len x.2.2.2.2.2.2.2.2.2))
                          (some (9 : Int))
                          (bnd (r23_filled fuelH x.2.2.2.2.2.2.2.2.2) fun v6 =>
                          cnd v6
                            (some (4 : Int))
                            (some (0 : Int)))))))))))
noncomputable def rcA (x : Blk) : Option Int :=
      cnd (ile (n8 (240 : UInt8)) (n8 x.2.2.1))
        (cnd (ile (n8 x.2.2.1) (n8 (254 : UInt8)))
          (rcB x true)
          (rcB x (ilt (n8 (3 : UInt8)) (n8 x.2.2.2.1))))
        (rcB x (ilt (n8 (3 : UInt8)) (n8 x.2.2.2.1)))
theorem rc_eq (x : Blk) : r23_Check fuelH x = bnd (r23_within fuelH (x.1, (0 : Int), (255 : Int))) fun v0 => cnd (bnot v0) (some (2 : Int)) (bnd (r23_within fuelH (x.2.1, (0 : Int), (65535 : Int))) fun v1 => cnd (bnot v1) (some (2 : Int)) (rcA x)) := by kernel_rfl
theorem bcheck_ok (b : Blk) : ∃ e, tape_Check fuelH b = some e ∧ r23_Check fuelH b = some e ∧ (e = 0 → BlkOk b) := by
  rw [tc_eq, rc_eq, within_eq, bnd_some', cnd_bnot, within_eq, bnd_some', cnd_bnot]
  by_cases q1 : 0 ≤ b.1 ∧ b.1 ≤ 255
  case neg =>
    refine ⟨2, ?_, if_neg q1, fun h => absurd h (by decide)⟩
    rw [cnd_ilt, cnd_ilt]
    by_cases h : b.1 < 0
    · rw [if_pos h]
    · rw [if_neg h, if_pos (by omega)]
  rw [if_pos q1, cnd_f (ilt_f (by omega)), cnd_f (ilt_f (by omega))]
  by_cases q2 : 0 ≤ b.2.1 ∧ b.2.1 ≤ 65535
  case neg =>
    refine ⟨2, ?_, if_neg q2, fun h => absurd h (by decide)⟩
    rw [cnd_ilt, cnd_ilt]
    by_cases h : b.2.1 < 0
    · rw [if_pos h]
    · rw [if_neg h, if_pos (by omega)]
  rw [if_pos q2, cnd_f (ilt_f (by omega)), cnd_f (ilt_f (by omega))]
  have hx : ∃ v : Bool, tcA b = tcB b v ∧ rcA b = rcB b v := by
    unfold tcA rcA
    have e240 : n8 (240 : UInt8) = 240 := rfl
    have e255 : n8 (255 : UInt8) = 255 := rfl
    have e254 : n8 (254 : UInt8) = 254 := rfl
    rw [e240, e255, e254, cnd_ile, cnd_ilt, cnd_ile, cnd_ile]
    by_cases h1 : 240 ≤ n8 b.2.2.1
    · rw [if_pos h1, if_pos h1]
      by_cases h2 : n8 b.2.2.1 < 255
      · rw [if_pos h2, if_pos (by omega)]
        exact ⟨_, rfl, rfl⟩
      · rw [if_neg h2, if_neg (by omega)]
        exact ⟨_, rfl, rfl⟩
    · rw [if_neg h1, if_neg h1]
      exact ⟨_, rfl, rfl⟩
  obtain ⟨v, e1, e2⟩ := hx
  rw [e1, e2]
  unfold tcB rcB
  cases v with
  | true => exact ⟨3, rfl, rfl, fun h => absurd h (by decide)⟩
  | false =>
    rw [cnd_f rfl, cnd_f rfl, timed_eq, bnd_some', clockB_eq, bnd_some', cnd_bnot, cnd_ine]
    by_cases q3 : lblIn b.2.2.2.2.1
    case neg =>
      rw [if_neg q3, if_neg q3]
      exact ⟨2, rfl, rfl, fun h => absurd h (by decide)⟩
    rw [if_pos q3, if_pos q3, if_neg (by simp), timed_eq, bnd_some', clockB_eq, bnd_some', cnd_bnot, cnd_ine]
    by_cases q4 : lblIn b.2.2.2.2.2.1
    case neg =>
      rw [if_neg q4, if_neg q4]
      exact ⟨2, rfl, rfl, fun h => absurd h (by decide)⟩
    rw [if_pos q4, if_pos q4, if_neg (by simp)]
    cases d1 : b.2.2.2.2.1.2.2.2.2 with
    | true => exact ⟨13, rfl, rfl, fun h => absurd h (by decide)⟩
    | false =>
      rw [cnd_f rfl, cnd_f rfl]
      cases d2 : b.2.2.2.2.2.1.2.2.2.2 with
      | true => exact ⟨13, rfl, rfl, fun h => absurd h (by decide)⟩
      | false =>
        rw [cnd_f rfl, cnd_f rfl, within_eq, bnd_some', cnd_bnot]
        by_cases q5 : 0 ≤ b.2.2.2.2.2.2.1 ∧ b.2.2.2.2.2.2.1 ≤ 14
        case neg =>
          refine ⟨2, ?_, if_neg q5, fun h => absurd h (by decide)⟩
          rw [cnd_ilt, cnd_ile]
          by_cases h : b.2.2.2.2.2.2.1 < 0
          · rw [if_pos h]
          · rw [if_neg h, if_pos (by omega)]
        rw [if_pos q5, cnd_f (ilt_f (by omega)), cnd_f (ile_f (by omega))]
        by_cases q6 : n8 b.2.2.2.2.2.2.2.1 < n8 (1 : UInt8)
        · exact ⟨3, cnd_t (ilt_t q6), cnd_t (ilt_t q6), fun h => absurd h (by decide)⟩
        rw [cnd_f (ilt_f q6), cnd_f (ilt_f q6)]
        by_cases q7 : n8 (3 : UInt8) < n8 b.2.2.2.2.2.2.2.1
        · exact ⟨3, cnd_t (ilt_t q7), cnd_t (ilt_t q7), fun h => absurd h (by decide)⟩
        rw [cnd_f (ilt_f q7), cnd_f (ilt_f q7)]
        by_cases q8 : (112 : Int) < len b.2.2.2.2.2.2.2.2.2
        · exact ⟨9, cnd_t (ilt_t q8), cnd_t (ilt_t q8), fun h => absurd h (by decide)⟩
        have q8' : b.2.2.2.2.2.2.2.2.2.length ≤ 112 := by simp only [len] at q8; omega
        rw [cnd_f (ilt_f q8), cnd_f (ilt_f q8), indexB_eq, bnd_some', filled_eq (by omega), bnd_some', cnd_ile, cnd_dec]
        by_cases q9 : (143 : UInt8) ∈ b.2.2.2.2.2.2.2.2.2
        · rw [if_pos ((index_ge _ _).2 q9), if_pos q9]
          exact ⟨4, rfl, rfl, fun h => absurd h (by decide)⟩
        · rw [if_neg (fun h => q9 ((index_ge _ _).1 h)), if_neg q9]
          exact ⟨0, rfl, rfl, fun _ => ⟨q1, q2, q3, q4, d1, d2, q5, q8', q9⟩⟩

noncomputable def bhd (b : Blk) : List UInt8 := [b8 b.1, b8 b.2.1, b8 (b.2.1 / 256), b.2.2.1, b.2.2.2.1, b8 b.2.2.2.2.1.1, b8 b.2.2.2.2.1.2.1, b8 b.2.2.2.2.1.2.2.1, b8 b.2.2.2.2.1.2.2.2.1, b8 b.2.2.2.2.2.1.1, b8 b.2.2.2.2.2.1.2.1, b8 b.2.2.2.2.2.1.2.2.1, b8 b.2.2.2.2.2.1.2.2.2.1, b8 b.2.2.2.2.2.2.1, b.2.2.2.2.2.2.2.1, bif b.2.2.2.2.2.2.2.2.1 then 1 else 0]
noncomputable def bby (b : Blk) : List UInt8 := bhd b ++ (b.2.2.2.2.2.2.2.2.2 ++ List.replicate (112 - b.2.2.2.2.2.2.2.2.2.length) 143)
theorem bby_len {b : Blk} (h : BlkOk b) : (bby b).length = 128 := by
  have := h.txt
  unfold bby
  rw [List.length_append, List.length_append, List.length_replicate, show (bhd b).length = 16 from rfl]
  omega
noncomputable def tpK (x : Blk) (v1 : UInt8) : Option (List UInt8 × Int) :=
  grd (room (iadd (len ([b8 x.1, b8 x.2.1, b8 (shrk .i64 x.2.1 (8 : Int)), x.2.2.1, x.2.2.2.1, b8 x.2.2.2.2.1.1, b8 x.2.2.2.2.1.2.1, b8 x.2.2.2.2.1.2.2.1, b8 x.2.2.2.2.1.2.2.2.1, b8 x.2.2.2.2.2.1.1, b8 x.2.2.2.2.2.1.2.1, b8 x.2.2.2.2.2.1.2.2.1, b8 x.2.2.2.2.2.1.2.2.2.1, b8 x.2.2.2.2.2.2.1, x.2.2.2.2.2.2.2.1, v1] : List UInt8)) (len x.2.2.2.2.2.2.2.2.2)) 1)
   (let h : List UInt8 := lapp [b8 x.1, b8 x.2.1, b8 (shrk .i64 x.2.1 (8 : Int)), x.2.2.1, x.2.2.2.1, b8 x.2.2.2.2.1.1, b8 x.2.2.2.2.1.2.1, b8 x.2.2.2.2.1.2.2.1, b8 x.2.2.2.2.1.2.2.2.1, b8 x.2.2.2.2.2.1.1, b8 x.2.2.2.2.2.1.2.1, b8 x.2.2.2.2.2.1.2.2.1, b8 x.2.2.2.2.2.1.2.2.2.1, b8 x.2.2.2.2.2.2.1, x.2.2.2.2.2.2.2.1, v1] x.2.2.2.2.2.2.2.2.2
    bnd (bytes_Repeat fuelH (([143] : List UInt8), w64 (isub (128 : Int) (len h)))) fun v2 =>
    grd (room (iadd (len h) (len v2)) 1) (some (lapp h v2, (0 : Int))))
theorem tp_eq (x : Blk) : tape_Put fuelH x = bnd (tape_Check fuelH x) fun v0 => cnd (ine v0 (0 : Int)) (some (([] : List UInt8), v0)) (cnd x.2.2.2.2.2.2.2.2.1 (tpK x 1) (tpK x 0)) := by kernel_rfl
noncomputable def rpK (x : Blk) (v1 : UInt8) : Option (List UInt8 × Int) :=
    let h0 : List UInt8 := lapp [b8 x.1, b8 (imod x.2.1 (256 : Int)), b8 (w64 (idiv x.2.1 (256 : Int))), x.2.2.1, x.2.2.2.1] [b8 x.2.2.2.2.1.1, b8 x.2.2.2.2.1.2.1, b8 x.2.2.2.2.1.2.2.1, b8 x.2.2.2.2.1.2.2.2.1, b8 x.2.2.2.2.2.1.1, b8 x.2.2.2.2.2.1.2.1, b8 x.2.2.2.2.2.1.2.2.1, b8 x.2.2.2.2.2.1.2.2.2.1]
    let h1 : List UInt8 := [b8 x.2.2.2.2.2.2.1, x.2.2.2.2.2.2.2.1, v1]
    grd (room (iadd (len h0) (len h1)) 1)
    (bnd (r23_fill fuelH (x.2.2.2.2.2.2.2.2.2, (112 : Int), (143 : UInt8))) fun v2 =>
    grd (room (iadd (len (lapp h0 h1)) (len v2)) 1) (some (lapp (lapp h0 h1) v2, (0 : Int))))
theorem rp_eq (x : Blk) : r23_Put fuelH x = bnd (r23_Check fuelH x) fun v0 => cnd (ine v0 (0 : Int)) (some (([] : List UInt8), v0)) (cnd x.2.2.2.2.2.2.2.2.1 (rpK x 1) (rpK x 0)) := by kernel_rfl
theorem fillc_eq {l : List UInt8} {n : Nat} (c : UInt8) (hn : n ≤ 1100) (hl : l.length ≤ n) : r23_fill fuelH (l, (n : Int), c) = some (l ++ List.replicate (n - l.length) c) := by
  unfold r23_fill
  rw [jn_e, grd_t (room_t (by simp [iadd, len]; omega))]
  have : ∀ (fuel : Nat) (m : List UInt8), n - m.length < fuel → m.length ≤ n → fixN (fun v2 (v3 : List UInt8) =>
    cnd (ilt (len v3) (n : Int))
      (grd (room (iadd (len v3) (len ([c] : List UInt8))) 1)
        (v2 (lapp v3 ([c] : List UInt8))))
      (some v3)) fuel m = some (m ++ List.replicate (n - m.length) c) := by
    intro fuel
    induction fuel with
    | zero => intro m h; omega
    | succ fuel ih =>
      intro m h h2
      rw [fixN_s]
      by_cases hm : m.length < n
      · rw [cnd_t (ilt_t (by simp only [len]; omega)), grd_t (room_t (by simp [iadd, len]; omega)), ih _ (by simp [lapp]; omega) (by simp [lapp]; omega)]
        congr 1
        unfold lapp
        obtain ⟨k, hk⟩ : ∃ k, n - m.length = k + 1 := ⟨n - m.length - 1, by omega⟩
        rw [hk, List.replicate_succ, List.length_append, List.append_assoc]
        simp only [List.length_singleton, show n - (m.length + 1) = k by omega]
        rfl
      · rw [cnd_f (ilt_f (by simp only [len]; omega))]
        rw [show n - m.length = 0 by omega]
        simp
  have := this fuelH (lapp [] l) (by have := fuelH_eq; simp [lapp]; omega) (by simp [lapp]; omega)
  simpa [lapp] using this
theorem rep0_eq (N : Nat) (b : UInt8) : bytes_Repeat N ([b], (0 : Int)) = some [] := by
  unfold bytes_Repeat
  rw [cnd_t (ieq_t rfl)]
theorem repeat_le {n : Nat} (hn : n ≤ 1024) (b : UInt8) : bytes_Repeat fuelH ([b], (n : Int)) = some (List.replicate n b) := by
  by_cases h : n = 0
  · subst h
    exact rep0_eq _ _
  · exact repeat_eq (by decide) b (by omega) hn
noncomputable def bhv (b : Blk) (v : UInt8) : List UInt8 := [b8 b.1, b8 b.2.1, b8 (b.2.1 / 256), b.2.2.1, b.2.2.2.1, b8 b.2.2.2.2.1.1, b8 b.2.2.2.2.1.2.1, b8 b.2.2.2.2.1.2.2.1, b8 b.2.2.2.2.1.2.2.2.1, b8 b.2.2.2.2.2.1.1, b8 b.2.2.2.2.2.1.2.1, b8 b.2.2.2.2.2.1.2.2.1, b8 b.2.2.2.2.2.1.2.2.2.1, b8 b.2.2.2.2.2.2.1, b.2.2.2.2.2.2.2.1, v]
theorem tpK_eq {b : Blk} (h : BlkOk b) (v : UInt8) : tpK b v = some (bhv b v ++ (b.2.2.2.2.2.2.2.2.2 ++ List.replicate (112 - b.2.2.2.2.2.2.2.2.2.length) 143), 0) := by
  have ht := h.txt
  have hs : shrk .i64 b.2.1 (8 : Int) = b.2.1 / 256 := by
    show b.2.1.fdiv 256 = _
    exact Int.fdiv_eq_ediv_of_nonneg _ (by decide)
  unfold tpK
  rw [hs]
  have hb : ([b8 b.1, b8 b.2.1, b8 (b.2.1 / 256), b.2.2.1, b.2.2.2.1, b8 b.2.2.2.2.1.1, b8 b.2.2.2.2.1.2.1, b8 b.2.2.2.2.1.2.2.1, b8 b.2.2.2.2.1.2.2.2.1, b8 b.2.2.2.2.2.1.1, b8 b.2.2.2.2.2.1.2.1, b8 b.2.2.2.2.2.1.2.2.1, b8 b.2.2.2.2.2.1.2.2.2.1, b8 b.2.2.2.2.2.2.1, b.2.2.2.2.2.2.2.1, v] : List UInt8) = bhv b v := rfl
  rw [hb]
  have hl : (bhv b v).length = 16 := rfl
  generalize bhv b v = H at hl
  generalize b.2.2.2.2.2.2.2.2.2 = t at ht
  simp only
  have e1 : w64 (isub (128 : Int) (len (lapp H t))) = ((112 - t.length : Nat) : Int) := by
    simp only [isub, len, lapp, List.length_append, hl]
    rw [w64_id (by omega)]
    omega
  rw [grd_t (room_t (by simp only [iadd, len, hl]; omega)), e1, repeat_le (by omega), bnd_some', grd_t (room_t (by simp only [iadd, len, lapp, List.length_append, List.length_replicate, hl]; omega))]
  unfold lapp
  rw [List.append_assoc]
theorem rpK_eq {b : Blk} (h : BlkOk b) (v : UInt8) : rpK b v = some (bhv b v ++ (b.2.2.2.2.2.2.2.2.2 ++ List.replicate (112 - b.2.2.2.2.2.2.2.2.2.length) 143), 0) := by
  have ht := h.txt
  have hn := h.num
  have e1 : b8 (imod b.2.1 (256 : Int)) = b8 b.2.1 := by
    unfold b8 imod
    rw [Int.tmod_eq_emod_of_nonneg hn.1]
    congr 2
    omega
  have e2 : b8 (w64 (idiv b.2.1 (256 : Int))) = b8 (b.2.1 / 256) := by
    unfold idiv
    rw [Int.tdiv_eq_ediv_of_nonneg hn.1, w64_id (by omega)]
  unfold rpK
  rw [e1, e2]
  have f1 : r23_fill fuelH (b.2.2.2.2.2.2.2.2.2, (112 : Int), (143 : UInt8)) = some (b.2.2.2.2.2.2.2.2.2 ++ List.replicate (112 - b.2.2.2.2.2.2.2.2.2.length) 143) := fillc_eq (n := 112) 143 (by decide) ht
  simp only
  rw [f1, bnd_some', grd_t (by kernel_rfl), grd_t (room_t (by
    simp only [iadd, len, lapp, List.length_append, List.length_replicate, List.length_cons, List.length_nil]
    omega))]
  rfl
theorem bhd_v (b : Blk) : bhd b = bhv b (bif b.2.2.2.2.2.2.2.2.1 then 1 else 0) := rfl
theorem bput_both (b : Blk) : ∃ e, tape_Check fuelH b = some e ∧ r23_Check fuelH b = some e ∧ ((e ≠ 0 ∧ tape_Put fuelH b = some ([], e) ∧ r23_Put fuelH b = some ([], e)) ∨ (e = 0 ∧ BlkOk b ∧ tape_Put fuelH b = some (bby b, 0) ∧ r23_Put fuelH b = some (bby b, 0))) := by
  obtain ⟨e, h1, h2, h3⟩ := bcheck_ok b
  refine ⟨e, h1, h2, ?_⟩
  by_cases he : e = 0
  · subst he
    have H := h3 rfl
    refine .inr ⟨rfl, H, ?_, ?_⟩
    · rw [tp_eq, bnd_s h1, cnd_f (ine_f rfl), tpK_eq H, tpK_eq H]
      unfold bby
      rw [bhd_v]
      cases b.2.2.2.2.2.2.2.2.1 <;> rfl
    · rw [rp_eq, bnd_s h2, cnd_f (ine_f rfl), rpK_eq H, rpK_eq H]
      unfold bby
      rw [bhd_v]
      cases b.2.2.2.2.2.2.2.2.1 <;> rfl
  · refine .inl ⟨he, ?_, ?_⟩
    · rw [tp_eq, bnd_s h1, cnd_t (ine_t he)]
    · rw [rp_eq, bnd_s h2, cnd_t (ine_t he)]
end
end Go.Mo
end

section
/-
  Plain facts: blocks read from bytes, by the layer and by the specification.
-/
namespace Go.Mo
open Go Go.W Go.Lib
set_option maxRecDepth 100000
noncomputable section

end
end Go.Mo
end

section
/-
  Plain facts: a block read back; files written.
-/
namespace Go.Mo
open Go Go.W Go.Lib
set_option maxRecDepth 100000
noncomputable section

theorem bput_same (b : Blk) : r23_Put fuelH b = tape_Put fuelH b := by
  obtain ⟨e, _, _, h⟩ := bput_both b
  rcases h with ⟨_, h1, h2⟩ | ⟨_, _, h1, h2⟩
  · rw [h1, h2]
  · rw [h1, h2]
/-- one block more -/
noncomputable def wrK {R : Type} (Put : Blk → Option (List UInt8 × Int)) (b : Blk) (s : List UInt8) (self : List UInt8 → Option (List R × Int)) : Option (List R × Int) :=
  bnd (Put b) fun v5 => cnd (ine v5.2 (0 : Int)) (some (([] : List R), v5.2)) (grd (room (iadd (len s) (len v5.1)) 1) (self (lapp s v5.1)))
theorem wr_fold : ∀ (l : List Blk) (i : Nat) (s : List UInt8), s.length + 128 * l.length ≤ 100000000 → ∃ p e, foldI (fun _ b s self => wrK (R := UInt8) (tape_Put fuelH) b s self) (fun s => some (s, 0)) i l s = some (p, e) ∧
    ((e ≠ 0 ∧ p = []) ∨ (e = 0 ∧ p = s ++ l.flatMap bby ∧ ∀ b ∈ l, BlkOk b ∧ tape_Put fuelH b = some (bby b, 0)))
  | [], i, s, _ => ⟨s, 0, rfl, .inr ⟨rfl, by simp, fun b hb => by cases hb⟩⟩
  | b :: l, i, s, h => by
    simp only [List.length_cons] at h
    rw [foldI]
    unfold wrK
    obtain ⟨e, _, _, hp⟩ := bput_both b
    rcases hp with ⟨he, h1, _⟩ | ⟨_, H, h1, _⟩
    · rw [h1, bnd_some', cnd_t (ine_t he)]
      exact ⟨[], e, rfl, .inl ⟨he, rfl⟩⟩
    · have hl := bby_len H
      rw [h1, bnd_some', cnd_f (ine_f rfl), grd_t (room_t (by simp only [iadd, len]; omega))]
      obtain ⟨p, e', g1, g2⟩ := wr_fold l (i + 1) (s ++ bby b) (by rw [List.length_append]; omega)
      refine ⟨p, e', g1, ?_⟩
      rcases g2 with g2 | ⟨g2, g3, g4⟩
      · exact .inl g2
      · refine .inr ⟨g2, by rw [g3, List.flatMap_cons, List.append_assoc], ?_⟩
        intro c hc
        rcases List.mem_cons.1 hc with rfl | hc
        · exact ⟨H, h1⟩
        · exact g4 c hc
noncomputable def WrOk (h : Hdr) (l : List Blk) (p : List UInt8) (e : Int) : Prop := (e ≠ 0 ∧ p = []) ∨ (e = 0 ∧ HdrOk h ∧ tape_PutHeader fuelH h = some (hby h, 0) ∧ r23_PutHeader fuelH h = some (hby h, 0) ∧ (l.length : Int) = h.2.2.2.1 ∧ (∀ b ∈ l, BlkOk b ∧ tape_Put fuelH b = some (bby b, 0)) ∧ p = hby h ++ l.flatMap bby)
theorem write_ok {h : Hdr} {l : List Blk} (h2 : h.2.2.1.length ≤ 4000000) (hl : l.length ≤ 4000) : ∃ p e, tape_Write fuelH (h, l) = some (p, e) ∧ r23_Write fuelH (h, l) = some (p, e) ∧ WrOk h l p e := by
  obtain ⟨c, _, _, hp⟩ := put_both h2
  rcases hp with ⟨he, p1, p2⟩ | ⟨_, H, p1, p2⟩
  · refine ⟨[], c, ?_, ?_, .inl ⟨he, rfl⟩⟩
    · unfold tape_Write
      rw [p1, bnd_some', cnd_t (ine_t he)]
    · unfold r23_Write
      rw [p2, bnd_some', cnd_t (ine_t he)]
  · by_cases hn : (l.length : Int) = h.2.2.2.1
    case neg =>
      refine ⟨[], 1, ?_, ?_, .inl ⟨by decide, rfl⟩⟩
      · unfold tape_Write
        rw [p1, bnd_some', cnd_f (ine_f rfl), cnd_t (ine_t (by simpa only [len] using hn))]
      · unfold r23_Write
        rw [p2, bnd_some', cnd_f (ine_f rfl), cnd_t (ine_t (by simpa only [len] using hn))]
    have hb := hby_len H
    obtain ⟨p, e, g1, g2⟩ := wr_fold l 0 (hby h) (by omega)
    have t1 : tape_Write fuelH (h, l) = some (p, e) := by
      unfold tape_Write
      rw [p1, bnd_some', cnd_f (ine_f rfl), cnd_f (ine_f (by simpa only [len] using hn)), jn_e]
      refine Eq.trans (lst_loop (l := l) (fun (s : List UInt8) (p : Nat) => (s, (p : Int))) (fun _ b s self => wrK (R := UInt8) (tape_Put fuelH) b s self) (fun s => some (s, 0)) (fun self s i hi => ?_) (fun self s => ?_) fuelH 0 (hby h) (Nat.zero_le _) (by have := fuelH_eq; omega)) g1
      · rw [cnd_t (ilt_t (by simp only [len]; omega)), grd_t (inb_t (by simp only [len]; omega)), lget_i hi, w64_succ hi (by omega)]
        rfl
      · rw [cnd_f (ilt_f (by simp only [len]; omega))]
    have t2 : r23_Write fuelH (h, l) = some (p, e) := by
      unfold r23_Write
      rw [p2, bnd_some', cnd_f (ine_f rfl), cnd_f (ine_f (by simpa only [len] using hn)), jn_e]
      refine Eq.trans (lst_loop (l := l) (fun (s : List UInt8) (p : Nat) => (s, (p : Int))) (fun _ b s self => wrK (R := UInt8) (tape_Put fuelH) b s self) (fun s => some (s, 0)) (fun self s i hi => ?_) (fun self s => ?_) fuelH 0 (hby h) (Nat.zero_le _) (by have := fuelH_eq; omega)) g1
      · rw [cnd_t (ilt_t (by simp only [len]; omega)), grd_t (inb_t (by simp only [len]; omega)), lget_i hi, w64_succ hi (by omega), bput_same]
        rfl
      · rw [cnd_f (ilt_f (by simp only [len]; omega))]
    refine ⟨p, e, t1, t2, ?_⟩
    rcases g2 with g2 | ⟨g2, g3, g4⟩
    · exact .inl g2
    · exact .inr ⟨g2, H, p1, p2, hn, g4, g3⟩
end
end Go.Mo
end

section
/-
  Plain facts: labels, both sides; blocks of a subtitle, both sides.
-/
namespace Go.Mo
open Go Go.W Go.Lib
set_option maxRecDepth 100000
noncomputable section

def nomOf (r : UInt8) : Int := if r = 3 then 25 else 30
def noL : Lbl := ((0 : Int), (0 : Int), (0 : Int), (0 : Int), false)
def labOf (n f : Int) : Lbl := (w64 (idiv (w64 (idiv f n)) (3600 : Int)), imod (w64 (idiv (w64 (idiv f n)) (60 : Int))) (60 : Int), imod (w64 (idiv f n)) (60 : Int), imod f n, false)
def labS (r : UInt8) (f : Int) : Lbl × Int := if f < 0 then (noL, 2) else if dayOf r ≤ f then (noL, 2) else (labOf (nomOf r) f, 0)
theorem lab_facts {r : UInt8} (h : r = 3 ∨ r = 5) : timecode_rateError fuelH (r, false) = some 0 ∧ timebase_Nominal fuelH r = some (nomOf r) ∧ timecode_dropped fuelH (r, false) = some 0 ∧ r03_kind fuelH (r, false) = some 0 ∧ r02_Nominal fuelH r = some (nomOf r) := by
  rcases h with rfl | rfl
  · exact ⟨by kernel_rfl, by kernel_rfl, by kernel_rfl, by kernel_rfl, by kernel_rfl⟩
  · exact ⟨by kernel_rfl, by kernel_rfl, by kernel_rfl, by kernel_rfl, by kernel_rfl⟩
theorem day_bd (r : UInt8) : dayOf r ≤ 2592000 := by unfold dayOf; split <;> omega
theorem mul0 (x : Int) : w64 (imul 0 x) = 0 := by unfold imul; rw [Int.zero_mul]; rfl
theorem add0 {f : Int} (h0 : 0 ≤ f) (h1 : f ≤ 9000000) : w64 (iadd f 0) = f := by unfold iadd; rw [w64_id (by omega)]; omega
theorem time_label {r : UInt8} (h : r = 3 ∨ r = 5) (f : Int) : timecode_Label fuelH (r, false, f) = some (labS r f) := by
  obtain ⟨e1, e2, e3, _, _⟩ := lab_facts h
  have hd := day_bd r
  unfold timecode_Label labS
  simp only
  rw [e1, bnd_some', cnd_f (ine_f rfl), cnd_ilt]
  by_cases h0 : f < 0
  · rw [if_pos h0, if_pos h0]; rfl
  rw [if_neg h0, if_neg h0, bnd_s (day_eq h).1, cnd_ile]
  by_cases h1 : dayOf r ≤ f
  · rw [if_pos h1, if_pos h1]; rfl
  rw [if_neg h1, if_neg h1, e2, bnd_some', e3, bnd_some']
  have hn : nomOf r = 25 ∨ nomOf r = 30 := by unfold nomOf; split <;> simp
  have c9 : w64 (imul (9 : Int) 0) = 0 := by kernel_rfl
  have k : ∀ n : Int, n = 25 ∨ n = 30 → (grd (ine (w64 (isub (w64 (imul (600 : Int) n)) (0 : Int))) (0 : Int)) (some ()) = some ()) ∧ ine (w64 (isub (w64 (imul (60 : Int) n)) (0 : Int))) (0 : Int) = true ∧ ine n 0 = true := by
    intro n hn
    rcases hn with rfl | rfl
    · exact ⟨by kernel_rfl, by kernel_rfl, by kernel_rfl⟩
    · exact ⟨by kernel_rfl, by kernel_rfl, by kernel_rfl⟩
  have k1 : ∀ n : Int, n = 25 ∨ n = 30 → ine (w64 (isub (w64 (imul (600 : Int) n)) (0 : Int))) (0 : Int) = true := by
    intro n hn
    rcases hn with rfl | rfl
    · kernel_rfl
    · kernel_rfl
  rw [c9, grd_t (k1 _ hn), grd_t (k1 _ hn), jn_e]
  dsimp only
  rw [mul0, mul0, add0 (f := f) (by omega) (by omega), add0 (f := f) (by omega) (by omega), grd_t (k _ hn).2.2, grd_t (k _ hn).2.2, grd_t (k _ hn).2.1]
  exact cnd_same rfl rfl
theorem ref_label {r : UInt8} (h : r = 3 ∨ r = 5) (f : Int) : r03_Label fuelH (r, false, f) = some (labS r f) := by
  obtain ⟨_, _, _, e1, e2⟩ := lab_facts h
  unfold r03_Label labS
  simp only
  rw [e1, bnd_some', cnd_f (ine_f rfl), cnd_ilt]
  by_cases h0 : f < 0
  · rw [if_pos h0, if_pos h0]; rfl
  rw [if_neg h0, if_neg h0, bnd_s (day_eq h).2, cnd_ile]
  by_cases h1 : dayOf r ≤ f
  · rw [if_pos h1, if_pos h1]; rfl
  have hn : ine (nomOf r) 0 = true := by unfold nomOf; split <;> kernel_rfl
  rw [if_neg h1, if_neg h1, e2, bnd_some', jn_e]
  dsimp only
  rw [cnd_f rfl, grd_t hn, grd_t hn]
  rfl

def setB (b : Blk) (e : UInt8) (t : List UInt8) : Blk := (b.1, b.2.1, e, b.2.2.2.1, b.2.2.2.2.1, b.2.2.2.2.2.1, b.2.2.2.2.2.2.1, b.2.2.2.2.2.2.2.1, b.2.2.2.2.2.2.2.2.1, t)
def pieceB (b : Blk) (t : List UInt8) (i : Nat) : Blk := setB b (if t.length ≤ 112 * (i + 1) then 255 else b8 (i : Int)) ((t.drop (112 * i)).take 112)
def nPc (t : List UInt8) : Nat := max 1 ((t.length + 111) / 112)
theorem nPc_eq {t : List UInt8} (ht : t.length ≤ 4000000) : imax (1 : Int) (w64 (idiv (w64 (isub (w64 (iadd (len t) (112 : Int))) (1 : Int))) (112 : Int))) = (nPc t : Int) := by
  unfold nPc iadd isub idiv imax len
  rw [w64_id (x := (t.length : Int) + 112) (by omega), w64_id (x := (t.length : Int) + 112 - 1) (by omega), Int.tdiv_eq_ediv_of_nonneg (by omega), w64_id (by omega)]
  omega
theorem cut_eq2 (t : List UInt8) (i : Nat) : ((t.take (min t.length (112 * (i + 1)))).drop (112 * i)) = (t.drop (112 * i)).take 112 := by
  rw [List.drop_take]
  by_cases h : t.length ≤ 112 * (i + 1)
  · rw [Nat.min_eq_left h, List.take_of_length_le (by rw [List.length_drop]; omega), List.take_of_length_le (by rw [List.length_drop]; omega)]
  · rw [Nat.min_eq_right (by omega)]
    congr 1
    omega
theorem split_tape {b : Blk} {t : List UInt8} {e : Int} (ht : t.length ≤ 4000000) (hc : tape_Check fuelH (setB b 0 []) = some e) :
    tape_Split fuelH (b, t) = some (if e ≠ 0 then ([], e) else if 26992 < t.length then ([], 9) else if (143 : UInt8) ∈ t then ([], 4) else ((List.range (nPc t)).map (pieceB b t), 0)) := by
  unfold tape_Split
  have hc : tape_Check fuelH (b.1, b.2.1, (0 : UInt8), b.2.2.2.1, b.2.2.2.2.1, b.2.2.2.2.2.1, b.2.2.2.2.2.2.1, b.2.2.2.2.2.2.2.1, b.2.2.2.2.2.2.2.2.1, ([] : List UInt8)) = some e := hc
  simp only
  rw [hc, bnd_some']
  by_cases h0 : e ≠ 0
  · rw [cnd_t (ine_t h0), if_pos h0]
  rw [cnd_f (ine_f (by simpa using h0)), if_neg h0, nPc_eq ht, cnd_ilt]
  by_cases h1 : 26992 < t.length
  · rw [if_pos h1, if_pos (by unfold nPc; omega)]
  rw [if_neg h1, if_neg (by unfold nPc; omega), indexB_eq, bnd_some', cnd_ile]
  by_cases h2 : (143 : UInt8) ∈ t
  · rw [if_pos h2, if_pos ((index_ge t 143).2 h2)]
  rw [if_neg h2, if_neg fun k => h2 ((index_ge t 143).1 k), jn_e]
  have hP : nPc t ≤ 241 := by unfold nPc; omega
  refine loop_inv (n := nPc t) (fun (a : List Blk) (i : Nat) => (a, (i : Int))) (fun i a => a = (List.range i).map (pieceB b t)) _ (fun self a i hi hI => ?_) (fun self a hI => ?_) fuelH 0 [] (Nat.zero_le _) (by have := fuelH_eq; omega) rfl
  · refine ⟨a ++ [pieceB b t i], ?_, ?_⟩
    · have ha : a.length = i := by rw [hI, List.length_map, List.length_range]
      have hin : 112 * i ≤ t.length := by unfold nPc at hi; omega
      have w1 : w64 (imul (i : Int) (112 : Int)) = ((112 * i : Nat) : Int) := by unfold imul; rw [w64_id (by omega)]; omega
      have w2 : w64 (imul ((i + 1 : Nat) : Int) (112 : Int)) = ((112 * (i + 1) : Nat) : Int) := by unfold imul; rw [w64_id (by omega)]; omega
      have w3 : imin (len t) ((112 * (i + 1) : Nat) : Int) = ((min t.length (112 * (i + 1)) : Nat) : Int) := by unfold imin len; omega
      have w4 : w64 (isub (nPc t : Int) (1 : Int)) = ((nPc t - 1 : Nat) : Int) := w64_pred (by unfold nPc; omega) (by omega)
      have hcut : ldrop (toN ((112 * i : Nat) : Int)) (ltake (toN ((min t.length (112 * (i + 1)) : Nat) : Int)) t) = (t.drop (112 * i)).take 112 := by
        have t1 : ∀ n : Nat, toN (n : Int) = n := fun n => by simp [toN]
        rw [t1, t1]
        exact cut_eq2 t i
      simp only
      rw [cnd_t (ilt_t (by omega)), jn_cnd, w64_succ hi (by omega), w1, w2, w3, w4, grd_t (in3_t (by simp only [len]; omega)), hcut, clone_eq _ _ (by rw [List.length_take]; omega), bnd_some', grd_t (room_t (by simp only [iadd, len, List.length_singleton]; omega))]
      congr 2
      unfold pieceB setB lapp
      congr 2
      by_cases hl : t.length ≤ 112 * (i + 1)
      · rw [if_pos hl, if_pos (by rw [ieq_tt]; unfold nPc; unfold nPc at hi; omega)]
      · rw [if_neg hl, if_neg (by rw [ieq_tt]; unfold nPc; unfold nPc at hi; omega)]
    · rw [hI, List.range_succ, List.map_append]; rfl
  · simp only
    rw [cnd_f (ilt_f (by omega)), hI]
theorem split_ref {b : Blk} {t : List UInt8} {e : Int} (ht : t.length ≤ 4000000) (hc : r23_Check fuelH (setB b 0 []) = some e) :
    r23_Split fuelH (b, t) = some (if e ≠ 0 then ([], e) else if 26992 < t.length then ([], 9) else if (143 : UInt8) ∈ t then ([], 4) else ((List.range (nPc t)).map (pieceB b t), 0)) := by
  unfold r23_Split
  have hc : r23_Check fuelH (b.1, b.2.1, (0 : UInt8), b.2.2.2.1, b.2.2.2.2.1, b.2.2.2.2.2.1, b.2.2.2.2.2.2.1, b.2.2.2.2.2.2.2.1, b.2.2.2.2.2.2.2.2.1, ([] : List UInt8)) = some e := hc
  simp only
  rw [hc, bnd_some']
  by_cases h0 : e ≠ 0
  · rw [cnd_t (ine_t h0), if_pos h0]
  rw [cnd_f (ine_f (by simpa using h0)), if_neg h0, cnd_ilt]
  by_cases h1 : 26992 < t.length
  · rw [if_pos h1, if_pos (by simp only [len]; omega)]
  rw [if_neg h1, if_neg (by simp only [len]; omega), filled_eq ht, bnd_some', cnd_dec]
  by_cases h2 : (143 : UInt8) ∈ t
  · rw [if_pos h2, if_pos h2]
  rw [if_neg h2, if_neg h2, jn_e]
  have hP : nPc t ≤ 241 := by unfold nPc; omega
  have hlen : ∀ i, (t.drop (112 * i)).length = t.length - 112 * i := fun i => List.length_drop
  refine loop_inv (n := nPc t) (fun (a : List Blk × UInt8 × List UInt8) (i : Nat) => (t.drop (112 * i), a.1, decide (i = 0), setB b a.2.1 a.2.2)) (fun i a => a.1 = (List.range i).map (pieceB b t)) _ (fun self a i hi hI => ?_) (fun self a hI => ?_) fuelH 0 ([], 0, []) (Nat.zero_le _) (by have := fuelH_eq; omega) rfl
  · refine ⟨(a.1 ++ [pieceB b t i], if t.length ≤ 112 * (i + 1) then 255 else b8 (i : Int), (t.drop (112 * i)).take 112), ?_, ?_⟩
    · have ha : a.1.length = i := by rw [hI, List.length_map, List.length_range]
      have hl := hlen i
      have t1 : ∀ n : Nat, toN (n : Int) = n := fun n => by simp [toN]
      have w3 : imin (len (t.drop (112 * i))) (112 : Int) = ((min (t.length - 112 * i) 112 : Nat) : Int) := by unfold imin len; rw [hl]; omega
      have hta : (t.drop (112 * i)).take (min (t.length - 112 * i) 112) = (t.drop (112 * i)).take 112 := by
        by_cases h : t.length - 112 * i ≤ 112
        · rw [Nat.min_eq_left h, List.take_of_length_le (by omega), List.take_of_length_le (by omega)]
        · rw [Nat.min_eq_right (by omega)]
      have hdr : (t.drop (112 * i)).drop (min (t.length - 112 * i) 112) = t.drop (112 * (i + 1)) := by
        rw [List.drop_drop]
        by_cases h : t.length - 112 * i ≤ 112
        · rw [List.drop_eq_nil_of_le (by omega), List.drop_eq_nil_of_le (by omega)]
        · congr 1; omega
      simp only
      refine (jn_u (X := self (t.drop (112 * (i + 1)), a.1 ++ [pieceB b t i], decide (i + 1 = 0), setB b (if t.length ≤ 112 * (i + 1) then 255 else b8 (i : Int)) ((t.drop (112 * i)).take 112))) ?_ _).trans ?_
      · have hin : in2 ((min (t.length - 112 * i) 112 : Nat) : Int) (len (t.drop (112 * i))) = true := in2_t (by simp only [len]; omega)
        have e1 : ltake (toN ((min (t.length - 112 * i) 112 : Nat) : Int)) (t.drop (112 * i)) = (t.drop (112 * i)).take 112 := by rw [t1]; exact hta
        have e2 : ldrop (toN ((min (t.length - 112 * i) 112 : Nat) : Int)) (t.drop (112 * i)) = t.drop (112 * (i + 1)) := by rw [t1]; exact hdr
        have hroom : ∀ s : Blk, room (iadd (len a.1) (len [s])) 144 = true := fun s => room_t (by simp only [iadd, len, List.length_singleton]; omega)
        rw [w3, grd_t hin, e1, e2, grd_t (room_t (by simp only [iadd, len, List.length_nil, List.length_take]; omega)), grd_t hin, cnd_ieq, grd_t (hroom _), grd_t (hroom _)]
        have hl2 := hlen (i + 1)
        have e0 : decide (i + 1 = 0) = false := by simp
        rw [e0]
        by_cases hx : t.length ≤ 112 * (i + 1)
        · rw [if_pos (by simp only [len]; omega), if_pos hx]
          unfold pieceB
          rw [if_pos hx]
          rfl
        · rw [if_neg (by simp only [len]; omega), if_neg hx]
          unfold pieceB
          rw [if_neg hx]
          have e3 : b8 (len a.1) = b8 (i : Int) := by simp only [len, ha]
          rw [e3]
          rfl
      · by_cases hz : i = 0
        · rw [cnd_t (decide_eq_true hz)]
        · rw [cnd_f (decide_eq_false hz), cnd_t (ilt_t (by simp only [len]; unfold nPc at hi; omega))]
    · show a.1 ++ [pieceB b t i] = _
      rw [hI, List.range_succ, List.map_append]; rfl
  · have hl := hlen (nPc t)
    have hz : ¬ nPc t = 0 := by unfold nPc; omega
    simp only
    refine (congrArg (fun z => z) ?_ : _ = _)
    rw [jn_e, cnd_f (decide_eq_false hz), cnd_f (ilt_f (by simp only [len]; unfold nPc; unfold nPc at hl; omega)), hI]
theorem split_both (b : Blk) {t : List UInt8} (ht : t.length ≤ 4000000) : ∃ r, tape_Split fuelH (b, t) = some r ∧ r23_Split fuelH (b, t) = some r ∧ r.1.length ≤ 241 := by
  obtain ⟨e, h1, h2, _⟩ := bput_both (setB b 0 [])
  refine ⟨_, split_tape ht h1, split_ref ht h2, ?_⟩
  by_cases h0 : e ≠ 0
  · rw [if_pos h0]; simp
  rw [if_neg h0]
  by_cases h1 : 26992 < t.length
  · rw [if_pos h1]; simp
  rw [if_neg h1]
  by_cases h2 : (143 : UInt8) ∈ t
  · rw [if_pos h2]; simp
  rw [if_neg h2, List.length_map, List.length_range]
  unfold nPc
  omega
end
end Go.Mo
end

section
/-
  Plain facts: the file of a document, both sides; StlEncodes returns true.
-/
namespace Go.Mo
open Go Go.W Go.Lib
set_option maxRecDepth 100000
noncomputable section

def splV (b : Blk) (t : List UInt8) : List Blk × Int := (tape_Split fuelH (b, t)).getD ([], 0)
theorem splV_ok (b : Blk) {t : List UInt8} (ht : t.length ≤ 4000000) : tape_Split fuelH (b, t) = some (splV b t) ∧ r23_Split fuelH (b, t) = some (splV b t) ∧ (splV b t).1.length ≤ 241 := by
  obtain ⟨r, h1, h2, h3⟩ := split_both b ht
  have : splV b t = r := by unfold splV; rw [h1]; rfl
  rw [this]
  exact ⟨h1, h2, h3⟩
theorem flat_len2 : ∀ l : List Blk, (∀ b ∈ l, BlkOk b ∧ tape_Put fuelH b = some (bby b, 0)) → (l.flatMap bby).length = 128 * l.length
  | [], _ => rfl
  | b :: l, hb => by
    rw [List.flatMap_cons, List.length_append, bby_len (hb b (by simp)).1, flat_len2 l fun c hc => hb c (by simp [hc]), List.length_cons]
    omega
def wrV (h : Hdr) (l : List Blk) : List UInt8 × Int := (tape_Write fuelH (h, l)).getD ([], 0)
theorem wrV_ok {h : Hdr} {l : List Blk} (h2 : h.2.2.1.length ≤ 4000000) (hl : l.length ≤ 4000) : tape_Write fuelH (h, l) = some (wrV h l) ∧ r23_Write fuelH (h, l) = some (wrV h l) ∧ (wrV h l).1.length ≤ 4000000 := by
  obtain ⟨p, e, g1, g2, g3⟩ := write_ok (h := h) h2 hl
  have : wrV h l = (p, e) := by unfold wrV; rw [g1]; rfl
  rw [this]
  refine ⟨g1, g2, ?_⟩
  rcases g3 with ⟨_, rfl⟩ | ⟨_, H, _, _, _, hb, hp⟩
  · simp
  · rw [hp, List.length_append, hby_len H, flat_len2 l hb]
    omega
def encB (d : Doc) (i : Nat) (x : Ev) : Blk := ((0 : Int), (i : Int), (0 : UInt8), (0 : UInt8), (labS d.2.2.1 x.2.1.1).1, (labS d.2.2.1 x.2.1.2).1, (placeE x d.2.2.2.2.2.1).1, (placeE x d.2.2.2.2.2.1).2, false, ([] : List UInt8))
def setF (h : Hdr) (l : Lbl) : Hdr := (h.1, h.2.1, h.2.2.1, h.2.2.2.1, h.2.2.2.2.1, h.2.2.2.2.2.1, l, h.2.2.2.2.2.2.2)
def encS (d : Doc) (i : Nat) (x : Ev) : List Blk × Int := splV (encB d i x) (textL true x.2.2.2.2.2 []).1
def encRnd (d : Doc) (i : Nat) (x : Ev) (a : List Blk × Hdr) : Option (List UInt8 × Int) ⊕ List Blk × Hdr :=
  if (encS d i x).2 ≠ 0 then .inl (some ([], (encS d i x).2)) else .inr (a.1 ++ (encS d i x).1, if i = 0 then setF a.2 (labS d.2.2.1 x.2.1.1).1 else a.2)
def encE (a : List Blk × Hdr) : Option (List UInt8 × Int) := some (wrV (a.2.1, a.2.2.1, a.2.2.2.1, len a.1, a.2.2.2.2.2) a.1)
def encH (d : Doc) : Hdr := (d.2.2.1, d.2.1, d.1, (0 : Int), len d.2.2.2.2.2.2.1, noL, noL, (15 : Int), (32 : Int))
def encL (d : Doc) : Option (List UInt8 × Int) := itI (encRnd d) encE 0 d.2.2.2.2.2.2.1 ([], encH d)
/-- a document that can be encoded within the fuel -/
def encOk (d : Doc) : Prop := smallD d ∧ d.2.2.2.2.2.2.1.length ≤ 16 ∧ ∀ x ∈ d.2.2.2.2.2.2.1, costL x.2.2.2.2.2 ≤ 4000000
def encI (d : Doc) (i : Nat) (a : List Blk × Hdr) : Prop := a.1.length ≤ 241 * i ∧ a.2.2.2.1 = d.1
theorem encI_step {d : Doc} {i : Nat} {x : Ev} {a : List Blk × Hdr} (h : encI d i a) (hl : (encS d i x).1.length ≤ 241) (l : Lbl) : encI d (i + 1) (a.1 ++ (encS d i x).1, if i = 0 then setF a.2 l else a.2) := by
  refine ⟨?_, ?_⟩
  · have := h.1
    simp only [List.length_append]
    omega
  · show (if i = 0 then setF a.2 l else a.2).2.2.1 = _
    split
    · exact h.2
    · exact h.2
theorem enc_text {d : Doc} (h : encOk d) {x : Ev} (hx : x ∈ d.2.2.2.2.2.2.1) (hr : x.2.2.2.2.2.length ≤ 4) : stl_Text fuelH x.2.2.2.2.2 = some (textL true x.2.2.2.2.2 []) ∧ r24_Text fuelH x.2.2.2.2.2 = some (textL true x.2.2.2.2.2 []) ∧ (textL true x.2.2.2.2.2 []).1.length ≤ 4000000 := by
  have hc := h.2.2 x hx
  have hs : shortL x.2.2.2.2.2 := fun r hr => (h.1.2.2.1 x hx r hr).1
  have ht := textL_len x.2.2.2.2.2 true []
  simp only [List.length_nil, Nat.zero_add] at ht
  exact ⟨stl_text hs (by omega) (by omega), r24_text hs (by omega) (by omega), by omega⟩
theorem enc_some {d : Doc} (h : encOk d) (hr : ∀ x ∈ d.2.2.2.2.2.2.1, x.2.2.2.2.2.length ≤ 4) : ∀ (l : List Ev) (i : Nat) (a : List Blk × Hdr), (∀ x ∈ l, x ∈ d.2.2.2.2.2.2.1) → encI d i a → i + l.length ≤ 16 → ∃ p e, itI (encRnd d) encE i l a = some (p, e) ∧ p.length ≤ 4000000
  | [], i, a, _, hI, hi => by
    simp only [List.length_nil] at hi
    have h1 := hI.1
    refine ⟨_, _, rfl, (wrV_ok (h := (a.2.1, a.2.2.1, a.2.2.2.1, len a.1, a.2.2.2.2.2)) (l := a.1) ?_ (by omega)).2.2⟩
    show a.2.2.2.1.length ≤ _
    rw [hI.2]
    exact h.1.1
  | x :: l, i, a, hm, hI, hi => by
    simp only [List.length_cons] at hi
    have hx := hm x List.mem_cons_self
    have hs := (splV_ok (encB d i x) (enc_text h hx (hr x hx)).2.2).2.2
    simp only [itI, encRnd]
    by_cases h0 : (encS d i x).2 ≠ 0
    · rw [if_pos h0]
      exact ⟨_, _, rfl, by simp⟩
    · rw [if_neg h0]
      exact enc_some h hr l (i + 1) _ (fun y hy => hm y (List.mem_cons_of_mem _ hy)) (encI_step hI hs _) (by omega)
theorem stl_encode {d : Doc} (h : encOk d) : stl_Encode fuelH d = bnd (acceptS d) fun v => cnd (ine v.2 (0 : Int)) (some ([], v.2)) (encL d) := by
  have hs := h.1
  unfold stl_Encode
  rw [stl_accept hs]
  obtain ⟨⟨v, w⟩, hv⟩ := accept_some d
  rw [hv, bnd_some', bnd_some']
  by_cases hw : w = 0
  · subst hw
    obtain ⟨h1, h2, _, _⟩ := acceptS_zero hv
    obtain ⟨_, hev⟩ := chk_evs h1
    rw [cnd_f (ine_f rfl), cnd_f (ine_f rfl), jn_e]
    have hn := h.2.1
    have hpl := fun x hx => placed_eq (d := d) (x := x) (hs.2.2.1 x hx) hs.2.1 (hev x hx)
    have htx := fun x hx => enc_text h (x := x) hx (ev_ok (hev x hx)).2.2.2.2.1
    have hsp := fun x hx i => splV_ok (encB d i x) (htx x hx).2.2
    unfold encL
    have hH : encI d 0 ([], encH d) := ⟨Nat.le_refl _, rfl⟩
    unfold encH at hH ⊢
    generalize hl : d.2.2.2.2.2.2.1 = l at hn hpl htx hsp hH ⊢
    refine Eq.trans (lst_it (l := l) (fun (a : List Blk × Hdr) (p : Nat) => (a.1, (p : Int), a.2)) (encRnd d) encE (fun i a => encI d i a ∧ i ≤ l.length) (fun self a i hi hI => ?_) (fun self a hI => ?_) fuelH 0 _ (Nat.zero_le _) (by have := fuelH_eq; omega) ⟨hH, Nat.zero_le _⟩) ?_
    · have hx := List.getElem_mem hi
      have hla := hI.1.1
      have hs3 := (hsp _ hx i).2.2
      simp only
      rw [cnd_t (ilt_t (by simp only [len]; omega)), grd_t (inb_t (by simp only [len]; omega)), lget_i hi, bnd_s (hpl _ hx).1, time_label h2, bnd_some', time_label h2, bnd_some', jn_cnd, bnd_s (htx _ hx).1, w64_succ hi (by omega)]
      have e1 : tape_Split fuelH (((0 : Int), (i : Int), (0 : UInt8), (0 : UInt8), (labS d.2.2.1 l[i].2.1.1).1, (labS d.2.2.1 l[i].2.1.2).1, (placeE l[i] d.2.2.2.2.2.1).1, (placeE l[i] d.2.2.2.2.2.1).2, false, ([] : List UInt8)), (textL true l[i].2.2.2.2.2 []).1) = some (encS d i l[i]) := (hsp _ hx i).1
      rw [e1, bnd_some']
      unfold encRnd
      by_cases h0 : (encS d i l[i]).2 ≠ 0
      · rw [cnd_t (ine_t h0), if_pos h0]; rfl
      · rw [cnd_f (ine_f (by simpa using h0)), if_neg h0, grd_t (room_t (by simp only [iadd, len]; unfold encS; omega))]
        refine ⟨?_, encI_step hI.1 hs3 _, hi⟩
        congr 2
        congr 1
        by_cases hz : i = 0
        · rw [if_pos hz, if_pos (by rw [ieq_tt]; omega)]; rfl
        · rw [if_neg hz, if_neg (by rw [ieq_tt]; omega)]
    · simp only
      rw [cnd_f (ilt_f (by simp only [len]; omega))]
      have h1 := hI.1.1
      have h3 := hI.2
      have hw := (wrV_ok (h := (a.2.1, a.2.2.1, a.2.2.2.1, len a.1, a.2.2.2.2.2)) (l := a.1) (by show a.2.2.2.1.length ≤ _; rw [hI.1.2]; exact hs.1) (by omega)).1
      rw [hw]
      rfl
    · rw [List.drop_zero]
  · rw [cnd_t (ine_t hw), cnd_t (ine_t hw)]
theorem r24_encode {d : Doc} (h : encOk d) : r24_Encode fuelH d = bnd (acceptS d) fun v => cnd (ine v.2 (0 : Int)) (some ([], v.2)) (encL d) := by
  have hs := h.1
  unfold r24_Encode
  rw [r24_accept hs]
  obtain ⟨⟨v, w⟩, hv⟩ := accept_some d
  rw [hv, bnd_some', bnd_some']
  by_cases hw : w = 0
  · subst hw
    obtain ⟨h1, h2, _, _⟩ := acceptS_zero hv
    obtain ⟨_, hev⟩ := chk_evs h1
    rw [cnd_f (ine_f rfl), cnd_f (ine_f rfl), jn_e]
    have hn := h.2.1
    have hpl := fun x hx => placed_eq (d := d) (x := x) (hs.2.2.1 x hx) hs.2.1 (hev x hx)
    have htx := fun x hx => enc_text h (x := x) hx (ev_ok (hev x hx)).2.2.2.2.1
    have hsp := fun x hx i => splV_ok (encB d i x) (htx x hx).2.2
    unfold encL
    have hH : encI d 0 ([], encH d) := ⟨Nat.le_refl _, rfl⟩
    unfold encH at hH ⊢
    generalize hl : d.2.2.2.2.2.2.1 = l at hn hpl htx hsp hH ⊢
    refine Eq.trans (lst_it (l := l) (fun (a : List Blk × Hdr) (p : Nat) => (a.1, (p : Int), a.2)) (encRnd d) encE (fun i a => encI d i a ∧ i ≤ l.length) (fun self a i hi hI => ?_) (fun self a hI => ?_) fuelH 0 _ (Nat.zero_le _) (by have := fuelH_eq; omega) ⟨hH, Nat.zero_le _⟩) ?_
    · have hx := List.getElem_mem hi
      have hla := hI.1.1
      have hs3 := (hsp _ hx i).2.2
      simp only
      rw [cnd_t (ilt_t (by simp only [len]; omega)), grd_t (inb_t (by simp only [len]; omega)), lget_i hi, ref_label h2, bnd_some', ref_label h2, bnd_some', bnd_s (hpl _ hx).2, jn_cnd, bnd_s (htx _ hx).2.1, w64_succ hi (by omega)]
      have e1 : r23_Split fuelH (((0 : Int), (i : Int), (0 : UInt8), (0 : UInt8), (labS d.2.2.1 l[i].2.1.1).1, (labS d.2.2.1 l[i].2.1.2).1, (placeE l[i] d.2.2.2.2.2.1).1, (placeE l[i] d.2.2.2.2.2.1).2, false, ([] : List UInt8)), (textL true l[i].2.2.2.2.2 []).1) = some (encS d i l[i]) := (hsp _ hx i).2.1
      rw [e1, bnd_some']
      unfold encRnd
      by_cases h0 : (encS d i l[i]).2 ≠ 0
      · rw [cnd_t (ine_t h0), if_pos h0]; rfl
      · rw [cnd_f (ine_f (by simpa using h0)), if_neg h0, grd_t (room_t (by simp only [iadd, len]; unfold encS; omega))]
        refine ⟨?_, encI_step hI.1 hs3 _, hi⟩
        congr 2
        congr 1
        by_cases hz : i = 0
        · rw [if_pos hz, if_pos (by rw [ieq_tt]; omega)]; rfl
        · rw [if_neg hz, if_neg (by rw [ieq_tt]; omega)]
    · simp only
      rw [cnd_f (ilt_f (by simp only [len]; omega))]
      have h1 := hI.1.1
      have h3 := hI.2
      have hw := (wrV_ok (h := (a.2.1, a.2.2.1, a.2.2.2.1, len a.1, a.2.2.2.2.2)) (l := a.1) (by show a.2.2.2.1.length ≤ _; rw [hI.1.2]; exact hs.1) (by omega)).2.1
      rw [hw]
      rfl
    · rw [List.drop_zero]
  · rw [cnd_t (ine_t hw), cnd_t (ine_t hw)]
theorem few_enc {d : Doc} (hb : wtD d ≤ 1048576) : encOk (fewD d) := by
  refine ⟨few_small hb, by show (d.2.2.2.2.2.2.1.take 5).length ≤ _; rw [List.length_take]; omega, fun x hx => ?_⟩
  unfold wtD at hb
  have hx : x ∈ d.2.2.2.2.2.2.1 := List.mem_of_mem_take (show x ∈ d.2.2.2.2.2.2.1.take 5 from hx)
  have h1 : 1 + (1 + 1 + (x.2.2.1.length + 1 + (1 + (x.2.2.2.2.1.length + 1 + (bkL wtR x.2.2.2.2.2 + 1))))) ≤ bkL wtX d.2.2.2.2.2.2.1 := bk_mem (f := wtX) hx
  have h2 := costL_wt x.2.2.2.2.2
  omega
theorem encodes_true {x : Doc} (hb : wtD x ≤ 1048576) : l24_StlEncodes fuelH x = some true := by
  unfold l24_StlEncodes
  have he := few_enc hb
  rw [awake24, bnd_some', cnd_f (by rfl), few_eq, bnd_some', stl_encode he, r24_encode he]
  obtain ⟨⟨v, w⟩, hv⟩ := accept_some (fewD x)
  rw [hv, bnd_some']
  have hfin : ∀ (p : List UInt8) (e : Int), p.length ≤ 4000000 → (bnd (slices_Equal_Lbyte_byte fuelH (p, p)) fun v4 => cnd v4 (some (ieq e e)) (some false)) = some true := by
    intro p e hp
    rw [equal_eq p p (by omega) (.inr (by have := fuelH_eq; omega)), decide_eq_true rfl, bnd_some', cnd_t rfl, ieq_t rfl]
  by_cases hw : w = 0
  · subst hw
    obtain ⟨h1, _, _, _⟩ := acceptS_zero hv
    obtain ⟨_, hev⟩ := chk_evs h1
    obtain ⟨p, e, g1, g2⟩ := enc_some he (fun x hx => (ev_ok (hev x hx)).2.2.2.2.1) (fewD x).2.2.2.2.2.2.1 0 ([], encH (fewD x)) (fun y hy => hy) ⟨Nat.le_refl _, rfl⟩ (by have := he.2.1; omega)
    have g1 : encL (fewD x) = some (p, e) := g1
    rw [cnd_f (ine_f rfl), g1, bnd_some', bnd_some']
    exact hfin p e g2
  · rw [cnd_t (ine_t hw), bnd_some', bnd_some']
    exact hfin [] w (by simp)
end
end Go.Mo
end
