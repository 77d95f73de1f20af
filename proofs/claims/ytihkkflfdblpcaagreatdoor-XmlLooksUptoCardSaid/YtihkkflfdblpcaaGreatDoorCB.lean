/-
  Texts put together, in build order: XF.
-/
import Derived.Test.YtihkkflfdblpcaaGreatDoorCA
set_option linter.all false

section
/-
  Plain facts: attributes and children; XmlLooks returns true.
-/
set_option linter.all false
namespace Go.Mo
open Go Go.W Go.Lib
set_option maxRecDepth 100000
noncomputable section

abbrev Ln := List UInt8
abbrev At := List UInt8 × List UInt8
abbrev Nd := List UInt8 × List UInt8 × List At × Int
def ndz : Nd := ([], ([], ([], (0 : Int))))
def dep (n : Nd) : Int := n.2.2.2
def i64 (x : Int) : Prop := -9223372036854775808 ≤ x ∧ x ≤ 9223372036854775807
theorem lgetn {l : List Nd} {i : Nat} (h : i < l.length) : lget l (toN (i : Int)) ([], ([], ([], (0 : Int)))) = l[i] := lget_i h
/-- the children behind a place -/
def chS (d : Int) : Nat → List Nd → List Int
  | _, [] => []
  | k, n :: r => if d < dep n then (if dep n = d + 1 then (k : Int) :: chS d (k + 1) r else chS d (k + 1) r) else []
def kids (l : List Nd) (i : Int) : List Int := if i < 0 ∨ (l.length : Int) ≤ i then [] else chS (dep (l.getD i.toNat ndz)) (i.toNat + 1) (l.drop (i.toNat + 1))
theorem kids_loop {l : List Nd} (hl : l.length ≤ 1000000) (hd : ∀ n ∈ l, i64 (dep n)) {i : Nat} (hi : i < l.length) (T : Int → Int → Bool) (hT : ∀ a d, i64 a → i64 d → d < a → T a d = ieq a (d + 1)) :
    fixN (fun v2 (v3 : (List Int) × Int) =>
        cnd (ilt v3.2 (len l))
          (grd (inb v3.2 (len l))
            (grd (inb (i : Int) (len l))
              (cnd (ilt (lget l (toN (i : Int)) ([], ([], ([], (0 : Int))))).2.2.2 (lget l (toN v3.2) ([], ([], ([], (0 : Int))))).2.2.2)
                (grd (inb v3.2 (len l))
                  (grd (inb (i : Int) (len l))
                    (cnd (T (lget l (toN v3.2) ([], ([], ([], (0 : Int))))).2.2.2 (lget l (toN (i : Int)) ([], ([], ([], (0 : Int))))).2.2.2)
                      (grd (room (iadd (len v3.1) (len ([v3.2] : List Int))) 8)
                        (v2 (lapp v3.1 ([v3.2] : List Int), w64 (iadd v3.2 (1 : Int)))))
                      (v2 (v3.1, w64 (iadd v3.2 (1 : Int)))))))
                (some v3.1))))
          (some v3.1)) fuelH (([] : List Int), ((i + 1 : Nat) : Int)) = some (chS (dep l[i]) (i + 1) (l.drop (i + 1))) := by
  have h := drop_loop (s := l) (fun (a : List Int) (k : Nat) => (a, (k : Int))) (fun a r => some (a ++ chS (dep l[i]) (l.length - r.length) r)) (fun k a => a.length ≤ k)
    (F := fun v2 (v3 : (List Int) × Int) =>
        cnd (ilt v3.2 (len l))
          (grd (inb v3.2 (len l))
            (grd (inb (i : Int) (len l))
              (cnd (ilt (lget l (toN (i : Int)) ([], ([], ([], (0 : Int))))).2.2.2 (lget l (toN v3.2) ([], ([], ([], (0 : Int))))).2.2.2)
                (grd (inb v3.2 (len l))
                  (grd (inb (i : Int) (len l))
                    (cnd (T (lget l (toN v3.2) ([], ([], ([], (0 : Int))))).2.2.2 (lget l (toN (i : Int)) ([], ([], ([], (0 : Int))))).2.2.2)
                      (grd (room (iadd (len v3.1) (len ([v3.2] : List Int))) 8)
                        (v2 (lapp v3.1 ([v3.2] : List Int), w64 (iadd v3.2 (1 : Int)))))
                      (v2 (v3.1, w64 (iadd v3.2 (1 : Int)))))))
                (some v3.1))))
          (some v3.1)) ?_ fuelH (i + 1) [] (fuelH_len (by omega) _) (by omega) (by simp)
  · refine Eq.trans h ?_
    rw [List.length_drop, show l.length - (l.length - (i + 1)) = i + 1 by omega]
    rfl
  · intro self a k hk hI hself
    by_cases hkl : k < l.length
    · have hw : w64 (iadd (k : Int) 1) = ((k + 1 : Nat) : Int) := w64_succ hkl (by omega)
      have hdi := hd _ (List.getElem_mem hi)
      have hdk := hd _ (List.getElem_mem hkl)
      have hrl : l.length - (l.drop k).length = k := by rw [List.length_drop]; omega
      have hrl2 : l.length - (l.drop (k + 1)).length = k + 1 := by rw [List.length_drop]; omega
      rw [hrl, List.drop_eq_getElem_cons hkl]
      have e : chS (dep l[i]) k (l[k] :: l.drop (k + 1)) = if dep l[i] < dep l[k] then (if dep l[k] = dep l[i] + 1 then (k : Int) :: chS (dep l[i]) (k + 1) (l.drop (k + 1)) else chS (dep l[i]) (k + 1) (l.drop (k + 1))) else [] := rfl
      rw [e]
      show cnd (ilt (k : Int) (len l)) _ _ = _
      rw [cnd_t (ilt_t (by simp only [len]; omega)), grd_t (inb_t (by simp only [len]; omega)), grd_t (inb_t (by simp only [len]; omega)), grd_t (inb_t (by simp only [len]; omega)), grd_t (inb_t (by simp only [len]; omega)), lgetn hi]
      show cnd (ilt (l[i].2.2.2) (lget l (toN (k : Int)) _).2.2.2) _ _ = _
      rw [lgetn hkl]
      show cnd (ilt (dep l[i]) (dep l[k])) (cnd (T (dep l[k]) (dep l[i])) _ _) _ = _
      by_cases h1 : dep l[i] < dep l[k]
      · rw [cnd_t (ilt_t h1), if_pos h1, hT _ _ hdk hdi h1]
        by_cases h2 : dep l[k] = dep l[i] + 1
        · rw [cnd_t (ieq_t h2), if_pos h2, grd_t (room_t (by simp only [len, iadd, List.length_cons, List.length_nil]; omega))]
          show self (lapp a [(k : Int)], w64 (iadd (k : Int) 1)) = _
          rw [hw]
          refine Eq.trans (hself (a ++ [(k : Int)]) (k + 1) (by omega) (by omega) (by simp; omega)) ?_
          rw [hrl2]
          simp
        · rw [cnd_f (ieq_f h2), if_neg h2]
          show self (a, w64 (iadd (k : Int) 1)) = _
          rw [hw]
          refine Eq.trans (hself a (k + 1) (by omega) (by omega) (by omega)) ?_
          rw [hrl2]
      · rw [cnd_f (ilt_f h1), if_neg h1, List.append_nil]
    · obtain rfl : k = l.length := by omega
      show cnd (ilt (l.length : Int) (len l)) _ _ = _
      rw [cnd_f (ilt_f (by simp only [len]; omega)), List.drop_length]
      simp [chS]
theorem kids_eq {l : List Nd} (hl : l.length ≤ 1000000) (hd : ∀ n ∈ l, i64 (dep n)) (i : Int) : xml_Children fuelH (l, i) = some (kids l i) ∧ r20_Children fuelH (l, i) = some (kids l i) := by
  unfold xml_Children r20_Children kids
  have hlen : len l = (l.length : Int) := rfl
  show cnd (ilt i 0) _ (cnd (ile (len l) i) _ _) = _ ∧ cnd (ilt i 0) _ (cnd (ile (len l) i) _ _) = _
  rw [hlen]
  by_cases h0 : i < 0
  · rw [cnd_t (ilt_t h0), cnd_t (ilt_t h0), if_pos (Or.inl h0)]
    exact ⟨rfl, rfl⟩
  rw [cnd_f (ilt_f h0), cnd_f (ilt_f h0)]
  by_cases h1 : (l.length : Int) ≤ i
  · rw [cnd_t (ile_t h1), cnd_t (ile_t h1), if_pos (Or.inr h1)]
    exact ⟨rfl, rfl⟩
  rw [cnd_f (ile_f h1), cnd_f (ile_f h1), if_neg (by omega), jn_e, jn_e]
  obtain ⟨k, rfl⟩ : ∃ k : Nat, i = (k : Int) := ⟨i.toNat, by omega⟩
  have hk : k < l.length := by omega
  have hw : w64 (iadd (k : Int) 1) = ((k + 1 : Nat) : Int) := w64_succ hk (by omega)
  have hg : l.getD k ndz = l[k] := by simp [List.getD, hk]
  rw [Int.toNat_natCast, hg, hw]
  refine ⟨kids_loop hl hd hk (fun a d => ieq a (w64 (iadd d 1))) fun a d ha hd' h => ?_, kids_loop hl hd hk (fun a d => ieq (w64 (isub a 1)) d) fun a d ha hd' h => ?_⟩
  · have h1 := ha.2
    have h2 := hd'.1
    simp only [iadd]
    rw [w64_id (by omega)]
  · have h1 := ha.2
    have h2 := hd'.1
    simp only [isub]
    rw [w64_id (by omega)]
    by_cases e : a = d + 1
    · rw [ieq_t e, ieq_t (by omega)]
    · rw [ieq_f e, ieq_f (by omega)]

def wtA (a : At) : Nat := a.1.length + 1 + (a.2.length + 1)
def wtN (n : Nd) : Nat := n.1.length + 1 + (n.2.1.length + 1 + (bkL wtA n.2.2.1 + 1 + 1))
structure smN (n : Nd) : Prop where
  nm : n.1.length ≤ 1048576
  tx : n.2.1.length ≤ 1048576
  asz : n.2.2.1.length ≤ 1048576
  an : ∀ a ∈ n.2.2.1, a.1.length ≤ 1048576 ∧ a.2.length ≤ 1048576
theorem sm_of {l : List Nd} (h : bkL wtN l ≤ 1048576) : ∀ n ∈ l, smN n := fun n hn => by
  have h1 : n.1.length + 1 + (n.2.1.length + 1 + (bkL wtA n.2.2.1 + 1 + 1)) ≤ bkL wtN l := bk_mem (f := wtN) hn
  have h2 := bk_len (f := wtA) (fun a => by unfold wtA; omega) n.2.2.1
  refine ⟨by omega, by omega, by omega, fun a ha => ?_⟩
  have h3 : a.1.length + 1 + (a.2.length + 1) ≤ bkL wtA n.2.2.1 := bk_mem (f := wtA) ha
  omega
def attrF (name : Ln) : List At → Ln × Bool
  | [] => ([], false)
  | a :: r => if a.1 = name then (a.2, true) else attrF name r
def attrG (l : List Nd) (i : Int) (name : Ln) : Ln × Bool := if i < 0 ∨ (l.length : Int) ≤ i then ([], false) else attrF name (l.getD i.toNat ndz).2.2.1
theorem attr_eq {l : List Nd} (hs : ∀ n ∈ l, smN n) (i : Int) (name : Ln) : xml_Attr fuelH (l, i, name) = some (attrG l i name) := by
  unfold xml_Attr attrG
  have hlen : len l = (l.length : Int) := rfl
  show cnd (ilt i 0) _ (cnd (ile (len l) i) _ _) = _
  rw [hlen]
  by_cases h0 : i < 0
  · rw [cnd_t (ilt_t h0), if_pos (Or.inl h0)]
  rw [cnd_f (ilt_f h0)]
  by_cases h1 : (l.length : Int) ≤ i
  · rw [cnd_t (ile_t h1), if_pos (Or.inr h1)]
  rw [cnd_f (ile_f h1), if_neg (by omega), jn_e]
  obtain ⟨k, rfl⟩ : ∃ k : Nat, i = (k : Int) := ⟨i.toNat, by omega⟩
  have hk : k < l.length := by omega
  have hg : l.getD k ndz = l[k] := by simp [List.getD, hk]
  have hsm := hs _ (List.getElem_mem hk)
  rw [Int.toNat_natCast, hg]
  show grd (inb (k : Int) (len l)) (fixN _ fuelH (0 : Int)) = _
  rw [grd_t (inb_t (by simp only [len]; omega))]
  simp only [lgetn hk]
  have h := drop_loop (s := l[k].2.2.1) (fun (_ : Unit) (j : Nat) => (j : Int)) (fun _ r => some (attrF name r)) (fun _ _ => True)
    (F := fun v2 (v3 : Int) =>
        cnd (ilt v3 (len l[k].2.2.1))
          (grd (inb v3 (len l[k].2.2.1))
            (cnd (seq (lget l[k].2.2.1 (toN v3) ([], [])).1 name)
              (some ((lget l[k].2.2.1 (toN v3) ([], [])).2, true))
              (v2 (w64 (iadd v3 (1 : Int))))))
          (some (([] : List UInt8), false))) ?_ fuelH 0 () (fuelH_len (by have := hsm.asz; omega) _) (Nat.zero_le _) trivial
  · exact h
  · intro self a j hj _ hself
    by_cases hjl : j < l[k].2.2.1.length
    · have hw : w64 (iadd (j : Int) 1) = ((j + 1 : Nat) : Int) := w64_succ hjl (by have := hsm.asz; omega)
      rw [List.drop_eq_getElem_cons hjl]
      show cnd (ilt (j : Int) (len l[k].2.2.1)) _ _ = _
      rw [cnd_t (ilt_t (by simp only [len]; omega)), grd_t (inb_t (by simp only [len]; omega)), lget_i hjl, hw]
      show _ = some (if (l[k].2.2.1[j]).1 = name then _ else _)
      by_cases e : (l[k].2.2.1[j]).1 = name
      · rw [cnd_t (by rw [seq_t]; exact e), if_pos e]
      · rw [cnd_f (by rw [seq_dec]; simpa using e), if_neg e]
        exact hself () (j + 1) (by omega) (by omega) trivial
    · obtain rfl : j = l[k].2.2.1.length := by omega
      show cnd (ilt (l[k].2.2.1.length : Int) (len l[k].2.2.1)) _ _ = _
      rw [cnd_f (ilt_f (by simp only [len]; omega)), List.drop_length]
      rfl
theorem rattr_eq (x : List Nd × Int × Ln) : r20_Attr fuelH x = xml_Attr fuelH x := rfl
theorem eqI_eq {l : List Int} (hl : l.length ≤ 4000000) : slices_Equal_Lint_int fuelH (l, l) = some true := by
  unfold slices_Equal_Lint_int
  rw [cnd_f (ine_f rfl), jn_e]
  have h := drop_loop (s := l) (fun (_ : Unit) (j : Nat) => (j : Int)) (fun _ _ => some true) (fun _ _ => True)
    (F := fun v2 (v3 : Int) =>
      cnd (ilt v3 (len l))
        (grd (inb v3 (len l))
          (grd (inb v3 (len l))
            (cnd (ine (lget l (toN v3) (0 : Int)) (lget l (toN v3) (0 : Int)))
              (some false)
              (v2 (w64 (iadd v3 (1 : Int)))))))
        (some true)) ?_ fuelH 0 () (fuelH_len hl _) (Nat.zero_le _) trivial
  · exact h
  · intro self a j hj _ hself
    by_cases hjl : j < l.length
    · have hw : w64 (iadd (j : Int) 1) = ((j + 1 : Nat) : Int) := w64_succ hjl (by omega)
      show cnd (ilt (j : Int) (len l)) _ _ = _
      rw [cnd_t (ilt_t (by simp only [len]; omega)), grd_t (inb_t (by simp only [len]; omega)), grd_t (inb_t (by simp only [len]; omega)), cnd_f (ine_f rfl), hw]
      exact hself () (j + 1) (by omega) (by omega) trivial
    · obtain rfl : j = l.length := by omega
      show cnd (ilt (l.length : Int) (len l)) _ _ = _
      rw [cnd_f (ilt_f (by simp only [len]; omega))]
theorem few20 (x : List Nd) : l20_few fuelH x = some (x.take 24) := by
  unfold l20_few
  rw [grd_t (in2_t (by simp only [len, imin]; omega))]
  simp only [ltake, toN, len, imin]
  congr 1
  by_cases h : x.length ≤ 24
  · rw [show (min (x.length : Int) 24).toNat = x.length by omega, List.take_length, List.take_of_length_le h]
  · rw [show (min (x.length : Int) 24).toNat = 24 by omega]
theorem chS_len (d : Int) : ∀ (k : Nat) (r : List Nd), (chS d k r).length ≤ r.length
  | _, [] => Nat.le_refl _
  | k, n :: r => by
    have := chS_len d (k + 1) r
    unfold chS
    split
    · split
      · simp; omega
      · simp; omega
    · simp
theorem kids_len (l : List Nd) (i : Int) : (kids l i).length ≤ l.length := by
  unfold kids
  split
  · simp
  · have := chS_len (dep (l.getD i.toNat ndz)) (i.toNat + 1) (l.drop (i.toNat + 1))
    rw [List.length_drop] at this
    omega
theorem wf_i64 {x : Int} (h : (Lit.int .i64 x).wf = true) : i64 x := by
  have : IntKind.i64.min ≤ x ∧ x ≤ IntKind.i64.max := by simpa [Lit.wf] using h
  exact ⟨by have := this.1; simp [IntKind.min, IntKind.signed, IntKind.bits] at this; omega, by have := this.2; simp [IntKind.max, IntKind.signed, IntKind.bits] at this; omega⟩
theorem looks_true {x : List Nd × Int × Ln} (hx : ∀ n ∈ x.1, (Lit.int .i64 n.2.2.2).wf = true) (hb : bkL wtN x.1 + 1 + (1 + (x.2.2.length + 1 + 0)) ≤ 1048576) : l20_XmlLooks fuelH x = some true := by
  have hsm : ∀ n ∈ x.1.take 24, smN n := fun n hn => sm_of (l := x.1) (by omega) n (List.mem_of_mem_take hn)
  have hd : ∀ n ∈ x.1.take 24, i64 (dep n) := fun n hn => wf_i64 (hx n (List.mem_of_mem_take hn))
  have hl : (x.1.take 24).length ≤ 24 := by rw [List.length_take]; omega
  have hk := kids_eq (by omega) hd x.2.1
  have hkl := kids_len (x.1.take 24) x.2.1
  unfold l20_XmlLooks
  rw [awake20, bnd_some', cnd_f (by rfl), few20, bnd_some', short20, bnd_some', rattr_eq, attr_eq hsm, bnd_some', bnd_some', cnd_t (by rw [seq_t]), cnd_t (by rw [beqb_t]), hk.1, bnd_some', hk.2, bnd_some', eqI_eq (by omega), bnd_some']
end
end Go.Mo
end
