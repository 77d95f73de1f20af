/-
  Texts put together, in build order: PQ PR PS PT SA SC PU SJ SK SL SM SN SO SP SQ SV.
-/
import Derived.Test.YtlljakdlfbgdhaaGreatDoorUvB
set_option linter.all false

section
/-
  Plain facts: the specification's reader of headers; TapeReadsHeaders.
-/
namespace Go.Mo
open Go Go.W Go.Lib
set_option maxRecDepth 100000
noncomputable section
noncomputable def numM (c : UInt8) (n : Int) (self : Int → Option Int) : Option Int :=
 cnd (ilt (n8 c) (n8 (48 : UInt8)))
     (some (-1 : Int))
     (cnd (ilt (n8 (57 : UInt8)) (n8 c))
      (some (-1 : Int))
      (self (w64 (iadd (w64 (imul (10 : Int) n)) (w64 (n8 (b8 (isub (n8 c) (n8 (48 : UInt8))))))))))
theorem r23_number_fold {l : List UInt8} (hl : l.length ≤ 4000000) : q157 fuelH l = foldI (fun _ c n self => numM c n self) (fun n => some n) 0 l 0 := by
 unfold q157
 rw [jn_e, show ((0 : Int), (0 : Int)) = (fun (n : Int) (p : Nat) => (n, (p : Int))) 0 0 from rfl]
 refine Eq.trans (lst_loop (l := l) (fun (n : Int) (p : Nat) => (n, (p : Int))) (fun _ c n self => numM c n self) (fun n => some n) (fun self a i hi => ?_) (fun self a => ?_) fuelH 0 0 (Nat.zero_le _) (by have := fuelH_eq; omega)) ?_
 ·rw [cnd_t (ilt_t (by simp only [len]; omega)), grd_t (inb_t (by simp only [len]; omega)), lget_i hi, w64_succ hi (by omega)]
  rfl
 ·rw [cnd_f (ilt_f (by simp only [len]; omega))]
 ·rw [List.drop_zero]
theorem numMK : ∀ (l : List UInt8) (i : Nat) (n : Int), (∀ c ∈ l, 48 ≤ n8 c ∧ n8 c ≤ 57) → foldI (fun _ c n self => numM c n self) (fun n => some n) i l n = foldI (fun _ c n self => numK c n self) (fun n => some n) i l n
 | [], _, _, _ => rfl
 | c :: l, i, n, h => by
  have hc := h c (by simp)
  have h1 : ¬ n8 c < n8 48 := by show ¬ n8 c < 48; omega
  have h2 : ¬ n8 57 < n8 c := by show ¬ 57 < n8 c; omega
  rw [foldI, foldI]
  unfold numM numK
  rw [cnd_f (ilt_f h1), cnd_f (ilt_f h2), cnd_f (ilt_f h1), cnd_f (ilt_f h2)]
  exact numMK l (i + 1) _ fun c hc => h c (by simp [hc])
theorem number_same {l : List UInt8} (hl : l.length ≤ 4000000) (h : ∀ c ∈ l, 48 ≤ n8 c ∧ n8 c ≤ 57) : q157 fuelH l = q85 fuelH l := by
 rw [r23_number_fold hl, number_fold hl, numMK l 0 0 h]
theorem dg_rng {v : Int} (h : 0 ≤ v) : 48 ≤ n8 (dg v) ∧ n8 (dg v) ≤ 57 := by
 rw [dg_n8 h]
 omega
theorem dv_pos {v : Int} (h : 0 ≤ v ∧ v ≤ 1000000) : 0 ≤ dv v ∧ dv v ≤ 1000000 := by
 rw [dv_eq h]
 omega
theorem r23_num2 {v : Int} (h : 0 ≤ v ∧ v ≤ 99) : q157 fuelH [dg (dv v), dg v] = some v := by
 have h1 := dv_pos (v := v) (by omega)
 rw [number_same (by simp) ?_, num2 h]
 intro c hc
 simp only [List.mem_cons, List.not_mem_nil, or_false] at hc
 rcases hc with rfl | rfl <;> exact dg_rng (by omega)
theorem r23_num3 {v : Int} (h : 0 ≤ v ∧ v ≤ 999) : q157 fuelH [dg (dv (dv v)), dg (dv v), dg v] = some v := by
 have h1 := dv_pos (v := v) (by omega)
 have h2 := dv_pos h1
 rw [number_same (by simp) ?_, num3 h]
 intro c hc
 simp only [List.mem_cons, List.not_mem_nil, or_false] at hc
 rcases hc with rfl | rfl | rfl <;> exact dg_rng (by omega)
theorem r23_num5 {v : Int} (h : 0 ≤ v ∧ v ≤ 99999) : q157 fuelH [dg (dv (dv (dv (dv v)))), dg (dv (dv (dv v))), dg (dv (dv v)), dg (dv v), dg v] = some v := by
 have h1 := dv_pos (v := v) (by omega)
 have h2 := dv_pos h1
 have h3 := dv_pos h2
 have h4 := dv_pos h3
 rw [number_same (by simp) ?_, num5 h]
 intro c hc
 simp only [List.mem_cons, List.not_mem_nil, or_false] at hc
 rcases hc with rfl | rfl | rfl | rfl | rfl <;> exact dg_rng (by omega)
theorem times_back {l : Lbl} (h : lblOk l) (hd : l.2.2.2.2 = false) : q158 fuelH (clk l) = some l := by
 obtain ⟨⟨a1, a2⟩, ⟨b1, b2⟩, ⟨c1, c2⟩, ⟨d1, d2⟩⟩ := h
 unfold q158
 rw [grd_t (by kernel_rfl)]
 have e1 : ltake (toN (2 : Int)) (clk l) = [dg (dv l.1), dg l.1] := rfl
 have e2 : ldrop (toN (2 : Int)) (ltake (toN (4 : Int)) (clk l)) = [dg (dv l.2.1), dg l.2.1] := rfl
 have e3 : ldrop (toN (4 : Int)) (ltake (toN (6 : Int)) (clk l)) = [dg (dv l.2.2.1), dg l.2.2.1] := rfl
 have e4 : ldrop (toN (6 : Int)) (clk l) = [dg (dv l.2.2.2.1), dg l.2.2.2.1] := rfl
 rw [e1, r23_num2 (by omega), bnd_some', grd_t (by kernel_rfl), e2, r23_num2 (by omega), bnd_some', grd_t (by kernel_rfl), e3, r23_num2 (by omega), bnd_some', grd_t (by kernel_rfl), e4, r23_num2 (by omega), bnd_some', ← hd]
theorem numM_any : ∀ (l : List UInt8) (i : Nat) (n : Int), 0 ≤ n → (n + 1) * 10 ^ l.length ≤ 1000000 → ∃ v, foldI (fun _ c n self => numM c n self) (fun n => some n) i l n = some v ∧ -1 ≤ v ∧ v < 1000000
 | [], i, n, h0, h => ⟨n, rfl, by omega, by simp at h; omega⟩
 | c :: l, i, n, h0, h => by
  have hp : (0 : Int) < 10 ^ l.length := Int.pow_pos (by decide)
  rw [List.length_cons, Int.pow_succ] at h
  have hn : n + 1 ≤ 1000000 := by
   have h1 : (n + 1) * 1 ≤ (n + 1) * (10 ^ l.length * 10) := Int.mul_le_mul_of_nonneg_left (by omega) (by omega)
   omega
  rw [foldI]
  have hc := n8_rng c
  by_cases h1 : n8 c < 48
  ·refine ⟨-1, ?_, by decide, by decide⟩
   unfold numM
   rw [cnd_t (ilt_t (show n8 c < n8 48 from h1))]
  by_cases h2 : 57 < n8 c
  ·refine ⟨-1, ?_, by decide, by decide⟩
   unfold numM
   rw [cnd_f (ilt_f (show ¬ n8 c < n8 48 from h1)), cnd_t (ilt_t (show n8 57 < n8 c from h2))]
  have hstep : ∀ self : Int → Option Int, numM c n self = self (10 * n + (n8 c - 48)) := by
   intro self
   have := num_step (c := c) (d := n8 c - 48) (by omega) (by omega) (n := n) (by omega) self
   unfold numK at this
   unfold numM
   rw [cnd_f (ilt_f (show ¬ n8 c < n8 48 from h1)), cnd_f (ilt_f (show ¬ n8 57 < n8 c from h2))] at this ⊢
   exact this
  rw [hstep]
  refine numM_any l (i + 1) _ (by omega) ?_
  have h3 : (10 * n + (n8 c - 48) + 1) * 10 ^ l.length ≤ ((n + 1) * 10) * 10 ^ l.length := Int.mul_le_mul_of_nonneg_right (by omega) (by omega)
  have h4 : ((n + 1) * 10) * 10 ^ l.length = (n + 1) * (10 ^ l.length * 10) := by rw [Int.mul_assoc, Int.mul_comm 10]
  omega
theorem r23_number_any {l : List UInt8} (h : l.length ≤ 5) : ∃ v, q157 fuelH l = some v ∧ -1 ≤ v ∧ v < 1000000 := by
 rw [r23_number_fold (by omega)]
 refine numM_any l 0 0 (by decide) ?_
 have : (10 : Int) ^ l.length ≤ 10 ^ 5 := by
  have := Nat.pow_le_pow_right (show 0 < 10 by decide) h
  exact_mod_cast this
 omega
theorem times_any {l : List UInt8} (h : l.length = 8) : ∃ x : Lbl, q158 fuelH l = some x := by
 unfold q158
 have q1 : ∀ (a b : Nat), b ≤ a + 2 → (ldrop (toN (a : Int)) (ltake (toN (b : Int)) l)).length ≤ 5 := fun a b hb => by simp only [ldrop, ltake, toN, List.length_drop, List.length_take, Int.toNat_natCast]; omega
 obtain ⟨v1, h1, _⟩ := r23_number_any (l := ltake (toN (2 : Int)) l) (by simp only [ltake, toN, List.length_take]; omega)
 obtain ⟨v2, h2, _⟩ := r23_number_any (q1 2 4 (by decide))
 obtain ⟨v3, h3, _⟩ := r23_number_any (q1 4 6 (by decide))
 obtain ⟨v4, h4, _⟩ := r23_number_any (l := ldrop (toN (6 : Int)) l) (by simp only [ldrop, toN, List.length_drop]; omega)
 have hL : len l = 8 := by simp only [len]; omega
 rw [hL, grd_t (by kernel_rfl), h1, bnd_some', grd_t (by kernel_rfl)]
 refine ⟨(v1, v2, v3, v4, false), ?_⟩
 refine (bnd_s h2).trans ((grd_t (by kernel_rfl)).trans ((bnd_s h3).trans ((grd_t (by kernel_rfl)).trans ((bnd_s h4).trans rfl))))
noncomputable def rgC (x : List UInt8) (v8 : Hdr) : Option (Hdr × Int) :=
      bnd (q179 fuelH v8) fun v9 =>
      cnd (ine v9.2 (0 : Int)) (some (hz, (4 : Int)))
       (bnd (q180 fuelH (x, v9.1)) fun v10 =>
       cnd (bnot v10) (some (hz, (4 : Int))) (some (v8, (0 : Int))))
noncomputable def rgB (x : List UInt8) (v6 : Hdr) (v7 : Int) : Option (Hdr × Int) :=
     grd (in3 (8 : Int) (w64 (iadd (8 : Int) v7)) (len x)) <|
     grd (in3 (24 : Int) (27 : Int) (len x)) <|
     bnd (q157 fuelH (ldrop (toN (24 : Int)) (ltake (toN (27 : Int)) x))) fun v12 =>
     cnd (ile (0 : Int) v12)
      (cnd (ile v12 (960 : Int))
       (grd (in3 (64 : Int) (w64 (iadd (64 : Int) v12)) (len x))
        (bnd (q163 fuelH (ldrop (toN (64 : Int)) (ltake (toN (w64 (iadd (64 : Int) v12))) x))) fun v13 =>
        rgC x (v6.1, ldrop (toN (8 : Int)) (ltake (toN (w64 (iadd (8 : Int) v7))) x), v13.1, v6.2.2.2)))
       (rgC x (v6.1, ldrop (toN (8 : Int)) (ltake (toN (w64 (iadd (8 : Int) v7))) x), v6.2.2)))
      (rgC x (v6.1, ldrop (toN (8 : Int)) (ltake (toN (w64 (iadd (8 : Int) v7))) x), v6.2.2))
noncomputable def rgF (x : List UInt8) (v6 : Hdr) : (Int → Option (Hdr × Int)) → Int → Option (Hdr × Int) := fun v15 (v16 : Int) =>
     cnd (ilt (0 : Int) v16)
      (grd (inb (w64 (isub (w64 (iadd (8 : Int) v16)) (1 : Int))) (len x))
       (cnd (ieq (n8 (lget x (toN (w64 (isub (w64 (iadd (8 : Int) v16)) (1 : Int)))) (0 : UInt8))) (n8 (32 : UInt8)))
        (v15 (w64 (isub v16 (1 : Int))))
        (rgB x v6 v16)))
      (rgB x v6 v16)
noncomputable def rgBj (x : List UInt8) (v6 : Hdr) (v7 : Int) : Option (Hdr × Int) :=
     grd (in3 (8 : Int) (w64 (iadd (8 : Int) v7)) (len x)) <|
     jn (fun (v8 : Hdr) => rgC x v8)
     fun v11 =>
     grd (in3 (24 : Int) (27 : Int) (len x)) <|
     bnd (q157 fuelH (ldrop (toN (24 : Int)) (ltake (toN (27 : Int)) x))) fun v12 =>
     cnd (ile (0 : Int) v12)
      (cnd (ile v12 (960 : Int))
       (grd (in3 (64 : Int) (w64 (iadd (64 : Int) v12)) (len x))
        (bnd (q163 fuelH (ldrop (toN (64 : Int)) (ltake (toN (w64 (iadd (64 : Int) v12))) x))) fun v13 =>
        v11 (v6.1, ldrop (toN (8 : Int)) (ltake (toN (w64 (iadd (8 : Int) v7))) x), v13.1, v6.2.2.2)))
       (v11 (v6.1, ldrop (toN (8 : Int)) (ltake (toN (w64 (iadd (8 : Int) v7))) x), v6.2.2)))
      (v11 (v6.1, ldrop (toN (8 : Int)) (ltake (toN (w64 (iadd (8 : Int) v7))) x), v6.2.2))
theorem rgBj_eq (x : List UInt8) (v6 : Hdr) (v7 : Int) : rgBj x v6 v7 = rgB x v6 v7 := by
 unfold rgBj rgB
 exact congrArg (grd _) jn_e
noncomputable def rgTj (x : List UInt8) (v6 : Hdr) : Option (Hdr × Int) :=
    jn (fun (v7 : Int) => rgBj x v6 v7)
    fun v14 =>
    fixN (fun v15 (v16 : Int) =>
     cnd (ilt (0 : Int) v16)
      (grd (inb (w64 (isub (w64 (iadd (8 : Int) v16)) (1 : Int))) (len x))
       (cnd (ieq (n8 (lget x (toN (w64 (isub (w64 (iadd (8 : Int) v16)) (1 : Int)))) (0 : UInt8))) (n8 (32 : UInt8)))
        (v15 (w64 (isub v16 (1 : Int))))
        (v14 v16)))
      (v14 v16)) fuelH (16 : Int)
theorem rgTj_eq (x : List UInt8) (v6 : Hdr) : rgTj x v6 = fixN (rgF x v6) fuelH (16 : Int) := by
 unfold rgTj
 rw [jn_e]
 refine congrArg (fun F => fixN F fuelH (16 : Int)) ?_
 funext self v
 unfold rgF
 show cnd _ (grd _ (cnd _ _ (rgBj x v6 v))) (rgBj x v6 v) = _
 rw [rgBj_eq]
noncomputable def rgA (x : List UInt8) : Option (Hdr × Int) :=
  grd (in3 (27 : Int) (32 : Int) (len x))
   (bnd (q157 fuelH (ldrop (toN (27 : Int)) (ltake (toN (32 : Int)) x))) fun v0 =>
   grd (in3 (32 : Int) (37 : Int) (len x)) <|
   bnd (q157 fuelH (ldrop (toN (32 : Int)) (ltake (toN (37 : Int)) x))) fun v1 =>
   grd (in3 (37 : Int) (45 : Int) (len x)) <|
   bnd (q158 fuelH (ldrop (toN (37 : Int)) (ltake (toN (45 : Int)) x))) fun v2 =>
   grd (in3 (45 : Int) (53 : Int) (len x)) <|
   bnd (q158 fuelH (ldrop (toN (45 : Int)) (ltake (toN (53 : Int)) x))) fun v3 =>
   grd (in3 (53 : Int) (55 : Int) (len x)) <|
   bnd (q157 fuelH (ldrop (toN (53 : Int)) (ltake (toN (55 : Int)) x))) fun v4 =>
   grd (in3 (55 : Int) (57 : Int) (len x)) <|
   bnd (q157 fuelH (ldrop (toN (55 : Int)) (ltake (toN (57 : Int)) x))) fun v5 =>
   jn (fun (v6 : Hdr) => rgTj x v6)
   fun v17 =>
   grd (inb (3 : Int) (len x)) <|
   cnd (ieq (n8 (lget x (toN (3 : Int)) (0 : UInt8))) (n8 (51 : UInt8)))
    (v17 ((5 : UInt8), ([] : List UInt8), ([] : List UInt8), v0, v1, v2, v3, v4, v5))
    (v17 ((3 : UInt8), ([] : List UInt8), ([] : List UInt8), v0, v1, v2, v3, v4, v5)))
theorem rg_eq (x : List UInt8) : q181 fuelH x = cnd (ine (len x) (1024 : Int)) (some (hz, (4 : Int))) (rgA x) := by kernel_rfl
theorem requal_eq (N : Nat) (x y : List UInt8) : q180 N (x, y) = some (decide (x = y)) := by
 rw [← seq_dec]
 rfl
theorem rgC_any (x : List UInt8) (v8 : Hdr) (h : v8.2.2.1.length ≤ 4000000) : ∃ r, rgC x v8 = some r ∧ Good x r := by
 unfold rgC
 obtain ⟨c, _, _, hp⟩ := put_both h
 rcases hp with ⟨he, _, p1⟩ | ⟨rfl, H, p2, p1⟩
 ·rw [p1, bnd_some', cnd_t (ine_t he)]
  exact ⟨_, rfl, .inl rfl⟩
 ·rw [p1, bnd_some', cnd_f (ine_f rfl), requal_eq, bnd_some', cnd_bnot]
  split
  ·rename_i hx
   exact ⟨_, rfl, .inr ⟨rfl, H, hx, p2, p1⟩⟩
  ·exact ⟨_, rfl, .inl rfl⟩
theorem rgB_any {x : List UInt8} (hl : x.length = 1024) (v6 : Hdr) (hv : v6.2.2.1 = []) {k : Int} (hk : 0 ≤ k ∧ k ≤ 16) : ∃ r, rgB x v6 k = some r ∧ Good x r := by
 have i3 : ∀ l u : Int, 0 ≤ l ∧ l ≤ u ∧ u ≤ 1024 → in3 l u (len x) = true := fun l u q => in3_t (by simp only [len]; omega)
 unfold rgB
 have hw : w64 (iadd (8 : Int) k) = 8 + k := w64_id (by simp only [iadd]; omega)
 obtain ⟨v12, h2, h3, h4⟩ := r23_number_any (l := ldrop (toN (24 : Int)) (ltake (toN (27 : Int)) x)) (by simp only [ldrop, ltake, toN, List.length_drop, List.length_take]; omega)
 rw [hw, grd_t (i3 _ _ (by omega)), grd_t (i3 24 27 (by decide)), h2, bnd_some', cnd_ile, cnd_ile]
 have h0 : v6.2.2.1.length ≤ 4000000 := by rw [hv]; decide
 split
 ·split
  ·have hw2 : w64 (iadd (64 : Int) v12) = 64 + v12 := w64_id (by simp only [iadd]; omega)
   rw [hw2, grd_t (i3 _ _ (by omega))]
   obtain ⟨s, e, h5, h6⟩ := r22_decode_any (x := ldrop (toN (64 : Int)) (ltake (toN (64 + v12)) x)) (by simp only [ldrop, ltake, toN, List.length_drop, List.length_take]; omega)
   rw [h5, bnd_some']
   exact rgC_any x _ h6
  ·exact rgC_any x _ h0
 ·exact rgC_any x _ h0
theorem rgF_any {x : List UInt8} (hl : x.length = 1024) (v6 : Hdr) (hv : v6.2.2.1 = []) : ∀ (fuel k : Nat), k < fuel → k ≤ 16 → ∃ r, fixN (rgF x v6) fuel (k : Int) = some r ∧ Good x r
 | 0, k, h, _ => by omega
 | fuel + 1, k, h, hk => by
  rw [fixN_s]
  unfold rgF
  rw [cnd_ilt]
  split
  ·have hw : w64 (isub (w64 (iadd (8 : Int) (k : Int))) (1 : Int)) = 7 + k := by
    simp only [iadd, isub]
    rw [w64_id (x := 8 + (k : Int)) (by omega), w64_id (by omega)]
    omega
   have hw2 : w64 (isub (k : Int) 1) = ((k - 1 : Nat) : Int) := by
    simp only [isub]
    rw [w64_id (by omega)]
    omega
   rw [hw, grd_t (inb_t (by simp only [len]; omega)), cnd_ieq, hw2]
   split
   ·exact rgF_any hl v6 hv fuel (k - 1) (by omega) (by omega)
   ·exact rgB_any hl v6 hv (by omega)
  ·exact rgB_any hl v6 hv (by omega)
theorem rg_any {x : List UInt8} : ∃ r, q181 fuelH x = some r ∧ Good x r := by
 rw [rg_eq, cnd_ine]
 by_cases hl : x.length = 1024
 case neg => exact ⟨_, if_pos (by simp only [len]; omega), .inl rfl⟩
 rw [if_neg (by simp only [len]; omega)]
 have i3 : ∀ l u : Int, 0 ≤ l ∧ l ≤ u ∧ u ≤ 1024 → in3 l u (len x) = true := fun l u q => in3_t (by simp only [len]; omega)
 have q : ∀ (a b : Nat), b ≤ a + 5 → (ldrop (toN (a : Int)) (ltake (toN (b : Int)) x)).length ≤ 5 := fun a b hb => by simp only [ldrop, ltake, toN, List.length_drop, List.length_take, Int.toNat_natCast]; omega
 have q8 : ∀ (a : Nat), a ≤ 100 → (ldrop (toN (a : Int)) (ltake (toN ((a + 8 : Nat) : Int)) x)).length = 8 := fun a ha => by simp only [ldrop, ltake, toN, List.length_drop, List.length_take, Int.toNat_natCast]; omega
 obtain ⟨v0, h0, _⟩ := r23_number_any (q 27 32 (by decide))
 obtain ⟨v1, h1, _⟩ := r23_number_any (q 32 37 (by decide))
 obtain ⟨v2, h2⟩ := times_any (q8 37 (by decide))
 obtain ⟨v3, h3⟩ := times_any (q8 45 (by decide))
 obtain ⟨v4, h4, _⟩ := r23_number_any (q 53 55 (by decide))
 obtain ⟨v5, h5, _⟩ := r23_number_any (q 55 57 (by decide))
 have e : rgA x = cnd (ieq (n8 (lget x (toN (3 : Int)) (0 : UInt8))) (n8 (51 : UInt8))) (fixN (rgF x ((5 : UInt8), [], [], v0, v1, v2, v3, v4, v5)) fuelH (16 : Int)) (fixN (rgF x ((3 : UInt8), [], [], v0, v1, v2, v3, v4, v5)) fuelH (16 : Int)) := by
  unfold rgA
  exact (grd_t (i3 27 32 (by decide))).trans ((bnd_s h0).trans ((grd_t (i3 32 37 (by decide))).trans ((bnd_s h1).trans ((grd_t (i3 37 45 (by decide))).trans ((bnd_s h2).trans ((grd_t (i3 45 53 (by decide))).trans ((bnd_s h3).trans ((grd_t (i3 53 55 (by decide))).trans ((bnd_s h4).trans ((grd_t (i3 55 57 (by decide))).trans ((bnd_s h5).trans (jn_e.trans ((grd_t (inb_t (by simp only [len]; omega))).trans (by show cnd _ (rgTj x _) (rgTj x _) = _; rw [rgTj_eq, rgTj_eq]))))))))))))))
 rw [e]
 cases ieq (n8 (lget x (toN (3 : Int)) (0 : UInt8))) (n8 (51 : UInt8)) with
 | true => exact rgF_any hl _ rfl fuelH 16 (by decide) (by decide)
 | false => exact rgF_any hl _ rfl fuelH 16 (by decide) (by decide)
theorem pad_get {l : List UInt8} {j n : Nat} (hj : j < n) : (pad l n).getD j 0 = if j < l.length then l.getD j 0 else 32 := by
 unfold pad
 split
 ·rename_i h
  simp [List.getD, List.getElem?_append_left h]
 ·rename_i h
  simp only [List.getD]
  rw [List.getElem?_append_right (by omega), List.getElem?_replicate, if_pos (by omega)]
  rfl
theorem rgF_back {x : List UInt8} {l S R : List UInt8} (hx : x = S ++ pad l 16 ++ R) (hS : S.length = 8) (hl : l.length ≤ 16) (hxl : x.length = 1024) (he : l = [] ∨ ∃ c m, l = m ++ [c] ∧ n8 c ≠ 32) (v6 : Hdr) : ∀ (fuel k : Nat), k < fuel → l.length ≤ k → k ≤ 16 → fixN (rgF x v6) fuel (k : Int) = rgB x v6 (l.length : Int)
 | 0, k, h, _, _ => by omega
 | fuel + 1, k, h, hk, hk2 => by
  rw [fixN_s]
  unfold rgF
  rw [cnd_ilt]
  split
  ·have hw : w64 (isub (w64 (iadd (8 : Int) (k : Int))) (1 : Int)) = ((8 + (k - 1) : Nat) : Int) := by
    simp only [iadd, isub]
    rw [w64_id (x := 8 + (k : Int)) (by omega), w64_id (by omega)]
    omega
   have hw2 : w64 (isub (k : Int) 1) = ((k - 1 : Nat) : Int) := by
    simp only [isub]
    rw [w64_id (by omega)]
    omega
   have hg : lget x (toN ((8 + (k - 1) : Nat) : Int)) 0 = (pad l 16).getD (k - 1) 0 := by
    rw [hx]
    unfold lget toN
    rw [List.append_assoc, Int.toNat_natCast]
    simp only [List.getD]
    rw [List.getElem?_append_right (by omega), List.getElem?_append_left (by rw [pad_len hl]; omega), hS]
    congr 2
    omega
   rw [hw, grd_t (inb_t (by simp only [len]; omega)), hg, pad_get (by omega), cnd_ieq, hw2]
   by_cases hkl : k = l.length
   ·rw [if_pos (show k - 1 < l.length by omega)]
    rcases he with rfl | ⟨c, m, rfl, hc⟩
    ·simp only [List.length_nil] at hkl
     omega
    ·have hge : (m ++ [c]).getD (k - 1) 0 = c := by
      simp only [List.length_append, List.length_singleton] at hkl
      simp only [List.getD]
      rw [show k - 1 = m.length by omega]
      simp
     rw [hge, if_neg (show ¬ n8 c = n8 32 from hc), hkl]
   ·rw [if_neg (show ¬ k - 1 < l.length by omega), if_pos rfl]
    exact rgF_back hx hS hl hxl he v6 fuel (k - 1) (by omega) (by omega) (by omega)
  ·have : k = l.length := by omega
   rw [this]
theorem rg_back {h : Hdr} (hp : q179 fuelH h = some (hby h, 0)) (H : HdrOk h) : q181 fuelH (hby h) = some (h, 0) := by
 have hL := lang_len H
 have hT := latE_len H.ttl
 have hT4 := H.ttlL
 have hs := sig_len h.1
 have hlen := hby_len H
 have i3 : ∀ l u : Int, 0 ≤ l ∧ l ≤ u ∧ u ≤ 1024 → in3 l u (len (hby h)) = true := fun l u q => in3_t (by simp only [len]; omega)
 have i1 : inb (3 : Int) (len (hby h)) = true := inb_t (by simp only [len]; omega)
 have g3 : n8 (lget (hby h) (toN (3 : Int)) 0) = if h.1 = 5 then 51 else 50 := by
  rcases H.rate with hr | hr
  ·unfold hby
   rw [hr]
   kernel_rfl
  ·unfold hby
   rw [hr]
   kernel_rfl
 generalize hx : hby h = x at hlen i3 i1 hp g3
 have hP : (sig h.1 ++ pad h.2.1 16).length = 24 := by rw [List.length_append, hs, pad_len hL]
 have hx' : x = (sig h.1 ++ pad h.2.1 16) ++ pad (hdg h ((latE h.2.2.1).length : Int)) 40 ++ pad (latE h.2.2.1) 960 := hx.symm
 have hx2 : x = sig h.1 ++ pad h.2.1 16 ++ (pad (hdg h ((latE h.2.2.1).length : Int)) 40 ++ pad (latE h.2.2.1) 960) := by rw [hx']; simp only [List.append_assoc]
 generalize hD : pad (hdg h ((latE h.2.2.1).length : Int)) 40 = D at hx' hx2
 have hDl : D.length = 40 := by rw [← hD, pad_len (by rw [hdg_len]; decide)]
 have sl : ∀ a b : Nat, b ≤ 40 → ldrop (24 + a) (ltake (24 + b) x) = ldrop a (ltake b D) := fun a b hb => by rw [hx']; exact slc hP (by omega)
 have s1 : ldrop (toN (27 : Int)) (ltake (toN (32 : Int)) x) = [dg (dv (dv (dv (dv h.2.2.2.1)))), dg (dv (dv (dv h.2.2.2.1))), dg (dv (dv h.2.2.2.1)), dg (dv h.2.2.2.1), dg h.2.2.2.1] := (sl 3 8 (by decide)).trans (by rw [← hD]; kernel_rfl)
 have s2 : ldrop (toN (32 : Int)) (ltake (toN (37 : Int)) x) = [dg (dv (dv (dv (dv h.2.2.2.2.1)))), dg (dv (dv (dv h.2.2.2.2.1))), dg (dv (dv h.2.2.2.2.1)), dg (dv h.2.2.2.2.1), dg h.2.2.2.2.1] := (sl 8 13 (by decide)).trans (by rw [← hD]; kernel_rfl)
 have s3 : ldrop (toN (37 : Int)) (ltake (toN (45 : Int)) x) = clk h.2.2.2.2.2.1 := (sl 13 21 (by decide)).trans (by rw [← hD]; kernel_rfl)
 have s4 : ldrop (toN (45 : Int)) (ltake (toN (53 : Int)) x) = clk h.2.2.2.2.2.2.1 := (sl 21 29 (by decide)).trans (by rw [← hD]; kernel_rfl)
 have s5 : ldrop (toN (53 : Int)) (ltake (toN (55 : Int)) x) = [dg (dv h.2.2.2.2.2.2.2.1), dg h.2.2.2.2.2.2.2.1] := (sl 29 31 (by decide)).trans (by rw [← hD]; kernel_rfl)
 have s6 : ldrop (toN (55 : Int)) (ltake (toN (57 : Int)) x) = [dg (dv h.2.2.2.2.2.2.2.2), dg h.2.2.2.2.2.2.2.2] := (sl 31 33 (by decide)).trans (by rw [← hD]; kernel_rfl)
 have s7 : ldrop (toN (24 : Int)) (ltake (toN (27 : Int)) x) = [dg (dv (dv ((latE h.2.2.1).length : Int))), dg (dv ((latE h.2.2.1).length : Int)), dg ((latE h.2.2.1).length : Int)] := (sl 0 3 (by decide)).trans (by rw [← hD]; kernel_rfl)
 have s8 : ldrop (toN (8 : Int)) (ltake (toN (8 + (h.2.1.length : Int))) x) = h.2.1 := by
  have e : x = sig h.1 ++ h.2.1 ++ (List.replicate (16 - h.2.1.length) 32 ++ (D ++ pad (latE h.2.2.1) 960)) := by rw [hx2]; unfold pad; simp only [List.append_assoc]
  rw [e, show toN (8 + (h.2.1.length : Int)) = 8 + h.2.1.length from by simp only [toN]; omega]
  refine (slc (P := sig h.1) (k := 8) (a := 0) (b := h.2.1.length) hs (Nat.le_refl _)).trans ?_
  show h.2.1.take _ = _
  rw [List.take_length]
 have hn : w64 (iadd (64 : Int) ((latE h.2.2.1).length : Int)) = ((64 + (latE h.2.2.1).length : Nat) : Int) := by
  simp only [iadd]
  rw [w64_id (by omega)]
  omega
 have s10 : ldrop (toN (64 : Int)) (ltake (toN ((64 + (latE h.2.2.1).length : Nat) : Int)) x) = latE h.2.2.1 := by
  have hPD : (sig h.1 ++ pad h.2.1 16 ++ D).length = 64 := by rw [List.length_append, hP, hDl]
  have e : x = (sig h.1 ++ pad h.2.1 16 ++ D) ++ latE h.2.2.1 ++ List.replicate (960 - (latE h.2.2.1).length) 32 := by rw [hx', List.append_assoc _ (latE h.2.2.1)]; rfl
  rw [e]
  refine (slc (P := sig h.1 ++ pad h.2.1 16 ++ D) (k := 64) (a := 0) (b := (latE h.2.2.1).length) hPD (Nat.le_refl _)).trans ?_
  show (latE h.2.2.1).take _ = _
  rw [List.take_length]
 have e0 : ∀ r : UInt8, r = h.1 → fixN (rgF x (r, [], [], h.2.2.2.1, h.2.2.2.2.1, h.2.2.2.2.2.1, h.2.2.2.2.2.2.1, h.2.2.2.2.2.2.2.1, h.2.2.2.2.2.2.2.2)) fuelH (16 : Int) = some (h, 0) := by
  rintro r rfl
  refine (rgF_back hx2 hs hL hlen (name_end H.lang) _ fuelH 16 (by decide) hL (Nat.le_refl _)).trans ?_
  unfold rgB
  have hw : w64 (iadd (8 : Int) (h.2.1.length : Int)) = 8 + (h.2.1.length : Int) := w64_id (by simp only [iadd]; omega)
  rw [hw, grd_t (i3 _ _ (by omega)), grd_t (i3 24 27 (by decide)), s7, r23_num3 (by omega), bnd_some', cnd_t (ile_t (by omega)), cnd_t (ile_t (by omega)), hn, grd_t (i3 _ _ (by omega)), s10, r22_decode_back (by omega) H.ttl, bnd_some', s8]
  unfold rgC
  rw [hp, bnd_some', cnd_f (ine_f rfl), requal_eq, decide_eq_true rfl]
  rfl
 rw [rg_eq, cnd_f (ine_f (by simp only [len]; omega))]
 unfold rgA
 rw [grd_t (i3 27 32 (by decide)), s1, r23_num5 H.blocks, bnd_some', grd_t (i3 32 37 (by decide)), s2, r23_num5 H.groups, bnd_some', grd_t (i3 37 45 (by decide)), s3, times_back H.start H.d1, bnd_some', grd_t (i3 45 53 (by decide)), s4, times_back H.first H.d2, bnd_some', grd_t (i3 53 55 (by decide)), s5, r23_num2 H.rows, bnd_some', grd_t (i3 55 57 (by decide)), s6, r23_num2 H.cols, bnd_some', jn_e, grd_t i1, g3]
 rcases H.rate with hr | hr
 ·rw [cnd_f (by rw [hr]; rfl)]
  exact (rgTj_eq x _).trans (e0 3 hr.symm)
 ·rw [cnd_t (by rw [hr]; rfl)]
  exact (rgTj_eq x _).trans (e0 5 hr.symm)
theorem readers_same (x : List UInt8) : ∃ r, q115 fuelH x = some r ∧ q181 fuelH x = some r ∧ Good x r := by
 obtain ⟨a, h1, h2⟩ := gh_any (x := x)
 obtain ⟨b, h3, h4⟩ := rg_any (x := x)
 rcases h2 with rfl | ⟨h5, h6, h7, h8, h9⟩
 ·rcases h4 with rfl | ⟨k5, k6, k7, k8, k9⟩
  ·exact ⟨_, h1, h3, .inl rfl⟩
  ·have := get_back k8 k6
   rw [← k7, h1] at this
   injection this with this
   have := congrArg Prod.snd this
   cases this
 ·have := rg_back h9 h6
  rw [← h7] at this
  obtain ⟨a1, a2⟩ := a
  simp only at h5
  subst h5
  exact ⟨_, h1, this, .inr ⟨rfl, h6, h7, h8, h9⟩⟩
end
end Go.Mo
end

section
/-
  Plain facts: the check and the bytes of a block, by the layer and by the specification.
-/
namespace Go.Mo
open Go Go.W Go.Lib
set_option maxRecDepth 100000
noncomputable section
abbrev Blk := Int × Int × UInt8 × UInt8 × Lbl × Lbl × Int × UInt8 × Bool × List UInt8
noncomputable def lblIn (l : Lbl) : Prop := (0 ≤ l.1 ∧ l.1 ≤ 23) ∧ (0 ≤ l.2.1 ∧ l.2.1 ≤ 59) ∧ (0 ≤ l.2.2.1 ∧ l.2.2.1 ≤ 59) ∧ (0 ≤ l.2.2.2.1 ∧ l.2.2.2.1 ≤ 29)
instance (l : Lbl) : Decidable (lblIn l) := by unfold lblIn; infer_instance
theorem timed_eq (N : Nat) (l : Lbl) : q123 N l = some (if lblIn l then 0 else 2) := by
 by_cases h : lblIn l
 ·rw [if_pos h]
  obtain ⟨⟨a1, a2⟩, ⟨b1, b2⟩, ⟨c1, c2⟩, ⟨d1, d2⟩⟩ := h
  unfold q123
  rw [cnd_f (ilt_f (by omega)), cnd_f (ilt_f (by omega)), cnd_f (ilt_f (by omega)), cnd_f (ilt_f (by omega)), cnd_f (ilt_f (by omega)), cnd_f (ilt_f (by omega)), cnd_f (ilt_f (by omega)), cnd_f (ilt_f (by omega))]
 ·rw [if_neg h]
  unfold q123
  simp only [cnd_ilt]
  repeat' split
  all_goals first | rfl | (exfalso; apply h; unfold lblIn; omega)
theorem clockB_eq (N : Nat) (l : Lbl) : q183 N l = some (decide (lblIn l)) := by
 unfold q183
 rw [within_eq, bnd_some', cnd_dec]
 by_cases h1 : 0 ≤ l.1 ∧ l.1 ≤ 23
 case neg => rw [if_neg h1, decide_eq_false (fun h => h1 h.1)]
 rw [if_pos h1, within_eq, bnd_some', cnd_dec]
 by_cases h2 : 0 ≤ l.2.1 ∧ l.2.1 ≤ 59
 case neg => rw [if_neg h2, decide_eq_false (fun h => h2 h.2.1)]
 rw [if_pos h2, within_eq, bnd_some', cnd_dec]
 by_cases h3 : 0 ≤ l.2.2.1 ∧ l.2.2.1 ≤ 59
 case neg => rw [if_neg h3, decide_eq_false (fun h => h3 h.2.2.1)]
 rw [if_pos h3, within_eq, bnd_some']
 congr 1
 rw [decide_eq_decide]
 exact ⟨fun h => ⟨h1, h2, h3, h⟩, fun h => h.2.2.2⟩
structure BlkOk (b : Blk) : Prop where
 grp : 0 ≤ b.1 ∧ b.1 ≤ 255
 num : 0 ≤ b.2.1 ∧ b.2.1 ≤ 65535
 ain : lblIn b.2.2.2.2.1
 aout : lblIn b.2.2.2.2.2.1
 d1 : b.2.2.2.2.1.2.2.2.2 = false
 d2 : b.2.2.2.2.2.1.2.2.2.2 = false
 row : 0 ≤ b.2.2.2.2.2.2.1 ∧ b.2.2.2.2.2.2.1 ≤ 14
 txt : b.2.2.2.2.2.2.2.2.2.length ≤ 112
 fil : (143 : UInt8) ∉ b.2.2.2.2.2.2.2.2.2
 al : 1 ≤ n8 b.2.2.2.2.2.2.2.1 ∧ n8 b.2.2.2.2.2.2.2.1 ≤ 3
theorem index_ge (l : List UInt8) (c : UInt8) : 0 ≤ indexByte l c ↔ c ∈ l := by
 induction l with
 | nil => simp [indexByte]
 | cons b l ih =>
  unfold indexByte
  have := indexByte_ge l c
  by_cases h : b = c
  ·simp [h]
  ·have hb : (b == c) = false := by simpa using h
   rw [hb]
   simp only [Bool.false_eq_true, if_false, List.mem_cons]
   have hne : ¬ c = b := fun e => h e.symm
   simp only [hne, false_or, ← ih]
   by_cases h1 : indexByte l c = -1
   ·simp [h1]
   ·have h2 : (indexByte l c == -1) = false := by simpa using h1
    rw [h2]
    simp only [Bool.false_eq_true, if_false]
    omega
theorem indexB_eq (N : Nat) (l : List UInt8) (c : UInt8) : q117 N (l, c) = some (indexByte l c) := by kernel_rfl
theorem filled_eq {l : List UInt8} (h : l.length ≤ 4000000) : q184 fuelH l = some (decide ((143 : UInt8) ∈ l)) := by
 unfold q184
 rw [jn_e]
 refine Eq.trans (lst_loop (l := l) (fun (_ : Unit) (p : Nat) => (p : Int)) (fun _ c (_ : Unit) self => cnd (ieq (n8 c) (n8 (143 : UInt8))) (some true) (self ())) (fun _ => some false) (fun self a i hi => ?_) (fun self a => ?_) fuelH 0 () (Nat.zero_le _) (by have := fuelH_eq; omega)) ?_
 ·rw [cnd_t (ilt_t (by simp only [len]; omega)), grd_t (inb_t (by simp only [len]; omega)), lget_i hi, w64_succ hi (by omega)]
 ·rw [cnd_f (ilt_f (by simp only [len]; omega))]
 ·rw [List.drop_zero]
  have : ∀ (l : List UInt8) (i : Nat), foldI (fun _ c (_ : Unit) self => cnd (ieq (n8 c) (n8 (143 : UInt8))) (some true) (self ())) (fun _ => some false) i l () = some (decide ((143 : UInt8) ∈ l)) := by
   intro l
   induction l with
   | nil => intro i; rfl
   | cons c l ih =>
    intro i
    rw [foldI]
    by_cases hc : c = 143
    ·rw [cnd_t (ieq_t (by rw [hc]))]
     simp [hc]
    ·rw [cnd_f (ieq_f fun e => hc (n8_inj e))]
     show foldI _ _ _ l () = _
     rw [ih (i + 1)]
     congr 1
     have hne : ¬ 143 = c := fun e => hc e.symm
     simp [hne]
  exact this l 0
noncomputable def tcB (x : Blk) (v0 : Bool) : Option Int :=
      cnd v0
       (some (3 : Int))
       (bnd (q123 fuelH x.2.2.2.2.1) fun v1 =>
       cnd (ine v1 (0 : Int))
        (some (2 : Int))
        (bnd (q123 fuelH x.2.2.2.2.2.1) fun v2 =>
        cnd (ine v2 (0 : Int))
         (some (2 : Int))
         (cnd x.2.2.2.2.1.2.2.2.2
          (some (13 : Int))
          (cnd x.2.2.2.2.2.1.2.2.2.2
           (some (13 : Int))
           (cnd (ilt x.2.2.2.2.2.2.1 (0 : Int))
            (some (2 : Int))
            (cnd (ile (15 : Int) x.2.2.2.2.2.2.1)
             (some (2 : Int))
             (cnd (ilt (n8 x.2.2.2.2.2.2.2.1) (n8 (1 : UInt8)))
              (some (3 : Int))
              (cnd (ilt (n8 (3 : UInt8)) (n8 x.2.2.2.2.2.2.2.1))
               (some (3 : Int))
               (cnd (ilt (112 : Int) (len x.2.2.2.2.2.2.2.2.2))
                (some (9 : Int))
                (bnd (q117 fuelH (x.2.2.2.2.2.2.2.2.2, (143 : UInt8))) fun v3 =>
                cnd (ile (0 : Int) v3)
                 (some (4 : Int))
                 (some (0 : Int))))))))))))
noncomputable def tcA (x : Blk) : Option Int :=
     cnd (ile (n8 (240 : UInt8)) (n8 x.2.2.1))
      (cnd (ilt (n8 x.2.2.1) (n8 (255 : UInt8)))
       (tcB x true)
       (tcB x (ilt (n8 (3 : UInt8)) (n8 x.2.2.2.1))))
      (tcB x (ilt (n8 (3 : UInt8)) (n8 x.2.2.2.1)))
theorem tc_eq (x : Blk) : q124 fuelH x = cnd (ilt x.1 (0 : Int)) (some (2 : Int)) (cnd (ilt (255 : Int) x.1) (some (2 : Int)) (cnd (ilt x.2.1 (0 : Int)) (some (2 : Int)) (cnd (ilt (65535 : Int) x.2.1) (some (2 : Int)) (tcA x)))) := by kernel_rfl
noncomputable def rcB (x : Blk) (v2 : Bool) : Option Int :=
    cnd v2
     (some (3 : Int))
     (bnd (q183 fuelH x.2.2.2.2.1) fun v3 =>
     cnd (bnot v3)
      (some (2 : Int))
      (bnd (q183 fuelH x.2.2.2.2.2.1) fun v4 =>
      cnd (bnot v4)
       (some (2 : Int))
       (cnd x.2.2.2.2.1.2.2.2.2
        (some (13 : Int))
        (cnd x.2.2.2.2.2.1.2.2.2.2
         (some (13 : Int))
         (bnd (q166 fuelH (x.2.2.2.2.2.2.1, (0 : Int), (14 : Int))) fun v5 =>
         cnd (bnot v5)
          (some (2 : Int))
          (cnd (ilt (n8 x.2.2.2.2.2.2.2.1) (n8 (1 : UInt8)))
           (some (3 : Int))
           (cnd (ilt (n8 (3 : UInt8)) (n8 x.2.2.2.2.2.2.2.1))
            (some (3 : Int))
            (cnd (ilt (112 : Int) (len x.2.2.2.2.2.2.2.2.2))
             (some (9 : Int))
             (bnd (q184 fuelH x.2.2.2.2.2.2.2.2.2) fun v6 =>
             cnd v6
              (some (4 : Int))
              (some (0 : Int)))))))))))
noncomputable def rcA (x : Blk) : Option Int :=
   cnd (ile (n8 (240 : UInt8)) (n8 x.2.2.1))
    (cnd (ile (n8 x.2.2.1) (n8 (254 : UInt8)))
     (rcB x true)
     (rcB x (ilt (n8 (3 : UInt8)) (n8 x.2.2.2.1))))
    (rcB x (ilt (n8 (3 : UInt8)) (n8 x.2.2.2.1)))
theorem rc_eq (x : Blk) : q185 fuelH x = bnd (q166 fuelH (x.1, (0 : Int), (255 : Int))) fun v0 => cnd (bnot v0) (some (2 : Int)) (bnd (q166 fuelH (x.2.1, (0 : Int), (65535 : Int))) fun v1 => cnd (bnot v1) (some (2 : Int)) (rcA x)) := by kernel_rfl
theorem bcheck_ok (b : Blk) : ∃ e, q124 fuelH b = some e ∧ q185 fuelH b = some e ∧ (e = 0 → BlkOk b) := by
 rw [tc_eq, rc_eq, within_eq, bnd_some', cnd_bnot, within_eq, bnd_some', cnd_bnot]
 by_cases q1 : 0 ≤ b.1 ∧ b.1 ≤ 255
 case neg =>
  refine ⟨2, ?_, if_neg q1, fun h => absurd h (by decide)⟩
  rw [cnd_ilt, cnd_ilt]
  by_cases h : b.1 < 0
  ·rw [if_pos h]
  ·rw [if_neg h, if_pos (by omega)]
 rw [if_pos q1, cnd_f (ilt_f (by omega)), cnd_f (ilt_f (by omega))]
 by_cases q2 : 0 ≤ b.2.1 ∧ b.2.1 ≤ 65535
 case neg =>
  refine ⟨2, ?_, if_neg q2, fun h => absurd h (by decide)⟩
  rw [cnd_ilt, cnd_ilt]
  by_cases h : b.2.1 < 0
  ·rw [if_pos h]
  ·rw [if_neg h, if_pos (by omega)]
 rw [if_pos q2, cnd_f (ilt_f (by omega)), cnd_f (ilt_f (by omega))]
 have hx : ∃ v : Bool, tcA b = tcB b v ∧ rcA b = rcB b v := by
  unfold tcA rcA
  have e240 : n8 (240 : UInt8) = 240 := rfl
  have e255 : n8 (255 : UInt8) = 255 := rfl
  have e254 : n8 (254 : UInt8) = 254 := rfl
  rw [e240, e255, e254, cnd_ile, cnd_ilt, cnd_ile, cnd_ile]
  by_cases h1 : 240 ≤ n8 b.2.2.1
  ·rw [if_pos h1, if_pos h1]
   by_cases h2 : n8 b.2.2.1 < 255
   ·rw [if_pos h2, if_pos (by omega)]
    exact ⟨_, rfl, rfl⟩
   ·rw [if_neg h2, if_neg (by omega)]
    exact ⟨_, rfl, rfl⟩
  ·rw [if_neg h1, if_neg h1]
   exact ⟨_, rfl, rfl⟩
 obtain ⟨v, e1, e2⟩ := hx
 rw [e1, e2]
 unfold tcB rcB
 cases v with
 | true => exact ⟨3, rfl, rfl, fun h => absurd h (by decide)⟩
 | false =>
  rw [cnd_f rfl, cnd_f rfl, timed_eq, bnd_some', clockB_eq, bnd_some', cnd_bnot, cnd_ine]
  by_cases q3 : lblIn b.2.2.2.2.1
  case neg =>
   rw [if_neg q3, if_neg q3]
   exact ⟨2, rfl, rfl, fun h => absurd h (by decide)⟩
  rw [if_pos q3, if_pos q3, if_neg (by simp), timed_eq, bnd_some', clockB_eq, bnd_some', cnd_bnot, cnd_ine]
  by_cases q4 : lblIn b.2.2.2.2.2.1
  case neg =>
   rw [if_neg q4, if_neg q4]
   exact ⟨2, rfl, rfl, fun h => absurd h (by decide)⟩
  rw [if_pos q4, if_pos q4, if_neg (by simp)]
  cases d1 : b.2.2.2.2.1.2.2.2.2 with
  | true => exact ⟨13, rfl, rfl, fun h => absurd h (by decide)⟩
  | false =>
   rw [cnd_f rfl, cnd_f rfl]
   cases d2 : b.2.2.2.2.2.1.2.2.2.2 with
   | true => exact ⟨13, rfl, rfl, fun h => absurd h (by decide)⟩
   | false =>
    rw [cnd_f rfl, cnd_f rfl, within_eq, bnd_some', cnd_bnot]
    by_cases q5 : 0 ≤ b.2.2.2.2.2.2.1 ∧ b.2.2.2.2.2.2.1 ≤ 14
    case neg =>
     refine ⟨2, ?_, if_neg q5, fun h => absurd h (by decide)⟩
     rw [cnd_ilt, cnd_ile]
     by_cases h : b.2.2.2.2.2.2.1 < 0
     ·rw [if_pos h]
     ·rw [if_neg h, if_pos (by omega)]
    rw [if_pos q5, cnd_f (ilt_f (by omega)), cnd_f (ile_f (by omega))]
    by_cases q6 : n8 b.2.2.2.2.2.2.2.1 < n8 (1 : UInt8)
    ·exact ⟨3, cnd_t (ilt_t q6), cnd_t (ilt_t q6), fun h => absurd h (by decide)⟩
    rw [cnd_f (ilt_f q6), cnd_f (ilt_f q6)]
    by_cases q7 : n8 (3 : UInt8) < n8 b.2.2.2.2.2.2.2.1
    ·exact ⟨3, cnd_t (ilt_t q7), cnd_t (ilt_t q7), fun h => absurd h (by decide)⟩
    rw [cnd_f (ilt_f q7), cnd_f (ilt_f q7)]
    by_cases q8 : (112 : Int) < len b.2.2.2.2.2.2.2.2.2
    ·exact ⟨9, cnd_t (ilt_t q8), cnd_t (ilt_t q8), fun h => absurd h (by decide)⟩
    have q8' : b.2.2.2.2.2.2.2.2.2.length ≤ 112 := by simp only [len] at q8; omega
    rw [cnd_f (ilt_f q8), cnd_f (ilt_f q8), indexB_eq, bnd_some', filled_eq (by omega), bnd_some', cnd_ile, cnd_dec]
    by_cases q9 : (143 : UInt8) ∈ b.2.2.2.2.2.2.2.2.2
    ·rw [if_pos ((index_ge _ _).2 q9), if_pos q9]
     exact ⟨4, rfl, rfl, fun h => absurd h (by decide)⟩
    ·rw [if_neg (fun h => q9 ((index_ge _ _).1 h)), if_neg q9]
     have e1 : n8 (1 : UInt8) = 1 := rfl
     have e3 : n8 (3 : UInt8) = 3 := rfl
     exact ⟨0, rfl, rfl, fun _ => ⟨q1, q2, q3, q4, d1, d2, q5, q8', q9, by omega⟩⟩
noncomputable def bhd (b : Blk) : List UInt8 := [b8 b.1, b8 b.2.1, b8 (b.2.1 / 256), b.2.2.1, b.2.2.2.1, b8 b.2.2.2.2.1.1, b8 b.2.2.2.2.1.2.1, b8 b.2.2.2.2.1.2.2.1, b8 b.2.2.2.2.1.2.2.2.1, b8 b.2.2.2.2.2.1.1, b8 b.2.2.2.2.2.1.2.1, b8 b.2.2.2.2.2.1.2.2.1, b8 b.2.2.2.2.2.1.2.2.2.1, b8 b.2.2.2.2.2.2.1, b.2.2.2.2.2.2.2.1, bif b.2.2.2.2.2.2.2.2.1 then 1 else 0]
noncomputable def bby (b : Blk) : List UInt8 := bhd b ++ (b.2.2.2.2.2.2.2.2.2 ++ List.replicate (112 - b.2.2.2.2.2.2.2.2.2.length) 143)
theorem bby_len {b : Blk} (h : BlkOk b) : (bby b).length = 128 := by
 have := h.txt
 unfold bby
 rw [List.length_append, List.length_append, List.length_replicate, show (bhd b).length = 16 from rfl]
 omega
noncomputable def tpK (x : Blk) (v1 : UInt8) : Option (List UInt8 × Int) :=
 grd (room (iadd (len ([b8 x.1, b8 x.2.1, b8 (shrk .i64 x.2.1 (8 : Int)), x.2.2.1, x.2.2.2.1, b8 x.2.2.2.2.1.1, b8 x.2.2.2.2.1.2.1, b8 x.2.2.2.2.1.2.2.1, b8 x.2.2.2.2.1.2.2.2.1, b8 x.2.2.2.2.2.1.1, b8 x.2.2.2.2.2.1.2.1, b8 x.2.2.2.2.2.1.2.2.1, b8 x.2.2.2.2.2.1.2.2.2.1, b8 x.2.2.2.2.2.2.1, x.2.2.2.2.2.2.2.1, v1] : List UInt8)) (len x.2.2.2.2.2.2.2.2.2)) 1)
  (let h : List UInt8 := lapp [b8 x.1, b8 x.2.1, b8 (shrk .i64 x.2.1 (8 : Int)), x.2.2.1, x.2.2.2.1, b8 x.2.2.2.2.1.1, b8 x.2.2.2.2.1.2.1, b8 x.2.2.2.2.1.2.2.1, b8 x.2.2.2.2.1.2.2.2.1, b8 x.2.2.2.2.2.1.1, b8 x.2.2.2.2.2.1.2.1, b8 x.2.2.2.2.2.1.2.2.1, b8 x.2.2.2.2.2.1.2.2.2.1, b8 x.2.2.2.2.2.2.1, x.2.2.2.2.2.2.2.1, v1] x.2.2.2.2.2.2.2.2.2
  bnd (q110 fuelH (([143] : List UInt8), w64 (isub (128 : Int) (len h)))) fun v2 =>
  grd (room (iadd (len h) (len v2)) 1) (some (lapp h v2, (0 : Int))))
theorem tp_eq (x : Blk) : tape_Put fuelH x = bnd (q124 fuelH x) fun v0 => cnd (ine v0 (0 : Int)) (some (([] : List UInt8), v0)) (cnd x.2.2.2.2.2.2.2.2.1 (tpK x 1) (tpK x 0)) := by kernel_rfl
noncomputable def rpK (x : Blk) (v1 : UInt8) : Option (List UInt8 × Int) :=
  let h0 : List UInt8 := lapp [b8 x.1, b8 (imod x.2.1 (256 : Int)), b8 (w64 (idiv x.2.1 (256 : Int))), x.2.2.1, x.2.2.2.1] [b8 x.2.2.2.2.1.1, b8 x.2.2.2.2.1.2.1, b8 x.2.2.2.2.1.2.2.1, b8 x.2.2.2.2.1.2.2.2.1, b8 x.2.2.2.2.2.1.1, b8 x.2.2.2.2.2.1.2.1, b8 x.2.2.2.2.2.1.2.2.1, b8 x.2.2.2.2.2.1.2.2.2.1]
  let h1 : List UInt8 := [b8 x.2.2.2.2.2.2.1, x.2.2.2.2.2.2.2.1, v1]
  grd (room (iadd (len h0) (len h1)) 1)
  (bnd (r23_fill fuelH (x.2.2.2.2.2.2.2.2.2, (112 : Int), (143 : UInt8))) fun v2 =>
  grd (room (iadd (len (lapp h0 h1)) (len v2)) 1) (some (lapp (lapp h0 h1) v2, (0 : Int))))
theorem rp_eq (x : Blk) : r23_Put fuelH x = bnd (q185 fuelH x) fun v0 => cnd (ine v0 (0 : Int)) (some (([] : List UInt8), v0)) (cnd x.2.2.2.2.2.2.2.2.1 (rpK x 1) (rpK x 0)) := by kernel_rfl
theorem fillc_eq {l : List UInt8} {n : Nat} (c : UInt8) (hn : n ≤ 1100) (hl : l.length ≤ n) : r23_fill fuelH (l, (n : Int), c) = some (l ++ List.replicate (n - l.length) c) := by
 unfold r23_fill
 rw [jn_e, grd_t (room_t (by simp [iadd, len]; omega))]
 have : ∀ (fuel : Nat) (m : List UInt8), n - m.length < fuel → m.length ≤ n → fixN (fun v2 (v3 : List UInt8) =>
  cnd (ilt (len v3) (n : Int))
   (grd (room (iadd (len v3) (len ([c] : List UInt8))) 1)
    (v2 (lapp v3 ([c] : List UInt8))))
   (some v3)) fuel m = some (m ++ List.replicate (n - m.length) c) := by
  intro fuel
  induction fuel with
  | zero => intro m h; omega
  | succ fuel ih =>
   intro m h h2
   rw [fixN_s]
   by_cases hm : m.length < n
   ·rw [cnd_t (ilt_t (by simp only [len]; omega)), grd_t (room_t (by simp [iadd, len]; omega)), ih _ (by simp [lapp]; omega) (by simp [lapp]; omega)]
    congr 1
    unfold lapp
    obtain ⟨k, hk⟩ : ∃ k, n - m.length = k + 1 := ⟨n - m.length - 1, by omega⟩
    rw [hk, List.replicate_succ, List.length_append, List.append_assoc]
    simp only [List.length_singleton, show n - (m.length + 1) = k by omega]
    rfl
   ·rw [cnd_f (ilt_f (by simp only [len]; omega))]
    rw [show n - m.length = 0 by omega]
    simp
 have := this fuelH (lapp [] l) (by have := fuelH_eq; simp [lapp]; omega) (by simp [lapp]; omega)
 simpa [lapp] using this
theorem rep0_eq (N : Nat) (b : UInt8) : q110 N ([b], (0 : Int)) = some [] := by
 unfold q110
 rw [cnd_t (ieq_t rfl)]
theorem repeat_le {n : Nat} (hn : n ≤ 1024) (b : UInt8) : q110 fuelH ([b], (n : Int)) = some (List.replicate n b) := by
 by_cases h : n = 0
 ·subst h
  exact rep0_eq _ _
 ·exact repeat_eq (by decide) b (by omega) hn
noncomputable def bhv (b : Blk) (v : UInt8) : List UInt8 := [b8 b.1, b8 b.2.1, b8 (b.2.1 / 256), b.2.2.1, b.2.2.2.1, b8 b.2.2.2.2.1.1, b8 b.2.2.2.2.1.2.1, b8 b.2.2.2.2.1.2.2.1, b8 b.2.2.2.2.1.2.2.2.1, b8 b.2.2.2.2.2.1.1, b8 b.2.2.2.2.2.1.2.1, b8 b.2.2.2.2.2.1.2.2.1, b8 b.2.2.2.2.2.1.2.2.2.1, b8 b.2.2.2.2.2.2.1, b.2.2.2.2.2.2.2.1, v]
theorem tpK_eq {b : Blk} (h : BlkOk b) (v : UInt8) : tpK b v = some (bhv b v ++ (b.2.2.2.2.2.2.2.2.2 ++ List.replicate (112 - b.2.2.2.2.2.2.2.2.2.length) 143), 0) := by
 have ht := h.txt
 have hs : shrk .i64 b.2.1 (8 : Int) = b.2.1 / 256 := by
  show b.2.1.fdiv 256 = _
  exact Int.fdiv_eq_ediv_of_nonneg _ (by decide)
 unfold tpK
 rw [hs]
 have hb : ([b8 b.1, b8 b.2.1, b8 (b.2.1 / 256), b.2.2.1, b.2.2.2.1, b8 b.2.2.2.2.1.1, b8 b.2.2.2.2.1.2.1, b8 b.2.2.2.2.1.2.2.1, b8 b.2.2.2.2.1.2.2.2.1, b8 b.2.2.2.2.2.1.1, b8 b.2.2.2.2.2.1.2.1, b8 b.2.2.2.2.2.1.2.2.1, b8 b.2.2.2.2.2.1.2.2.2.1, b8 b.2.2.2.2.2.2.1, b.2.2.2.2.2.2.2.1, v] : List UInt8) = bhv b v := rfl
 rw [hb]
 have hl : (bhv b v).length = 16 := rfl
 generalize bhv b v = H at hl
 generalize b.2.2.2.2.2.2.2.2.2 = t at ht
 simp only
 have e1 : w64 (isub (128 : Int) (len (lapp H t))) = ((112 - t.length : Nat) : Int) := by
  simp only [isub, len, lapp, List.length_append, hl]
  rw [w64_id (by omega)]
  omega
 rw [grd_t (room_t (by simp only [iadd, len, hl]; omega)), e1, repeat_le (by omega), bnd_some', grd_t (room_t (by simp only [iadd, len, lapp, List.length_append, List.length_replicate, hl]; omega))]
 unfold lapp
 rw [List.append_assoc]
theorem rpK_eq {b : Blk} (h : BlkOk b) (v : UInt8) : rpK b v = some (bhv b v ++ (b.2.2.2.2.2.2.2.2.2 ++ List.replicate (112 - b.2.2.2.2.2.2.2.2.2.length) 143), 0) := by
 have ht := h.txt
 have hn := h.num
 have e1 : b8 (imod b.2.1 (256 : Int)) = b8 b.2.1 := by
  unfold b8 imod
  rw [Int.tmod_eq_emod_of_nonneg hn.1]
  congr 2
  omega
 have e2 : b8 (w64 (idiv b.2.1 (256 : Int))) = b8 (b.2.1 / 256) := by
  unfold idiv
  rw [Int.tdiv_eq_ediv_of_nonneg hn.1, w64_id (by omega)]
 unfold rpK
 rw [e1, e2]
 have f1 : r23_fill fuelH (b.2.2.2.2.2.2.2.2.2, (112 : Int), (143 : UInt8)) = some (b.2.2.2.2.2.2.2.2.2 ++ List.replicate (112 - b.2.2.2.2.2.2.2.2.2.length) 143) := fillc_eq (n := 112) 143 (by decide) ht
 simp only
 rw [f1, bnd_some', grd_t (by kernel_rfl), grd_t (room_t (by
  simp only [iadd, len, lapp, List.length_append, List.length_replicate, List.length_cons, List.length_nil]
  omega))]
 rfl
theorem bhd_v (b : Blk) : bhd b = bhv b (bif b.2.2.2.2.2.2.2.2.1 then 1 else 0) := rfl
theorem bput_both (b : Blk) : ∃ e, q124 fuelH b = some e ∧ q185 fuelH b = some e ∧ ((e ≠ 0 ∧ tape_Put fuelH b = some ([], e) ∧ r23_Put fuelH b = some ([], e)) ∨ (e = 0 ∧ BlkOk b ∧ tape_Put fuelH b = some (bby b, 0) ∧ r23_Put fuelH b = some (bby b, 0))) := by
 obtain ⟨e, h1, h2, h3⟩ := bcheck_ok b
 refine ⟨e, h1, h2, ?_⟩
 by_cases he : e = 0
 ·subst he
  have H := h3 rfl
  refine .inr ⟨rfl, H, ?_, ?_⟩
  ·rw [tp_eq, bnd_s h1, cnd_f (ine_f rfl), tpK_eq H, tpK_eq H]
   unfold bby
   rw [bhd_v]
   cases b.2.2.2.2.2.2.2.2.1 <;> rfl
  ·rw [rp_eq, bnd_s h2, cnd_f (ine_f rfl), rpK_eq H, rpK_eq H]
   unfold bby
   rw [bhd_v]
   cases b.2.2.2.2.2.2.2.2.1 <;> rfl
 ·refine .inl ⟨he, ?_, ?_⟩
  ·rw [tp_eq, bnd_s h1, cnd_t (ine_t he)]
  ·rw [rp_eq, bnd_s h2, cnd_t (ine_t he)]
end
end Go.Mo
end

section
/-
  Plain facts: blocks read from bytes, by the layer and by the specification.
-/
namespace Go.Mo
open Go Go.W Go.Lib
set_option maxRecDepth 100000
noncomputable section
noncomputable def bz : Blk := ((0 : Int), (0 : Int), (0 : UInt8), (0 : UInt8), ((0 : Int), (0 : Int), (0 : Int), (0 : Int), false), ((0 : Int), (0 : Int), (0 : Int), (0 : Int), false), (0 : Int), (0 : UInt8), false, ([] : List UInt8))
noncomputable def tw (t : List UInt8) : List UInt8 := t.takeWhile fun c => c != 143
theorem w64n8 (c : UInt8) : w64 (n8 c) = n8 c := by
 have := n8_rng c
 exact w64_id (by omega)
theorem times_eq (N : Nat) (a b c d : UInt8) (t : List UInt8) : q116 N (a :: b :: c :: d :: t) = some (n8 a, n8 b, n8 c, n8 d, false) := by
 unfold q116
 rw [grd_t (inb_t (by simp only [len, List.length_cons]; omega)), grd_t (inb_t (by simp only [len, List.length_cons]; omega)), grd_t (inb_t (by simp only [len, List.length_cons]; omega)), grd_t (inb_t (by simp only [len, List.length_cons]; omega))]
 show some (w64 (n8 a), w64 (n8 b), w64 (n8 c), w64 (n8 d), false) = _
 rw [w64n8, w64n8, w64n8, w64n8]
theorem ix_tw : ∀ t : List UInt8, (0 ≤ indexByte t 143 → (indexByte t 143).toNat < t.length ∧ t.take (indexByte t 143).toNat = tw t) ∧ (indexByte t 143 < 0 → tw t = t)
 | [] => ⟨fun h => absurd h (by decide), fun _ => rfl⟩
 | b :: t => by
  obtain ⟨h1, h2⟩ := ix_tw t
  have hge := indexByte_ge t 143
  unfold indexByte
  by_cases hb : b = 143
  ·subst hb
   simp [tw]
  ·have hb' : (b == 143) = false := by simpa using hb
   have hb2 : (b != 143) = true := by simpa using hb
   rw [hb']
   simp only [Bool.false_eq_true, if_false]
   have htw : tw (b :: t) = b :: tw t := by
    unfold tw
    rw [List.takeWhile_cons, hb2]
    rfl
   by_cases hi : indexByte t 143 = -1
   ·rw [hi]
    simp only [beq_self_eq_true, if_true]
    refine ⟨fun h => absurd h (by decide), fun _ => ?_⟩
    rw [htw, h2 (by omega)]
   ·have hi' : (indexByte t 143 == -1) = false := by simpa using hi
    rw [hi']
    simp only [Bool.false_eq_true, if_false]
    refine ⟨fun _ => ?_, fun h => by omega⟩
    obtain ⟨h3, h4⟩ := h1 (by omega)
    have e : (indexByte t 143 + 1).toNat = (indexByte t 143).toNat + 1 := by omega
    rw [e, List.length_cons, List.take_succ_cons, h4, htw]
    exact ⟨by omega, rfl⟩
theorem cut_eq {t : List UInt8} (ht : t.length ≤ 4000000) : ∃ r b, q121 fuelH (t, [143]) = some (tw t, r, b) := by
 have hi : q120 fuelH (t, [143]) = some (indexByte t 143) := by
  unfold q120
  rw [cnd_f (by rfl), cnd_t (by rfl), grd_t (by kernel_rfl)]
  show bnd (q117 fuelH (t, 143)) _ = _
  rw [indexB_eq, bnd_some']
 obtain ⟨h1, h2⟩ := ix_tw t
 unfold q121
 rw [hi, bnd_some', cnd_ile]
 split
 ·rename_i h
  obtain ⟨h3, h4⟩ := h1 h
  have hw : w64 (iadd (indexByte t 143) (len [(143 : UInt8)])) = indexByte t 143 + 1 := w64_id (by simp only [iadd, len, List.length_singleton]; omega)
  rw [hw, grd_t (in2_t (by simp only [len]; omega)), grd_t (in2_t (by simp only [len]; omega))]
  refine ⟨ldrop (toN (indexByte t 143 + 1)) t, true, ?_⟩
  show some ((t.take (indexByte t 143).toNat), _, _) = _
  rw [h4]
 ·rename_i h
  rw [h2 (by omega)]
  exact ⟨[], false, rfl⟩
theorem or_num (a b : UInt8) : bitb .or .i64 (n8 a) (w64 (shlk .i64 (n8 b) (8 : Int))) = n8 a + 256 * n8 b := by
 have ha : a.toNat < 256 := a.toNat_lt
 have hb : b.toNat < 256 := b.toNat_lt
 have e0 : w64 (shlk .i64 (n8 b) (8 : Int)) = ((b.toNat * 256 : Nat) : Int) := by
  show w64 ((b.toNat : Int) * 256) = _
  rw [w64_id (by omega)]
  omega
 rw [e0]
 have e : (BitVec.ofInt 64 (a.toNat : Int) ||| BitVec.ofInt 64 ((b.toNat * 256 : Nat) : Int)).toNat = a.toNat + b.toNat * 256 := by
  simp only [BitVec.ofInt_natCast, BitVec.toNat_or, BitVec.toNat_ofNat]
  rw [Nat.mod_eq_of_lt (by omega), Nat.mod_eq_of_lt (by omega)]
  have := Nat.shiftLeft_add_eq_or_of_lt (show a.toNat < 2 ^ 8 by omega) b.toNat
  rw [Nat.shiftLeft_eq, show (2 : Nat) ^ 8 = 256 from rfl] at this
  rw [Nat.or_comm, ← this]
  omega
 refine Eq.trans (b := w64 ((a.toNat + b.toNat * 256 : Nat) : Int)) (congrArg (fun m : Nat => IntKind.wrap .i64 (m : Int)) e) ?_
 rw [w64_id (by omega)]
 show _ = (a.toNat : Int) + 256 * (b.toNat : Int)
 omega
noncomputable def gbl : List UInt8 → Blk
 | x0 :: x1 :: x2 :: x3 :: x4 :: x5 :: x6 :: x7 :: x8 :: x9 :: x10 :: x11 :: x12 :: x13 :: x14 :: x15 :: t => (n8 x0, n8 x1 + 256 * n8 x2, x3, x4, (n8 x5, n8 x6, n8 x7, n8 x8, false), (n8 x9, n8 x10, n8 x11, n8 x12, false), n8 x13, x14, ieq (n8 x15) (n8 (1 : UInt8)), tw t)
 | _ => bz
noncomputable def gfin (x : List UInt8) (b : Blk) (p : Option (List UInt8 × Int)) : Option (Blk × Int) :=
 bnd p fun v4 => cnd (ine v4.2 (0 : Int)) (some (bz, (4 : Int))) (cnd (bnot (seq x v4.1)) (some (bz, (4 : Int))) (some (b, (0 : Int))))
theorem len16 {x : List UInt8} (h : x.length = 128) : ∃ x0 x1 x2 x3 x4 x5 x6 x7 x8 x9 x10 x11 x12 x13 x14 x15 t, x = x0 :: x1 :: x2 :: x3 :: x4 :: x5 :: x6 :: x7 :: x8 :: x9 :: x10 :: x11 :: x12 :: x13 :: x14 :: x15 :: t ∧ t.length = 112 := by
 match x, h with
 | x0 :: x1 :: x2 :: x3 :: x4 :: x5 :: x6 :: x7 :: x8 :: x9 :: x10 :: x11 :: x12 :: x13 :: x14 :: x15 :: t, h => exact ⟨x0, x1, x2, x3, x4, x5, x6, x7, x8, x9, x10, x11, x12, x13, x14, x15, t, rfl, by simpa using h⟩
theorem tget_eq {x : List UInt8} (h : x.length = 128) : tape_Get fuelH x = gfin x (gbl x) (tape_Put fuelH (gbl x)) := by
 obtain ⟨x0, x1, x2, x3, x4, x5, x6, x7, x8, x9, x10, x11, x12, x13, x14, x15, t, rfl, ht⟩ := len16 h
 generalize hx : x0 :: x1 :: x2 :: x3 :: x4 :: x5 :: x6 :: x7 :: x8 :: x9 :: x10 :: x11 :: x12 :: x13 :: x14 :: x15 :: t = x at h
 have hl : len x = 128 := by simp only [len]; omega
 obtain ⟨r, b, hc⟩ := cut_eq (t := t) (by omega)
 have htl : (tw t).length ≤ 112 := by
  have : (tw t).length ≤ t.length := by
   unfold tw
   exact (List.takeWhile_sublist _).length_le
  omega
 have hg : gbl x = (n8 x0, n8 x1 + 256 * n8 x2, x3, x4, (n8 x5, n8 x6, n8 x7, n8 x8, false), (n8 x9, n8 x10, n8 x11, n8 x12, false), n8 x13, x14, ieq (n8 x15) (n8 (1 : UInt8)), tw t) := by rw [← hx]; rfl
 have t1 : q116 fuelH (ldrop (toN (5 : Int)) x) = some (n8 x5, n8 x6, n8 x7, n8 x8, false) := by rw [← hx]; exact times_eq fuelH x5 x6 x7 x8 _
 have t2 : q116 fuelH (ldrop (toN (9 : Int)) x) = some (n8 x9, n8 x10, n8 x11, n8 x12, false) := by rw [← hx]; exact times_eq fuelH x9 x10 x11 x12 _
 have d : ldrop (toN (16 : Int)) x = t := by rw [← hx]; rfl
 have g : lget x (toN (0 : Int)) 0 = x0 ∧ lget x (toN (1 : Int)) 0 = x1 ∧ lget x (toN (2 : Int)) 0 = x2 ∧ lget x (toN (3 : Int)) 0 = x3 ∧ lget x (toN (4 : Int)) 0 = x4 ∧ lget x (toN (13 : Int)) 0 = x13 ∧ lget x (toN (14 : Int)) 0 = x14 ∧ lget x (toN (15 : Int)) 0 = x15 := by rw [← hx]; exact ⟨rfl, rfl, rfl, rfl, rfl, rfl, rfl, rfl⟩
 obtain ⟨g0, g1, g2, g3, g4, g13, g14, g15⟩ := g
 have hb : ∀ i : Int, 0 ≤ i ∧ i < 128 → inb i 128 = true := fun i hi => inb_t hi
 have h2 : ∀ i : Int, 0 ≤ i ∧ i ≤ 128 → in2 i 128 = true := fun i hi => in2_t hi
 unfold tape_Get
 rw [hl, cnd_f (by rfl), grd_t (hb 0 (by decide)), grd_t (hb 1 (by decide)), grd_t (hb 2 (by decide)), grd_t (hb 3 (by decide)), grd_t (hb 4 (by decide)), grd_t (h2 5 (by decide)), t1, bnd_some', grd_t (h2 9 (by decide)), t2, bnd_some', grd_t (hb 13 (by decide)), grd_t (hb 14 (by decide)), grd_t (hb 15 (by decide)), grd_t (h2 16 (by decide)), d, hc, bnd_some', clone_eq fuelH (tw t) (by omega), bnd_some', g0, g1, g2, g3, g4, g13, g14, g15, w64n8, w64n8, w64n8, w64n8, or_num, hg]
 rfl
theorem fields_eq {x : List UInt8} (h : x.length = 128) (x0 x1 x2 x3 x4 x5 x6 x7 x8 x9 x10 x11 x12 x13 x14 x15 : UInt8) (t : List UInt8) (hx : x0 :: x1 :: x2 :: x3 :: x4 :: x5 :: x6 :: x7 :: x8 :: x9 :: x10 :: x11 :: x12 :: x13 :: x14 :: x15 :: t = x) : q182 fuelH x = some (n8 x0, n8 x1 + 256 * n8 x2, x3, x4, (n8 x5, n8 x6, n8 x7, n8 x8, false), (n8 x9, n8 x10, n8 x11, n8 x12, false), n8 x13, x14, ieq (n8 x15) (n8 (1 : UInt8)), ([] : List UInt8)) := by
 have hl : len x = 128 := by simp only [len]; omega
 have g : lget x (toN (0 : Int)) 0 = x0 ∧ lget x (toN (1 : Int)) 0 = x1 ∧ lget x (toN (2 : Int)) 0 = x2 ∧ lget x (toN (3 : Int)) 0 = x3 ∧ lget x (toN (4 : Int)) 0 = x4 ∧ lget x (toN (5 : Int)) 0 = x5 ∧ lget x (toN (6 : Int)) 0 = x6 ∧ lget x (toN (7 : Int)) 0 = x7 ∧ lget x (toN (8 : Int)) 0 = x8 ∧ lget x (toN (9 : Int)) 0 = x9 ∧ lget x (toN (10 : Int)) 0 = x10 ∧ lget x (toN (11 : Int)) 0 = x11 ∧ lget x (toN (12 : Int)) 0 = x12 ∧ lget x (toN (13 : Int)) 0 = x13 ∧ lget x (toN (14 : Int)) 0 = x14 ∧ lget x (toN (15 : Int)) 0 = x15 := by rw [← hx]; exact ⟨rfl, rfl, rfl, rfl, rfl, rfl, rfl, rfl, rfl, rfl, rfl, rfl, rfl, rfl, rfl, rfl⟩
 obtain ⟨g0, g1, g2, g3, g4, g5, g6, g7, g8, g9, g10, g11, g12, g13, g14, g15⟩ := g
 have hb : ∀ i : Int, 0 ≤ i ∧ i < 128 → inb i 128 = true := fun i hi => inb_t hi
 have r1 := n8_rng x1
 have r2 := n8_rng x2
 have hn : w64 (iadd (n8 x1) (w64 (imul (256 : Int) (n8 x2)))) = n8 x1 + 256 * n8 x2 := by
  simp only [iadd, imul]
  rw [w64_id (x := 256 * n8 x2) (by omega), w64_id (by omega)]
 unfold q182
 rw [hl, grd_t (hb 0 (by decide)), grd_t (hb 1 (by decide)), grd_t (hb 2 (by decide)), grd_t (hb 3 (by decide)), grd_t (hb 4 (by decide)), grd_t (hb 13 (by decide)), grd_t (hb 14 (by decide)), grd_t (hb 15 (by decide)), grd_t (hb 5 (by decide)), grd_t (hb 6 (by decide)), grd_t (hb 7 (by decide)), grd_t (hb 8 (by decide)), grd_t (hb 9 (by decide)), grd_t (hb 10 (by decide)), grd_t (hb 11 (by decide)), grd_t (hb 12 (by decide))]
 rw [g0, g1, g2, g3, g4, g5, g6, g7, g8, g9, g10, g11, g12, g13, g14, g15]
 simp only [w64n8]
 rw [hn]
theorem foldI_tw {R : Type} (K : List UInt8 → Option R) : ∀ (t : List UInt8) (i : Nat) (s : List UInt8), s.length + t.length ≤ 100000000 → foldI (fun _ c s self => cnd (ieq (n8 c) (n8 (143 : UInt8))) (K s) (grd (room (iadd (len s) (len [c])) 1) (self (lapp s [c])))) (fun s => K s) i t s = K (s ++ tw t)
 | [], i, s, _ => by simp [foldI, tw]
 | c :: t, i, s, h => by
  simp only [List.length_cons] at h
  rw [foldI]
  by_cases hc : c = 143
  ·subst hc
   rw [cnd_t (ieq_t rfl)]
   simp [tw]
  ·have hc2 : (c != 143) = true := by simpa using hc
   have htw : tw (c :: t) = c :: tw t := by
    unfold tw
    rw [List.takeWhile_cons, hc2]
    rfl
   rw [cnd_f (ieq_f fun e => hc (n8_inj e)), grd_t (room_t (by simp only [iadd, len, List.length_singleton]; omega))]
   show foldI _ _ _ t (s ++ [c]) = _
   rw [foldI_tw K t (i + 1) (s ++ [c]) (by rw [List.length_append, List.length_singleton]; omega), htw, List.append_assoc]
   rfl
theorem rget_eq {x : List UInt8} (h : x.length = 128) : r23_Get fuelH x = gfin x (gbl x) (r23_Put fuelH (gbl x)) := by
 obtain ⟨x0, x1, x2, x3, x4, x5, x6, x7, x8, x9, x10, x11, x12, x13, x14, x15, t, rfl, ht⟩ := len16 h
 generalize hx : x0 :: x1 :: x2 :: x3 :: x4 :: x5 :: x6 :: x7 :: x8 :: x9 :: x10 :: x11 :: x12 :: x13 :: x14 :: x15 :: t = x at h
 have hl : len x = 128 := by simp only [len]; omega
 have hg : gbl x = (n8 x0, n8 x1 + 256 * n8 x2, x3, x4, (n8 x5, n8 x6, n8 x7, n8 x8, false), (n8 x9, n8 x10, n8 x11, n8 x12, false), n8 x13, x14, ieq (n8 x15) (n8 (1 : UInt8)), tw t) := by rw [← hx]; rfl
 have hf := fields_eq h x0 x1 x2 x3 x4 x5 x6 x7 x8 x9 x10 x11 x12 x13 x14 x15 t hx
 have d : ldrop (toN (16 : Int)) x = t := by rw [← hx]; rfl
 unfold r23_Get
 rw [hl, cnd_f (by rfl), hf, bnd_some', jn_e, grd_t (in2_t (by decide)), d]
 refine Eq.trans (lst_loop (l := t) (fun (s : List UInt8) (p : Nat) => ((p : Int), (n8 x0, n8 x1 + 256 * n8 x2, x3, x4, (n8 x5, n8 x6, n8 x7, n8 x8, false), (n8 x9, n8 x10, n8 x11, n8 x12, false), n8 x13, x14, ieq (n8 x15) (n8 (1 : UInt8)), s))) (fun _ c s self => cnd (ieq (n8 c) (n8 (143 : UInt8))) (gfin x (n8 x0, n8 x1 + 256 * n8 x2, x3, x4, (n8 x5, n8 x6, n8 x7, n8 x8, false), (n8 x9, n8 x10, n8 x11, n8 x12, false), n8 x13, x14, ieq (n8 x15) (n8 (1 : UInt8)), s) (r23_Put fuelH (n8 x0, n8 x1 + 256 * n8 x2, x3, x4, (n8 x5, n8 x6, n8 x7, n8 x8, false), (n8 x9, n8 x10, n8 x11, n8 x12, false), n8 x13, x14, ieq (n8 x15) (n8 (1 : UInt8)), s))) (grd (room (iadd (len s) (len [c])) 1) (self (lapp s [c])))) (fun s => gfin x (n8 x0, n8 x1 + 256 * n8 x2, x3, x4, (n8 x5, n8 x6, n8 x7, n8 x8, false), (n8 x9, n8 x10, n8 x11, n8 x12, false), n8 x13, x14, ieq (n8 x15) (n8 (1 : UInt8)), s) (r23_Put fuelH (n8 x0, n8 x1 + 256 * n8 x2, x3, x4, (n8 x5, n8 x6, n8 x7, n8 x8, false), (n8 x9, n8 x10, n8 x11, n8 x12, false), n8 x13, x14, ieq (n8 x15) (n8 (1 : UInt8)), s))) (fun self s i hi => ?_) (fun self s => ?_) fuelH 0 [] (Nat.zero_le _) (by have := fuelH_eq; omega)) ?_
 ·rw [cnd_t (ilt_t (by simp only [len]; omega)), grd_t (inb_t (by simp only [len]; omega)), lget_i hi, w64_succ hi (by omega)]
  rfl
 ·rw [cnd_f (ilt_f (by simp only [len]; omega))]
  rfl
 ·rw [List.drop_zero, foldI_tw (fun s => gfin x (n8 x0, n8 x1 + 256 * n8 x2, x3, x4, (n8 x5, n8 x6, n8 x7, n8 x8, false), (n8 x9, n8 x10, n8 x11, n8 x12, false), n8 x13, x14, ieq (n8 x15) (n8 (1 : UInt8)), s) (r23_Put fuelH (n8 x0, n8 x1 + 256 * n8 x2, x3, x4, (n8 x5, n8 x6, n8 x7, n8 x8, false), (n8 x9, n8 x10, n8 x11, n8 x12, false), n8 x13, x14, ieq (n8 x15) (n8 (1 : UInt8)), s))) t 0 [] (by simp only [List.length_nil]; omega), List.nil_append, hg]
end
end Go.Mo
end

section
/-
  Plain facts: a block read back; files written.
-/
namespace Go.Mo
open Go Go.W Go.Lib
set_option maxRecDepth 100000
noncomputable section
theorem bput_same (b : Blk) : r23_Put fuelH b = tape_Put fuelH b := by
 obtain ⟨e, _, _, h⟩ := bput_both b
 rcases h with ⟨_, h1, h2⟩ | ⟨_, _, h1, h2⟩
 ·rw [h1, h2]
 ·rw [h1, h2]
noncomputable def GoodB (x : List UInt8) (r : Blk × Int) : Prop := r = (bz, 4) ∨ (r.2 = 0 ∧ BlkOk r.1 ∧ x = bby r.1 ∧ tape_Put fuelH r.1 = some (bby r.1, 0))
theorem bget_ok (x : List UInt8) : ∃ r, tape_Get fuelH x = some r ∧ r23_Get fuelH x = some r ∧ GoodB x r := by
 by_cases hl : x.length = 128
 case neg =>
  refine ⟨(bz, 4), ?_, ?_, .inl rfl⟩
  ·unfold tape_Get
   rw [cnd_t (ine_t (by simp only [len]; omega))]
   rfl
  ·unfold r23_Get
   rw [cnd_t (ine_t (by simp only [len]; omega))]
   rfl
 rw [tget_eq hl, rget_eq hl, bput_same]
 generalize gbl x = b
 have : ∃ r, gfin x b (tape_Put fuelH b) = some r ∧ GoodB x r := by
  obtain ⟨e, _, _, h⟩ := bput_both b
  unfold gfin
  rcases h with ⟨he, h1, _⟩ | ⟨_, H, h1, _⟩
  ·rw [h1, bnd_some', cnd_t (ine_t he)]
   exact ⟨_, rfl, .inl rfl⟩
  ·rw [h1, bnd_some', cnd_f (ine_f rfl), seq_dec, cnd_bnot]
   split
   ·rename_i hx
    exact ⟨_, rfl, .inr ⟨rfl, H, hx, h1⟩⟩
   ·exact ⟨_, rfl, .inl rfl⟩
 obtain ⟨r, h1, h2⟩ := this
 exact ⟨r, h1, h1, h2⟩
end
end Go.Mo
end

section
/-
  Plain facts: labels, both sides; blocks of a subtitle, both sides.
-/
namespace Go.Mo
open Go Go.W Go.Lib
set_option maxRecDepth 100000
noncomputable section
def nomOf (r : UInt8) : Int := if r = 3 then 25 else 30
def noL : Lbl := ((0 : Int), (0 : Int), (0 : Int), (0 : Int), false)
theorem lab_facts {r : UInt8} (h : r = 3 ∨ r = 5) : q103 fuelH (r, false) = some 0 ∧ q104 fuelH r = some (nomOf r) ∧ q105 fuelH (r, false) = some 0 ∧ r03_kind fuelH (r, false) = some 0 ∧ q169 fuelH r = some (nomOf r) := by
 rcases h with rfl | rfl
 ·exact ⟨by kernel_rfl, by kernel_rfl, by kernel_rfl, by kernel_rfl, by kernel_rfl⟩
 ·exact ⟨by kernel_rfl, by kernel_rfl, by kernel_rfl, by kernel_rfl, by kernel_rfl⟩
theorem mul0 (x : Int) : w64 (imul 0 x) = 0 := by unfold imul; rw [Int.zero_mul]; rfl
def setB (b : Blk) (e : UInt8) (t : List UInt8) : Blk := (b.1, b.2.1, e, b.2.2.2.1, b.2.2.2.2.1, b.2.2.2.2.2.1, b.2.2.2.2.2.2.1, b.2.2.2.2.2.2.2.1, b.2.2.2.2.2.2.2.2.1, t)
end
end Go.Mo
end

section
/-
  Plain facts: the file of a document, both sides; StlEncodes returns true.
-/
namespace Go.Mo
open Go Go.W Go.Lib
set_option maxRecDepth 100000
noncomputable section
theorem flat_len2 : ∀ l : List Blk, (∀ b ∈ l, BlkOk b ∧ tape_Put fuelH b = some (bby b, 0)) → (l.flatMap bby).length = 128 * l.length
 | [], _ => rfl
 | b :: l, hb => by
  rw [List.flatMap_cons, List.length_append, bby_len (hb b (by simp)).1, flat_len2 l fun c hc => hb c (by simp [hc]), List.length_cons]
  omega
end
end Go.Mo
end

section
/-
  Plain facts: files read.
-/
namespace Go.Mo
open Go Go.W Go.Lib
set_option maxRecDepth 100000
noncomputable section
abbrev Rd := Hdr × List Blk × Int × Int
noncomputable def rdN (h : Hdr) : Nat → List UInt8 → Nat → List Blk → Option Rd
 | 0, _, _, l => some (h, l, 0, 0)
 | m + 1, y, i, l => bnd (tape_Get fuelH (ltake (toN (128 : Int)) y)) fun v5 => cnd (ine v5.2 (0 : Int)) (some (hz, ([] : List Blk), w64 (iadd (i : Int) (1 : Int)), v5.2)) (rdN h m (ldrop (toN (128 : Int)) y) (i + 1) (lapp l [v5.1]))
theorem tread_loop {h : Hdr} {y : List UInt8} {B : Nat} (hB : h.2.2.2.1 = (B : Int)) (hy : y.length = 128 * B) (hB2 : B ≤ 1000) : ∀ (m fuel i : Nat) (l : List Blk), m = B - i → i ≤ B → m < fuel → l.length = i →
  fixN (fun v3 (v4 : (List Blk) × Int) =>
        cnd (ilt v4.2 h.2.2.2.1)
         (grd (in3 (w64 (imul v4.2 (128 : Int))) (w64 (imul (w64 (iadd v4.2 (1 : Int))) (128 : Int))) (len y))
          (bnd (tape_Get fuelH (ldrop (toN (w64 (imul v4.2 (128 : Int)))) (ltake (toN (w64 (imul (w64 (iadd v4.2 (1 : Int))) (128 : Int)))) y))) fun v5 =>
          cnd (ine v5.2 (0 : Int))
           (some (hz, ([] : List Blk), w64 (iadd v4.2 (1 : Int)), v5.2))
           (grd (room (iadd (len v4.1) (len ([v5.1] : List Blk))) 144)
            (v3 (lapp v4.1 ([v5.1] : List Blk), w64 (iadd v4.2 (1 : Int)))))))
         (some (h, v4.1, (0 : Int), (0 : Int)))) fuel (l, (i : Int)) = rdN h m (y.drop (128 * i)) i l
 | _, 0, _, _, _, _, h, _ => by omega
 | 0, fuel + 1, i, l, hm, hi, _, _ => by
  rw [fixN_s, hB]
  simp only
  rw [cnd_f (ilt_f (by omega))]
  rfl
 | m + 1, fuel + 1, i, l, hm, hi, hf, hl => by
  rw [fixN_s, hB]
  simp only
  have w1 : w64 (imul (i : Int) (128 : Int)) = ((128 * i : Nat) : Int) := by
   simp only [imul]
   rw [w64_id (by omega)]
   omega
  have w2 : w64 (iadd (i : Int) (1 : Int)) = ((i + 1 : Nat) : Int) := w64_succ (n := B) (by omega) (by omega)
  have w3 : w64 (imul ((i + 1 : Nat) : Int) (128 : Int)) = ((128 * (i + 1) : Nat) : Int) := by
   simp only [imul]
   rw [w64_id (by omega)]
   omega
  have hs : ldrop (toN ((128 * i : Nat) : Int)) (ltake (toN ((128 * (i + 1) : Nat) : Int)) y) = ltake (toN (128 : Int)) (y.drop (128 * i)) := by
   unfold ldrop ltake toN
   rw [Int.toNat_natCast, Int.toNat_natCast, List.drop_take]
   congr 1
   omega
  rw [cnd_t (ilt_t (by omega)), w1, w2, w3, grd_t (in3_t (by simp only [len]; omega)), hs]
  have hr : ∀ b : Blk, room (iadd (len l) (len ([b] : List Blk))) 144 = true := fun b => room_t (by simp only [iadd, len, List.length_singleton]; omega)
  obtain ⟨r, g1, _, _⟩ := bget_ok (ltake (toN (128 : Int)) (y.drop (128 * i)))
  rw [rdN, g1, bnd_some', bnd_some', hr, w2]
  rw [show ∀ k : Option Rd, grd true k = k from fun _ => rfl]
  have := tread_loop hB hy hB2 m fuel (i + 1) (lapp l [r.1]) (by omega) (by omega) (by omega) (by simp only [lapp, List.length_append, List.length_singleton]; omega)
  rw [hB] at this
  rw [this]
  have hd : ldrop (toN (128 : Int)) (y.drop (128 * i)) = y.drop (128 * (i + 1)) := by
   unfold ldrop
   rw [List.drop_drop]
   congr 1
  rw [hd]
theorem rread_loop {h : Hdr} : ∀ (m fuel : Nat) (y : List UInt8) (l : List Blk), y.length = 128 * m → m < fuel → l.length + m ≤ 1000 →
  fixN (fun v3 (v4 : (List UInt8) × List Blk) =>
        cnd (ilt (0 : Int) (len v4.1))
         (grd (in2 (128 : Int) (len v4.1))
          (bnd (r23_Get fuelH (ltake (toN (128 : Int)) v4.1)) fun v5 =>
          cnd (ine v5.2 (0 : Int))
           (some (hz, ([] : List Blk), w64 (iadd (len v4.2) (1 : Int)), v5.2))
           (grd (room (iadd (len v4.2) (len ([v5.1] : List Blk))) 144)
            (grd (in2 (128 : Int) (len v4.1))
             (v3 (ldrop (toN (128 : Int)) v4.1, lapp v4.2 ([v5.1] : List Blk)))))))
         (some (h, v4.2, (0 : Int), (0 : Int)))) fuel (y, l) = rdN h m y l.length l
 | _, 0, _, _, _, h, _ => by omega
 | 0, fuel + 1, y, l, hy, _, _ => by
  rw [fixN_s]
  simp only
  rw [cnd_f (ilt_f (by simp only [len]; omega))]
  rfl
 | m + 1, fuel + 1, y, l, hy, hf, hl => by
  rw [fixN_s]
  simp only
  have hr : ∀ b : Blk, room (iadd (len l) (len ([b] : List Blk))) 144 = true := fun b => room_t (by simp only [iadd, len, List.length_singleton]; omega)
  have h2 : in2 (128 : Int) (len y) = true := in2_t (by simp only [len]; omega)
  obtain ⟨r, g1, g2, _⟩ := bget_ok (ltake (toN (128 : Int)) y)
  rw [cnd_t (ilt_t (by simp only [len]; omega)), h2, g2, rdN, g1, bnd_some', bnd_some', hr]
  have hd : (ldrop (toN (128 : Int)) y).length = 128 * m := by
   unfold ldrop
   rw [List.length_drop, hy]
   show 128 * (m + 1) - 128 = _
   omega
  have := rread_loop (h := h) m fuel (ldrop (toN (128 : Int)) y) (lapp l [r.1]) hd (by omega) (by simp only [lapp, List.length_append, List.length_singleton]; omega)
  show cnd _ _ (fixN _ fuel (ldrop (toN (128 : Int)) y, lapp l [r.1])) = _
  rw [this]
  have e : (lapp l [r.1]).length = l.length + 1 := by simp only [lapp, List.length_append, List.length_singleton]
  rw [e]
  rfl
theorem rd_ok {h : Hdr} : ∀ (m : Nat) (y : List UInt8) (i : Nat) (l : List Blk), y.length = 128 * m → ∃ r, rdN h m y i l = some r ∧
  ((r.2.2.2 ≠ 0 ∧ r.1 = hz ∧ r.2.1 = []) ∨ (∃ l', r = (h, l ++ l', 0, 0) ∧ l'.length = m ∧ (∀ b ∈ l', BlkOk b ∧ tape_Put fuelH b = some (bby b, 0)) ∧ y = l'.flatMap bby))
 | 0, y, i, l, hy => ⟨_, rfl, .inr ⟨[], by simp, rfl, (fun b hb => by cases hb), List.eq_nil_of_length_eq_zero (by simpa using hy)⟩⟩
 | m + 1, y, i, l, hy => by
  have hd : (ldrop (toN (128 : Int)) y).length = 128 * m := by
   unfold ldrop
   rw [List.length_drop, hy]
   show 128 * (m + 1) - 128 = _
   omega
  obtain ⟨r, g1, _, g3⟩ := bget_ok (ltake (toN (128 : Int)) y)
  rw [rdN, g1, bnd_some']
  rcases g3 with rfl | ⟨k1, k2, k3, k4⟩
  ·exact ⟨_, cnd_t (by rfl), .inl ⟨by show (4 : Int) ≠ 0; decide, rfl, rfl⟩⟩
  ·rw [cnd_f (ine_f k1)]
   obtain ⟨r', f1, f2⟩ := rd_ok m (ldrop (toN (128 : Int)) y) (i + 1) (lapp l [r.1]) hd
   refine ⟨r', f1, ?_⟩
   rcases f2 with f2 | ⟨l', f3, f4, f5, f6⟩
   ·exact .inl f2
   ·refine .inr ⟨r.1 :: l', ?_, by rw [List.length_cons, f4], ?_, ?_⟩
    ·rw [f3]
     unfold lapp
     rw [List.append_assoc]
     rfl
    ·intro b hb
     rcases List.mem_cons.1 hb with rfl | hb
     ·exact ⟨k2, k4⟩
     ·exact f5 b hb
    ·rw [List.flatMap_cons, ← f6, ← k3]
     exact (List.take_append_drop _ _).symm
theorem read_form {x : List UInt8} {h : Hdr} {m : Nat} (h1 : q115 fuelH (ltake (toN (1024 : Int)) x) = some (h, 0)) (h2 : q181 fuelH (ltake (toN (1024 : Int)) x) = some (h, 0)) (hl : x.length = 1024 + 128 * m) (hm : m ≤ 1000) (hb : h.2.2.2.1 = (m : Int)) :
  q125 fuelH x = rdN h m (ldrop (toN (1024 : Int)) x) 0 [] ∧ r23_Read fuelH x = rdN h m (ldrop (toN (1024 : Int)) x) 0 [] := by
 have hd : (ldrop (toN (1024 : Int)) x).length = 128 * m := by
  unfold ldrop
  rw [List.length_drop, hl]
  show 1024 + 128 * m - 1024 = _
  omega
 have i2 : in2 (1024 : Int) (len x) = true := in2_t (by simp only [len]; omega)
 have c1 : imod (len (ldrop (toN (1024 : Int)) x)) (128 : Int) = 0 := by
  simp only [imod, len, hd]
  rw [Int.tmod_eq_emod_of_nonneg (by omega)]
  omega
 have c2 : w64 (idiv (len (ldrop (toN (1024 : Int)) x)) (128 : Int)) = h.2.2.2.1 := by
  simp only [idiv, len, hd]
  rw [Int.tdiv_eq_ediv_of_nonneg (by omega), hb, w64_id (by omega)]
  omega
 constructor
 ·unfold q125
  rw [cnd_f (ilt_f (by simp only [len]; omega)), grd_t i2, h1, bnd_some', cnd_f (ine_f rfl), grd_t i2, cnd_f (ine_f c1), cnd_f (ine_f c2), jn_e]
  exact tread_loop hb hd hm m fuelH 0 [] (by omega) (Nat.zero_le _) (by have := fuelH_eq; omega) rfl
 ·unfold r23_Read
  rw [cnd_f (ilt_f (by simp only [len]; omega)), grd_t i2, h2, bnd_some', cnd_f (ine_f rfl), grd_t i2, cnd_f (ine_f c1), cnd_f (ine_f c2), jn_e]
  exact rread_loop m fuelH (ldrop (toN (1024 : Int)) x) [] hd (by have := fuelH_eq; omega) (by simpa using hm)
noncomputable def RdOk (x : List UInt8) (r : Rd) : Prop := (r.2.2.2 ≠ 0 ∧ r.1 = hz ∧ r.2.1 = []) ∨ (∃ h l, r = (h, l, 0, 0) ∧ HdrOk h ∧ q113 fuelH h = some (hby h, 0) ∧ q179 fuelH h = some (hby h, 0) ∧ (l.length : Int) = h.2.2.2.1 ∧ (∀ b ∈ l, BlkOk b ∧ tape_Put fuelH b = some (bby b, 0)) ∧ x = hby h ++ l.flatMap bby)
theorem read_ok {x : List UInt8} (hx : x.length ≤ 20000) : ∃ r, q125 fuelH x = some r ∧ r23_Read fuelH x = some r ∧ RdOk x r := by
 by_cases h0 : x.length < 1024
 ·refine ⟨(hz, [], 0, 4), ?_, ?_, .inl ⟨by show (4 : Int) ≠ 0; decide, rfl, rfl⟩⟩
  ·unfold q125
   rw [cnd_t (ilt_t (by simp only [len]; omega))]
   rfl
  ·unfold r23_Read
   rw [cnd_t (ilt_t (by simp only [len]; omega))]
   rfl
 have i2 : in2 (1024 : Int) (len x) = true := in2_t (by simp only [len]; omega)
 obtain ⟨⟨h, e⟩, g1, g2, g3⟩ := readers_same (ltake (toN (1024 : Int)) x)
 have fin : ∀ k : Int, k ≠ 0 → (q125 fuelH x = some (hz, [], 0, k)) → (r23_Read fuelH x = some (hz, [], 0, k)) → ∃ r, q125 fuelH x = some r ∧ r23_Read fuelH x = some r ∧ RdOk x r := fun k hk a b => ⟨_, a, b, .inl ⟨hk, rfl, rfl⟩⟩
 rcases g3 with g3 | ⟨k1, k2, k3, k4, k5⟩
 ·injection g3 with e1 e2
  subst e1 e2
  refine fin 4 (by decide) ?_ ?_
  ·unfold q125
   rw [cnd_f (ilt_f (by simp only [len]; omega)), grd_t i2, g1, bnd_some', cnd_t (by rfl)]
   rfl
  ·unfold r23_Read
   rw [cnd_f (ilt_f (by simp only [len]; omega)), grd_t i2, g2, bnd_some', cnd_t (by rfl)]
   rfl
 ·simp only at k1 k2 k3 k4 k5
  subst k1
  have hd : (ldrop (toN (1024 : Int)) x).length = x.length - 1024 := by
   unfold ldrop
   rw [List.length_drop]
   rfl
  have c1 : imod (len (ldrop (toN (1024 : Int)) x)) (128 : Int) = (((x.length - 1024) % 128 : Nat) : Int) := by
   simp only [imod, len, hd]
   rw [Int.tmod_eq_emod_of_nonneg (by omega)]
   omega
  have c2 : w64 (idiv (len (ldrop (toN (1024 : Int)) x)) (128 : Int)) = (((x.length - 1024) / 128 : Nat) : Int) := by
   simp only [idiv, len, hd]
   rw [Int.tdiv_eq_ediv_of_nonneg (by omega), w64_id (by omega)]
   omega
  by_cases h3 : (x.length - 1024) % 128 = 0
  case neg =>
   refine fin 4 (by decide) ?_ ?_
   ·unfold q125
    rw [cnd_f (ilt_f (by simp only [len]; omega)), grd_t i2, g1, bnd_some', cnd_f (ine_f rfl), grd_t i2, c1, cnd_t (ine_t (by omega))]
    rfl
   ·unfold r23_Read
    rw [cnd_f (ilt_f (by simp only [len]; omega)), grd_t i2, g2, bnd_some', cnd_f (ine_f rfl), grd_t i2, c1, cnd_t (ine_t (by omega))]
    rfl
  by_cases h4 : (((x.length - 1024) / 128 : Nat) : Int) = h.2.2.2.1
  case neg =>
   refine fin 1 (by decide) ?_ ?_
   ·unfold q125
    rw [cnd_f (ilt_f (by simp only [len]; omega)), grd_t i2, g1, bnd_some', cnd_f (ine_f rfl), grd_t i2, c1, cnd_f (ine_f (by omega)), c2, cnd_t (ine_t h4)]
    rfl
   ·unfold r23_Read
    rw [cnd_f (ilt_f (by simp only [len]; omega)), grd_t i2, g2, bnd_some', cnd_f (ine_f rfl), grd_t i2, c1, cnd_f (ine_f (by omega)), c2, cnd_t (ine_t h4)]
    rfl
  obtain ⟨f1, f2⟩ := read_form (m := (x.length - 1024) / 128) g1 g2 (by omega) (by omega) h4.symm
  obtain ⟨r, q1, q2⟩ := rd_ok (h := h) ((x.length - 1024) / 128) (ldrop (toN (1024 : Int)) x) 0 [] (by rw [hd]; omega)
  refine ⟨r, f1.trans q1, f2.trans q1, ?_⟩
  rcases q2 with q2 | ⟨l', q3, q4, q5, q6⟩
  ·exact .inl q2
  ·refine .inr ⟨h, l', by rw [q3, List.nil_append], k2, k4, k5, by rw [q4, h4], q5, ?_⟩
   rw [← q6, ← k3]
   exact (List.take_append_drop _ _).symm
end
end Go.Mo
end

section
/-
  Plain facts: blocks that are joined, both sides; the frame of a label, both sides.
-/
namespace Go.Mo
open Go Go.W Go.Lib
set_option maxRecDepth 100000
noncomputable section
theorem cnd_some {α : Type} (b : Bool) (x y : α) : cnd b (some x) (some y) = some (if b = true then x else y) := by cases b <;> rfl
def alV (p : Blk × Blk) : Bool := (q126 0 p).getD false
theorem al_eq (N : Nat) (p : Blk × Blk) : q126 N p = some (alV p) := by
 have h : ∃ v, q126 0 p = some v := by
  unfold q126
  simp only [cnd_some]
  exact ⟨_, rfl⟩
 obtain ⟨v, h⟩ := h
 have e : q126 N p = q126 0 p := rfl
 unfold alV
 rw [e, h]
 rfl
def chkV (b : Blk) : Int := (q124 fuelH b).getD 0
theorem chk_both (b : Blk) : q124 fuelH b = some (chkV b) ∧ q185 fuelH b = some (chkV b) ∧ (chkV b = 0 → BlkOk b) := by
 obtain ⟨e, h1, h2, h3⟩ := bcheck_ok b
 have : chkV b = e := by unfold chkV; rw [h1]; rfl
 rw [this]
 exact ⟨h1, h2, h3⟩
def ordBad (n : Nat) (l0 : Blk) (i : Nat) (b : Blk) : Prop := (if i + 1 = n then n8 b.2.2.1 ≠ 255 else n8 b.2.2.1 ≠ (i : Int)) ∨ alV (b, l0) = false
instance (n : Nat) (l0 : Blk) (i : Nat) (b : Blk) : Decidable (ordBad n l0 i b) := by unfold ordBad; infer_instance
def frmBad (n : Nat) (i : Nat) (b : Blk) : Prop := (i + 1 < n ∧ b.2.2.2.2.2.2.2.2.2.length < 112) ∨ (i + 1 = n ∧ 0 < i ∧ b.2.2.2.2.2.2.2.2.2.length = 0)
instance (n : Nat) (i : Nat) (b : Blk) : Decidable (frmBad n i b) := by unfold frmBad; infer_instance
abbrev Jn := Blk × List UInt8 × Int
def jR1 (_ : Nat) (b : Blk) (_ : Unit) : Option Jn ⊕ Unit := if chkV b ≠ 0 then .inl (some (bz, [], chkV b)) else .inr ()
def jR2 (n : Nat) (l0 : Blk) (i : Nat) (b : Blk) (_ : Unit) : Option Jn ⊕ Unit := if ordBad n l0 i b then .inl (some (bz, [], 8)) else .inr ()
def jR3 (n : Nat) (i : Nat) (b : Blk) (a : List UInt8) : Option Jn ⊕ List UInt8 := if frmBad n i b then .inl (some (bz, [], 4)) else .inr (a ++ b.2.2.2.2.2.2.2.2.2)
def joinS : List Blk → Option Jn
 | [] => some (bz, [], 6)
 | l0 :: l => itI jR1 (fun _ => itI (jR2 (l.length + 1) l0) (fun _ => itI (jR3 (l.length + 1)) (fun a => some (setB l0 255 [], a, 0)) 0 (l0 :: l) []) 0 (l0 :: l) ()) 0 (l0 :: l) ()
theorem joinS_cons (l0 : Blk) (l : List Blk) : joinS (l0 :: l) = itI jR1 (fun _ => itI (jR2 (l.length + 1) l0) (fun _ => itI (jR3 (l.length + 1)) (fun a => some (setB l0 255 [], a, 0)) 0 (l0 :: l) []) 0 (l0 :: l) ()) 0 (l0 :: l) () := rfl
theorem cnd_bn {α : Type} (b : Bool) (x y : Option α) : cnd (bnot b) x y = cnd b y x := by cases b <;> rfl
theorem n8_w (b : UInt8) : w64 (n8 b) = n8 b := by
 have := b.toNat_lt
 unfold n8
 rw [w64_id (by omega)]
theorem tape_join {l : List Blk} (hl : l.length ≤ 4000) (ht : ∀ b ∈ l, b.2.2.2.2.2.2.2.2.2.length ≤ 112) : q127 fuelH l = joinS l := by
 unfold q127
 cases l with
 | nil => rfl
 | cons l0 l =>
  have hn : (l0 :: l).length = l.length + 1 := List.length_cons
  rw [cnd_f (ieq_f (by simp only [len, hn]; omega)), jn_e]
  rw [joinS_cons]
  have h0 : inb (0 : Int) (len (l0 :: l)) = true := inb_t (by simp only [len, hn]; omega)
  have hg0 : ∀ d, lget (l0 :: l) (toN (0 : Int)) d = l0 := fun _ => rfl
  have hw : w64 (isub (len (l0 :: l)) (1 : Int)) = (l.length : Int) := by
   have := w64_pred (i := l.length + 1) (by omega) (by omega)
   have e : len (l0 :: l) = ((l.length + 1 : Nat) : Int) := by simp only [len, hn]
   rw [e, this]; rfl
  generalize hL : l0 :: l = L at *
  refine Eq.trans (lst_it (l := L) (fun (_ : Unit) (p : Nat) => (p : Int)) jR1 (fun _ => itI (jR2 (l.length + 1) l0) (fun _ => itI (jR3 (l.length + 1)) (fun a => some (setB l0 255 [], a, 0)) 0 L []) 0 L ()) (fun _ _ => True) (fun self a i hi _ => ?_) (fun self a _ => ?_) fuelH 0 () (Nat.zero_le _) (by have := fuelH_eq; omega) trivial) (by rw [List.drop_zero])
  ·rw [cnd_t (ilt_t (by simp only [len]; omega)), grd_t (inb_t (by simp only [len]; omega)), lget_i hi, bnd_s (chk_both _).1, w64_succ hi (by omega)]
   unfold jR1
   by_cases h : chkV L[i] ≠ 0
   ·rw [if_pos h, cnd_t (ine_t h)]; rfl
   ·rw [if_neg h, cnd_f (ine_f (by simpa using h))]
    exact ⟨rfl, trivial⟩
  rw [cnd_f (ilt_f (by simp only [len]; omega)), jn_e]
  refine Eq.trans (lst_it (l := L) (fun (_ : Unit) (p : Nat) => (p : Int)) (jR2 (l.length + 1) l0) (fun _ => itI (jR3 (l.length + 1)) (fun a => some (setB l0 255 [], a, 0)) 0 L []) (fun _ _ => True) (fun self a i hi _ => ?_) (fun self a _ => ?_) fuelH 0 () (Nat.zero_le _) (by have := fuelH_eq; omega) trivial) (by rw [List.drop_zero])
  ·have e255 : n8 (255 : UInt8) = 255 := rfl
   rw [cnd_t (ilt_t (by simp only [len]; omega)), grd_t (inb_t (by simp only [len]; omega)), lget_i hi, w64_succ hi (by omega), jn_cnd, hw, n8_w, hg0, al_eq, grd_t h0, bnd_some', cnd_ine, cnd_bn]
   have ew : (if ieq (i : Int) (l.length : Int) = true then (255 : Int) else (i : Int)) = if i + 1 = l.length + 1 then 255 else (i : Int) := by
    by_cases h : i = l.length
    ·rw [if_pos (by rw [ieq_tt]; omega), if_pos (by omega)]
    ·rw [if_neg (by rw [ieq_tt]; omega), if_neg (by omega)]
   rw [ew]
   unfold jR2 ordBad
   by_cases h1 : i + 1 = l.length + 1
   ·simp only [if_pos h1]
    by_cases h2 : n8 L[i].2.2.1 ≠ 255
    ·rw [if_pos h2, if_pos (.inl h2)]; rfl
    ·rw [if_neg h2]
     by_cases h3 : alV (L[i], l0) = true
     ·rw [cnd_t h3, if_neg (by simp [h3, h2])]
      exact ⟨rfl, trivial⟩
     ·rw [cnd_f (by simpa using h3), if_pos (.inr (by simpa using h3))]; rfl
   ·simp only [if_neg h1]
    by_cases h2 : n8 L[i].2.2.1 ≠ (i : Int)
    ·rw [if_pos h2, if_pos (.inl h2)]; rfl
    ·rw [if_neg h2]
     by_cases h3 : alV (L[i], l0) = true
     ·rw [cnd_t h3, if_neg (by simp [h3, h2])]
      exact ⟨rfl, trivial⟩
     ·rw [cnd_f (by simpa using h3), if_pos (.inr (by simpa using h3))]; rfl
  rw [cnd_f (ilt_f (by simp only [len]; omega)), jn_e]
  refine Eq.trans (lst_it (l := L) (fun (a : List UInt8) (p : Nat) => (a, (p : Int))) (jR3 (l.length + 1)) (fun a => some (setB l0 255 [], a, 0)) (fun i a => a.length ≤ 112 * i) (fun self a i hi ha => ?_) (fun self a _ => ?_) fuelH 0 [] (Nat.zero_le _) (by have := fuelH_eq; omega) (Nat.zero_le _)) (by rw [List.drop_zero])
  ·have htx := ht _ (List.getElem_mem hi)
   simp only
   rw [cnd_t (ilt_t (by simp only [len]; omega)), grd_t (inb_t (by simp only [len]; omega)), lget_i hi, w64_succ hi (by omega), hw]
   unfold jR3
   have good : ∀ X : Option Jn, ¬ frmBad (l.length + 1) i L[i] → X = self (a ++ L[i].2.2.2.2.2.2.2.2.2, ((i + 1 : Nat) : Int)) → Rnd X self (fun a => (a, ((i + 1 : Nat) : Int))) (fun a => a.length ≤ 112 * (i + 1)) (if frmBad (l.length + 1) i L[i] then .inl (some (bz, [], 4)) else .inr (a ++ L[i].2.2.2.2.2.2.2.2.2)) := fun X h e => by
    rw [if_neg h, e]
    exact ⟨rfl, by simp only [List.length_append]; omega⟩
   have badd : ∀ X : Option Jn, frmBad (l.length + 1) i L[i] → X = some (bz, [], 4) → Rnd X self (fun a => (a, ((i + 1 : Nat) : Int))) (fun a => a.length ≤ 112 * (i + 1)) (if frmBad (l.length + 1) i L[i] then .inl (some (bz, [], 4)) else .inr (a ++ L[i].2.2.2.2.2.2.2.2.2)) := fun X h e => by
    rw [if_pos h, e]
    rfl
   have hroom : room (iadd (len a) (len L[i].2.2.2.2.2.2.2.2.2)) 1 = true := room_t (by simp only [iadd, len]; omega)
   rw [jn_e]
   by_cases h1 : i < l.length
   ·rw [cnd_t (ilt_t (by omega))]
    by_cases h2 : L[i].2.2.2.2.2.2.2.2.2.length < 112
    ·exact badd _ (.inl ⟨by omega, h2⟩) (cnd_t (ilt_t (by simp only [len]; omega)))
    ·refine good _ (by rintro (k | k) <;> omega) ?_
     rw [cnd_f (ilt_f (by simp only [len]; omega)), cnd_f (ieq_f (by omega)), grd_t hroom]
     rfl
   ·have hil : i = l.length := by omega
    rw [cnd_f (ilt_f (by omega)), cnd_t (ieq_t (by omega))]
    by_cases h2 : 0 < l.length
    ·rw [cnd_t (ilt_t (by omega))]
     by_cases h3 : L[i].2.2.2.2.2.2.2.2.2.length = 0
     ·exact badd _ (.inr ⟨by omega, by omega, h3⟩) (cnd_t (ieq_t (by simp only [len]; omega)))
     ·refine good _ (by rintro (k | k) <;> omega) ?_
      rw [cnd_f (ieq_f (by simp only [len]; omega)), grd_t hroom]
      rfl
    ·refine good _ (by rintro (k | k) <;> omega) ?_
     rw [cnd_f (ilt_f (by omega)), grd_t hroom]
     rfl
  ·simp only
   rw [cnd_f (ilt_f (by simp only [len]; omega)), grd_t h0, hg0]
   rfl
end
end Go.Mo
end

section
/-
  Plain facts: blocks that are joined by the specification; the frame of a label.
-/
namespace Go.Mo
open Go Go.W Go.Lib
set_option maxRecDepth 100000
noncomputable section
def valL (n : Int) (l : Lbl) : Int := ((l.1 * 60 + l.2.1) * 60 + l.2.2.1) * n + l.2.2.2.1
def frmS (n : Int) (l : Lbl) : Int × Int := if l.2.2.2.1 < n then (valL n l, 0) else (0, 2)
theorem nom_or (r : UInt8) : nomOf r = 25 ∨ nomOf r = 30 := by unfold nomOf; split <;> simp
theorem val_w {n : Int} (hn : n = 25 ∨ n = 30) {l : Lbl} (hl : lblIn l) : w64 (iadd (w64 (imul (w64 (iadd (w64 (imul (w64 (iadd (w64 (imul l.1 (60 : Int))) l.2.1)) (60 : Int))) l.2.2.1)) n)) l.2.2.2.1) = valL n l ∧ 0 ≤ valL n l ∧ valL n l ≤ 3000000 := by
 obtain ⟨h1, h2, h3, h4⟩ := hl
 unfold valL iadd imul
 rw [w64_id (x := l.1 * 60) (by omega), w64_id (x := l.1 * 60 + l.2.1) (by omega), w64_id (x := (l.1 * 60 + l.2.1) * 60) (by omega), w64_id (x := (l.1 * 60 + l.2.1) * 60 + l.2.2.1) (by omega)]
 rcases hn with rfl | rfl
 ·rw [w64_id (x := ((l.1 * 60 + l.2.1) * 60 + l.2.2.1) * 25) (by omega), w64_id (by omega)]
  omega
 ·rw [w64_id (x := ((l.1 * 60 + l.2.1) * 60 + l.2.2.1) * 30) (by omega), w64_id (by omega)]
  omega
theorem time_check {r : UInt8} (h : r = 3 ∨ r = 5) {l : Lbl} (hl : lblIn l) (hd : l.2.2.2.2 = false) : q106 fuelH (r, l) = some (if l.2.2.2.1 < nomOf r then 0 else 2) := by
 obtain ⟨e1, e2, e3, _, _⟩ := lab_facts h
 obtain ⟨h1, h2, h3, h4⟩ := hl
 unfold q106
 simp only
 rw [hd, e1, bnd_some', cnd_f (ine_f rfl), cnd_f (ilt_f (by omega)), cnd_f (ilt_f (by omega)), cnd_f (ilt_f (by omega)), cnd_f (ilt_f (by omega)), cnd_f (ilt_f (by omega)), cnd_f (ilt_f (by omega)), cnd_f (ilt_f (by omega)), e2, bnd_some', cnd_ile]
 by_cases h5 : l.2.2.2.1 < nomOf r
 ·rw [if_neg (by omega), if_pos h5, e3, bnd_some', cnd_f (ilt_f (by omega))]
  exact cnd_same (cnd_same rfl rfl) rfl
 ·rw [if_pos (by omega), if_neg h5]
theorem time_frame {r : UInt8} (h : r = 3 ∨ r = 5) {l : Lbl} (hl : lblIn l) (hd : l.2.2.2.2 = false) : q128 fuelH (r, l) = some (frmS (nomOf r) l) := by
 obtain ⟨e1, e2, e3, _, _⟩ := lab_facts h
 obtain ⟨v1, v2, v3⟩ := val_w (nom_or r) hl
 unfold q128 frmS
 simp only
 rw [time_check h hl hd, bnd_some']
 by_cases h5 : l.2.2.2.1 < nomOf r
 ·rw [if_pos h5, if_pos h5, cnd_f (ine_f rfl), e2, bnd_some', hd, e3, bnd_some', v1, mul0]
  unfold isub
  rw [w64_id (by omega)]
  simp
 ·rw [if_neg h5, if_neg h5, cnd_t (ine_t (by decide))]
end
end Go.Mo
end

section
/-
  Plain facts: rows that are read are small; a subtitle that is read, both sides.
-/
namespace Go.Mo
open Go Go.W Go.Lib
set_option maxRecDepth 100000
noncomputable section
def chR (row : Row) : Prop := ∀ x ∈ row, (∃ r, inRep r = true ∧ x.1 = enc r) ∧ x.2.2 = []
theorem chR_app {row : Row} {r : Int} {s : Sty} (h : chR row) (hr : inRep r = true) : chR (row ++ [(enc r, s, [])]) := fun x hx => by
 rcases List.mem_append.1 hx with hx | hx
 ·exact h x hx
 ·rw [List.mem_singleton.1 hx]; exact ⟨⟨r, hr, rfl⟩, rfl⟩
theorem prs_ch : ∀ (n : Nat) (p : List UInt8) (now : Sty) (row row' : Row), p.length ≤ n → chR row → prs p now row = some row' → chR row'
 | _, [], _, row, row', _, hc, h => by simp only [prs, Option.some.injEq] at h; subst h; exact hc
 | 0, a :: t, _, _, _, h, _, _ => by simp at h
 | n + 1, a :: t, now, row, row', hn, hc, h => by
  simp only [List.length_cons] at hn
  unfold prs at h
  split at h
  ·exact prs_ch n t _ _ _ (by omega) hc h
  ·split at h
   ·rename_i r hr
    exact prs_ch n t _ _ _ (by omega) (chR_app hc (g1_rep hr)) h
   ·split at h
    ·cases h
    ·rename_i b t'
     split at h
     ·cases h
     ·rename_i hg
      simp only [List.length_cons] at hn
      obtain ⟨_, h2⟩ := g2_any a b
      rcases h2 with h2 | ⟨r, h2, h3⟩
      ·rw [h2] at hg; exact absurd rfl hg
      ·rw [h2] at h
       exact prs_ch n t' _ _ _ (by omega) (chR_app hc h3) h
theorem ch_tot : ∀ (row : Row), chR row → tot row ≤ 4 * row.length
 | [], _ => Nat.le_refl _
 | x :: row, h => by
  obtain ⟨⟨r, hr, hx⟩, _⟩ := h x List.mem_cons_self
  have h1 := ch_tot row fun y hy => h y (List.mem_cons_of_mem _ hy)
  have h2 := enc_len4 hr
  rw [← hx] at h2
  simp only [tot, List.length_cons]
  omega
theorem fold_ruby : ∀ (l out : Row), (∀ x ∈ out, x.2.2 = []) → (∀ x ∈ l, x.2.2 = []) → ∀ x ∈ l.foldl snoc out, x.2.2 = []
 | [], out, h, _ => h
 | y :: l, out, h, hl => by
  refine fold_ruby l _ ?_ fun z hz => hl z (List.mem_cons_of_mem _ hz)
  have hy := hl y List.mem_cons_self
  unfold snoc
  split
  ·exact h
  ·split
   ·rename_i p hp
    have e := last_eq hp
    have hin : p ∈ out := by rw [e]; simp
    split
    ·intro x hx
     rcases List.mem_append.1 hx with hx | hx
     ·exact h x (List.dropLast_subset _ hx)
     ·rw [List.mem_singleton.1 hx]; exact h p hin
    ·intro x hx
     rcases List.mem_append.1 hx with hx | hx
     ·exact h x hx
     ·rw [List.mem_singleton.1 hx]; exact hy
   ·intro x hx
    rcases List.mem_append.1 hx with hx | hx
    ·exact h x hx
    ·rw [List.mem_singleton.1 hx]; exact hy
theorem norm_tot (l : Row) : tot (normR l) = tot l := by
 rw [← plainT_len, ← plainT_len]
 unfold normR
 rw [fold_plain]
 rfl
theorem ch_small {row : Row} (h : chR row) (hl : row.length ≤ 1000000) : smallR (normR row) := by
 have h1 := ch_tot row h
 have h2 := norm_tot row
 have h3 := fold_ruby row [] (fun x hx => by cases hx) fun x hx => (h x hx).2
 refine ⟨fun x hx => ?_, by omega⟩
 have h4 := tot_mem hx
 have h5 := h3 x hx
 exact ⟨by omega, by rw [h5]; simp⟩
def rowsS (t : List UInt8) : List Row × Int := thenS (prs (spl t).1 plainS []) (spl t).2 []
theorem runSeg_small : ∀ (segs : List (List UInt8)) (out : List Row), (∀ s ∈ segs, s.length ≤ 1000000) → smallL out → smallL (runSeg segs out).1
 | [], out, _, ho => ho
 | s :: segs, out, hs, ho => by
  simp only [runSeg]
  cases hp : prs s plainS [] with
  | none => exact fun r hr => by cases hr
  | some row =>
   have h1 := prs_len _ s _ _ _ (Nat.le_refl _) hp
   have h3 := hs s List.mem_cons_self
   simp only [List.length_nil] at h1
   have hc := prs_ch _ s plainS [] row (Nat.le_refl _) (fun x hx => by cases hx) hp
   refine runSeg_small segs _ (fun t ht => hs t (List.mem_cons_of_mem _ ht)) fun r hr => ?_
   rcases List.mem_append.1 hr with hr | hr
   ·exact ho r hr
   ·rw [List.mem_singleton.1 hr]; exact ch_small hc (by omega)
theorem rows_small {t : List UInt8} (ht : t.length ≤ 100000) : smallL (rowsS t).1 := by
 obtain ⟨h1, h2, h3⟩ := spl_len t
 unfold rowsS
 rw [thenS_eq]
 refine runSeg_small _ _ (fun s hs => ?_) fun r hr => by cases hr
 rcases List.mem_cons.1 hs with rfl | hs
 ·omega
 ·have := h3 s hs; omega
theorem itI3_len (n : Nat) : ∀ (l : List Blk) (i : Nat) (a : List UInt8) (o : Jn) (l0 : Blk), (∀ b ∈ l, b.2.2.2.2.2.2.2.2.2.length ≤ 112) → itI (jR3 n) (fun a => some (setB l0 255 [], a, 0)) i l a = some o → o.2.2 ≠ 0 ∨ (o.1 = setB l0 255 [] ∧ o.2.2 = 0 ∧ o.2.1.length ≤ a.length + 112 * l.length)
 | [], i, a, o, l0, _, h => by
  simp only [itI, Option.some.injEq] at h
  subst h
  exact .inr ⟨rfl, rfl, by simp⟩
 | b :: l, i, a, o, l0, ht, h => by
  simp only [itI, jR3] at h
  have hb := ht b List.mem_cons_self
  by_cases hf : frmBad n i b
  ·rw [if_pos hf] at h
   injection h with h
   subst h
   exact .inl (by decide)
  ·rw [if_neg hf] at h
   rcases itI3_len n l (i + 1) _ o l0 (fun c hc => ht c (List.mem_cons_of_mem _ hc)) h with h | ⟨h1, h2, h3⟩
   ·exact .inl h
   ·refine .inr ⟨h1, h2, ?_⟩
    rw [List.length_append] at h3
    simp only [List.length_cons]
    omega
theorem itI_end {α σ R : Type} {f : Nat → α → σ → Option R ⊕ σ} {e : σ → Option R} (P : R → Prop) (hf : ∀ i x a r, f i x a = .inl r → ∃ v, r = some v ∧ P v) (he : ∀ a, ∃ v, e a = some v ∧ P v) : ∀ (l : List α) (i : Nat) (a : σ), ∃ v, itI f e i l a = some v ∧ P v
 | [], _, a => he a
 | x :: l, i, a => by
  simp only [itI]
  cases hx : f i x a with
  | inl r => exact hf i x a r hx
  | inr a' => exact itI_end P hf he l (i + 1) a'
theorem join_any {l : List Blk} (ht : ∀ b ∈ l, b.2.2.2.2.2.2.2.2.2.length ≤ 112) : ∃ o, joinS l = some o ∧ (o.2.2 ≠ 0 ∨ ∃ l0 ∈ l, o.1 = setB l0 255 [] ∧ o.2.2 = 0 ∧ o.2.1.length ≤ 112 * l.length) := by
 cases l with
 | nil => exact ⟨_, rfl, .inl (by decide)⟩
 | cons l0 l =>
  rw [joinS_cons]
  have h3 : ∃ v, itI (jR3 (l.length + 1)) (fun a => some (setB l0 255 [], a, 0)) 0 (l0 :: l) [] = some v := by
   obtain ⟨v, h, _⟩ := itI_end (fun _ => True) (f := jR3 (l.length + 1)) (e := fun a => some (setB l0 255 [], a, 0)) (fun i x a r h => by
    unfold jR3 at h
    split at h
    ·injection h with h; exact ⟨_, h.symm, trivial⟩
    ·cases h) (fun a => ⟨_, rfl, trivial⟩) (l0 :: l) 0 []
   exact ⟨v, h⟩
  obtain ⟨v, hv⟩ := h3
  have hP := itI3_len _ _ _ _ v l0 ht hv
  have P : v.2.2 ≠ 0 ∨ ∃ l1 ∈ l0 :: l, v.1 = setB l1 255 [] ∧ v.2.2 = 0 ∧ v.2.1.length ≤ 112 * (l0 :: l).length := by
   rcases hP with h | ⟨h1, h2, h3⟩
   ·exact .inl h
   ·exact .inr ⟨l0, List.mem_cons_self, h1, h2, by simpa using h3⟩
  rw [hv]
  refine itI_end (fun o : Jn => o.2.2 ≠ 0 ∨ ∃ l1 ∈ l0 :: l, o.1 = setB l1 255 [] ∧ o.2.2 = 0 ∧ o.2.1.length ≤ 112 * (l0 :: l).length) (fun i x a r h => ?_) (fun a => ?_) (l0 :: l) 0 ()
  ·unfold jR1 at h
   split at h
   ·rename_i hc
    injection h with h
    exact ⟨_, h.symm, .inl hc⟩
   ·cases h
  ·refine itI_end (fun o : Jn => o.2.2 ≠ 0 ∨ ∃ l1 ∈ l0 :: l, o.1 = setB l1 255 [] ∧ o.2.2 = 0 ∧ o.2.1.length ≤ 112 * (l0 :: l).length) (fun i x a r h => ?_) (fun a => ⟨v, rfl, P⟩) (l0 :: l) 0 ()
   unfold jR2 at h
   split at h
   ·injection h with h; exact ⟨_, h.symm, .inl (by decide)⟩
   ·cases h
end
end Go.Mo
end

section
/-
  Plain facts: a subtitle that is read, both sides.
-/
namespace Go.Mo
open Go Go.W Go.Lib
set_option maxRecDepth 100000
noncomputable section
abbrev St2 := List Reg × List Ev
def evJ (r : UInt8) (n : Nat) (j : Jn) : Ev := (((n + 1 : Nat) : Int), ((frmS (nomOf r) j.1.2.2.2.2.1).1, (frmS (nomOf r) j.1.2.2.2.2.2.1).1), (regOf (j.1.2.2.2.2.2.2.1, j.1.2.2.2.2.2.2.2.1)).1, 1, [], (rowsS j.2.1).1)
def regJ (g : List Reg) (j : Jn) : List Reg := addS g (regOf (j.1.2.2.2.2.2.2.1, j.1.2.2.2.2.2.2.2.1))
def subJ (r : UInt8) (a : St2) (done : Nat) (j : Jn) : Int ⊕ St2 :=
 if j.2.2 ≠ 0 then .inl j.2.2 else if j.1.1 ≠ 0 then .inl 4 else if n8 j.1.2.2.2.1 ≠ 0 then .inl 4 else if j.1.2.1 ≠ (done : Int) then .inl 8 else
 if j.1.2.2.2.2.2.2.2.2.1 = true then .inr a else
 if (frmS (nomOf r) j.1.2.2.2.2.1).2 ≠ 0 then .inl (frmS (nomOf r) j.1.2.2.2.2.1).2 else
 if (frmS (nomOf r) j.1.2.2.2.2.2.1).2 ≠ 0 then .inl (frmS (nomOf r) j.1.2.2.2.2.2.1).2 else
 if (rowsS j.2.1).2 ≠ 0 then .inl (rowsS j.2.1).2 else
 if 16 < (regJ a.1 j).length then .inl 9 else
 if evChk (evJ r a.2.length j) (regJ a.1 j) ≠ 0 then .inl (evChk (evJ r a.2.length j) (regJ a.1 j)) else
 .inr (regJ a.1 j, a.2 ++ [evJ r a.2.length j])
def same1 (t la : List UInt8) (r : UInt8) (done : Nat) (s : Int ⊕ St2) (p : Option (Int × Doc × Int)) : Prop := match s with
 | .inl e => e ≠ 0 ∧ ∃ o, p = some o ∧ o.1 = e
 | .inr a => p = some (0, (t, la, r, false, 0, a.1, a.2, []), ((done + 1 : Nat) : Int))
theorem sub_stl {r : UInt8} (hr : r = 3 ∨ r = 5) (t la : List UInt8) {a : St2} {done : Nat} {l : List Blk} (hd : done ≤ 1000) (h1 : a.1.length ≤ 16) (h2 : a.2.length ≤ 300) (h3 : srt a.1) (hl : l.length ≤ 300) (hb : ∀ b ∈ l, BlkOk b) :
  ∃ j, joinS l = some j ∧ same1 t la r done (subJ r a done j) (q130 fuelH (((t, la, r, false, 0, a.1, a.2, []), (done : Int)), l)) := by
 have ht : ∀ b ∈ l, b.2.2.2.2.2.2.2.2.2.length ≤ 112 := fun b hbm => (hb b hbm).txt
 obtain ⟨j, hj, hjP⟩ := join_any ht
 refine ⟨j, hj, ?_⟩
 have ej1 : q127 fuelH l = some j := (tape_join (by omega) ht).trans hj
 unfold q130 subJ
 simp only
 rw [ej1, bnd_some']
 have e0 : n8 (0 : UInt8) = 0 := rfl
 rw [e0]
 by_cases c0 : j.2.2 ≠ 0
 ·rw [if_pos c0, cnd_t (ine_t c0)]
  exact ⟨c0, _, rfl, rfl⟩
 rw [if_neg c0, cnd_f (ine_f (show j.2.2 = 0 by simpa using c0))]
 rcases hjP with hjP | ⟨l0, hl0, hj1, _, hjt⟩
 ·exact absurd hjP c0
 have hB := hb l0 hl0
 by_cases c1 : j.1.1 ≠ 0
 ·rw [if_pos c1, cnd_t (ine_t c1)]
  exact ⟨by decide, _, rfl, rfl⟩
 rw [if_neg c1, cnd_f (ine_f (show j.1.1 = 0 by simpa using c1))]
 by_cases c2 : n8 j.1.2.2.2.1 ≠ 0
 ·rw [if_pos c2, cnd_t (ine_t c2)]
  exact ⟨by decide, _, rfl, rfl⟩
 rw [if_neg c2, cnd_f (ine_f (show n8 j.1.2.2.2.1 = 0 by simpa using c2))]
 by_cases c3 : j.1.2.1 ≠ (done : Int)
 ·rw [if_pos c3, cnd_t (ine_t c3)]
  exact ⟨by decide, _, rfl, rfl⟩
 rw [if_neg c3, cnd_f (ine_f (show j.1.2.1 = (done : Int) by simpa using c3))]
 have hdn : w64 (iadd (done : Int) (1 : Int)) = ((done + 1 : Nat) : Int) := w64_succ (show done < done + 1 by omega) (by omega)
 rw [hdn]
 by_cases c4 : j.1.2.2.2.2.2.2.2.2.1 = true
 ·rw [if_pos c4, cnd_t c4]
  exact rfl
 rw [if_neg c4, cnd_f (show j.1.2.2.2.2.2.2.2.2.1 = false by simpa using c4)]
 have k1 : j.1.2.2.2.2.1 = l0.2.2.2.2.1 := by rw [hj1]; rfl
 have k2 : j.1.2.2.2.2.2.1 = l0.2.2.2.2.2.1 := by rw [hj1]; rfl
 have k3 : j.1.2.2.2.2.2.2.1 = l0.2.2.2.2.2.2.1 := by rw [hj1]; rfl
 have k4 : j.1.2.2.2.2.2.2.2.1 = l0.2.2.2.2.2.2.2.1 := by rw [hj1]; rfl
 have hp : 0 ≤ j.1.2.2.2.2.2.2.1 ∧ j.1.2.2.2.2.2.2.1 ≤ 14 ∧ 1 ≤ n8 j.1.2.2.2.2.2.2.2.1 ∧ n8 j.1.2.2.2.2.2.2.2.1 ≤ 3 := by
  rw [k3, k4]; exact ⟨hB.row.1, hB.row.2, hB.al.1, hB.al.2⟩
 have f1 := time_frame hr (l := j.1.2.2.2.2.1) (by rw [k1]; exact hB.ain) (by rw [k1]; exact hB.d1)
 have f2 := time_frame hr (l := j.1.2.2.2.2.2.1) (by rw [k2]; exact hB.aout) (by rw [k2]; exact hB.d2)
 have s1 : stl_Rows fuelH j.2.1 = some (rowsS j.2.1) := stl_rows (by omega)
 have hsm := rows_small (t := j.2.1) (by omega)
 have q1 := regOf_stl (p := (j.1.2.2.2.2.2.2.1, j.1.2.2.2.2.2.2.2.1)) hp
 have hadd := addS_len a.1 (regOf (j.1.2.2.2.2.2.2.1, j.1.2.2.2.2.2.2.2.1))
 have w1 : stl_add fuelH (a.1, regOf (j.1.2.2.2.2.2.2.1, j.1.2.2.2.2.2.2.2.1)) = some (regJ a.1 j) := stl_add_eq _ (by omega)
 have hlen : (regJ a.1 j).length ≤ a.1.length + 1 := hadd
 have hn : w64 (iadd (len a.2) (1 : Int)) = ((a.2.length + 1 : Nat) : Int) := w64_succ (show a.2.length < a.2.length + 1 by omega) (by omega)
 rw [q1, bnd_some', f1, bnd_some']
 by_cases c5 : (frmS (nomOf r) j.1.2.2.2.2.1).2 ≠ 0
 ·rw [if_pos c5, cnd_t (ine_t c5)]
  exact ⟨c5, _, rfl, rfl⟩
 rw [if_neg c5, cnd_f (ine_f (show (frmS (nomOf r) j.1.2.2.2.2.1).2 = 0 by simpa using c5)), f2, bnd_some']
 by_cases c6 : (frmS (nomOf r) j.1.2.2.2.2.2.1).2 ≠ 0
 ·rw [if_pos c6, cnd_t (ine_t c6)]
  exact ⟨c6, _, rfl, rfl⟩
 rw [if_neg c6, cnd_f (ine_f (show (frmS (nomOf r) j.1.2.2.2.2.2.1).2 = 0 by simpa using c6)), s1, bnd_some']
 by_cases c7 : (rowsS j.2.1).2 ≠ 0
 ·rw [if_pos c7, cnd_t (ine_t c7)]
  exact ⟨c7, _, rfl, rfl⟩
 rw [if_neg c7, cnd_f (ine_f (show (rowsS j.2.1).2 = 0 by simpa using c7)), w1, bnd_some', cnd_f (show ile (400 : Int) (len a.2) = false from ile_f (by simp only [len]; omega)), hn]
 by_cases c8 : 16 < (regJ a.1 j).length
 ·rw [if_pos c8, cnd_t (show ilt (16 : Int) (len (regJ a.1 j)) = true from ilt_t (by simp only [len]; omega))]
  exact ⟨by decide, _, rfl, rfl⟩
 rw [if_neg c8, cnd_f (show ilt (16 : Int) (len (regJ a.1 j)) = false from ilt_f (by simp only [len]; omega))]
 have v1 : q59 fuelH (evJ r a.2.length j, regJ a.1 j) = some (evChk (evJ r a.2.length j) (regJ a.1 j)) := event_check_eq hsm (by omega)
 unfold evJ at v1
 unfold evJ
 rw [v1, bnd_some']
 generalize hE : ((((a.2.length + 1 : Nat) : Int), ((frmS (nomOf r) j.1.2.2.2.2.1).1, (frmS (nomOf r) j.1.2.2.2.2.2.1).1), (regOf (j.1.2.2.2.2.2.2.1, j.1.2.2.2.2.2.2.2.1)).1, 1, [], (rowsS j.2.1).1) : Ev) = E at *
 by_cases c9 : evChk E (regJ a.1 j) ≠ 0
 ·rw [if_pos c9, cnd_t (ine_t c9)]
  exact ⟨c9, _, rfl, rfl⟩
 have hroom : room (iadd (len a.2) (len ([E] : List Ev))) 88 = true := room_t (by simp only [iadd, len, List.length_singleton]; omega)
 rw [if_neg c9, cnd_f (ine_f (show evChk E (regJ a.1 j) = 0 by simpa using c9)), grd_t hroom]
 rfl
end
end Go.Mo
end

section
/-
  Plain facts: the subtitles of a file, one after the other, both sides.
-/
namespace Go.Mo
open Go Go.W Go.Lib
set_option maxRecDepth 100000
noncomputable section
def segL (L : List Blk) (f k : Nat) : List Blk := (L.take (k + 1)).drop f
def endB (L : List Blk) (k : Nat) : Prop := k + 1 = L.length ∨ n8 (lget L k bz).2.2.1 = n8 (255 : UInt8)
instance (L : List Blk) (k : Nat) : Decidable (endB L k) := by unfold endB; infer_instance
def decS (L : List Blk) (r : UInt8) : Nat → Nat → Nat → St2 → Nat → (Nat × Int) ⊕ (St2 × Nat)
 | 0, _, _, a, d => .inr (a, d)
 | m + 1, f, k, a, d => if endB L k then (match joinS (segL L f k) with
   | none => .inr (a, d)
   | some j => match subJ r a d j with
    | .inl e => .inl (f, e)
    | .inr a' => decS L r m (k + 1) (k + 1) a' (d + 1))
  else decS L r m f (k + 1) a d
def goodL (L : List Blk) : Prop := L.length ≤ 300 ∧ ∀ b ∈ L, BlkOk b
def InvD (r : UInt8) (a : St2) (d : Nat) : Prop := a.1.length ≤ 16 ∧ a.2.length ≤ d ∧ srt a.1 ∧ allR a.1 ∧ (∀ x ∈ a.2, evChk x a.1 = 0 ∧ x.2.1.2 < dayOf r ∧ x.2.2.1 ≠ [] ∧ smallL x.2.2.2.2.2) ∧ ∀ i (h : i < a.2.length), a.2[i].1 = ((i + 1 : Nat) : Int)
theorem InvD_0 (r : UInt8) : InvD r ([], []) 0 := ⟨by simp, by simp, List.Pairwise.nil, fun x hx => (by cases hx), fun x hx => (by cases hx), fun i h => absurd h (by simp)⟩
def goodJ (j : Jn) : Prop := j.2.2 ≠ 0 ∨ (okP (j.1.2.2.2.2.2.2.1, j.1.2.2.2.2.2.2.2.1) ∧ lblIn j.1.2.2.2.2.2.1 ∧ j.2.1.length ≤ 33600)
theorem find_keep {L : List Reg} (hL : allR L) (p : Int × UInt8) (hp : okP p) (n : List UInt8) {r : Reg} (h : findR L n = some r) : findR (addS L (regOf p)) n = some r := by
 by_cases hn : n = []
 ·unfold findR at h ⊢
  rw [if_pos hn] at h ⊢
  exact h
 ·unfold findR at h
  rw [if_neg hn] at h
  have h1 := List.find?_some h
  have h2 := List.mem_of_find?_eq_some h
  obtain ⟨q, hq, rfl⟩ := hL r h2
  have h1 : (regOf q).1 = n := by simpa using h1
  rw [← h1]
  exact find_regOf (addS_all hL hp) hq (addS_keep L (regOf p) _ h2)
theorem chk_keep {L : List Reg} (hL : allR L) (p : Int × UInt8) (hp : okP p) {x : Ev} (h : evChk x L = 0) : evChk x (addS L (regOf p)) = 0 := by
 obtain ⟨_, _, _, _, _, _, r, hf, _⟩ := ev_ok h
 have hk := find_keep hL p hp _ hf
 unfold evChk at h ⊢
 rw [hf] at h
 rw [hk]
 exact h
theorem val_day {r : UInt8} {l : Lbl} (hl : lblIn l) (h : (frmS (nomOf r) l).2 = 0) : (frmS (nomOf r) l).1 < dayOf r := by
 unfold frmS at h ⊢
 split at h
 ·rename_i hc
  rw [if_pos hc]
  obtain ⟨h1, h2, h3, h4⟩ := hl
  unfold valL dayOf nomOf at *
  simp only
  split
  ·rename_i hr; rw [if_pos hr] at hc; omega
  ·rename_i hr; rw [if_neg hr] at hc; omega
 ·cases h
theorem sub_inv {r : UInt8} {a a' : St2} {d : Nat} {j : Jn} (h : InvD r a d) (hg : goodJ j) (hs : subJ r a d j = .inr a') : InvD r a' (d + 1) := by
 obtain ⟨h1, h2, h3, h4, h5, h6⟩ := h
 unfold subJ at hs
 split at hs
 ·cases hs
 rename_i c0
 have hg := hg.resolve_left c0
 split at hs
 ·cases hs
 split at hs
 ·cases hs
 split at hs
 ·cases hs
 split at hs
 ·injection hs with hs; subst hs; exact ⟨h1, by omega, h3, h4, h5, h6⟩
 split at hs
 ·cases hs
 split at hs
 ·cases hs
 rename_i c6
 split at hs
 ·cases hs
 split at hs
 ·cases hs
 rename_i c8
 split at hs
 ·cases hs
 rename_i c9
 injection hs with hs
 subst hs
 refine ⟨by show (regJ a.1 j).length ≤ 16; omega, by simp only [List.length_append, List.length_singleton]; omega, srt_add _ _ h3, addS_all h4 hg.1, fun x hx => ?_, fun i hi => ?_⟩
 ·rcases List.mem_append.1 hx with hx | hx
  ·exact ⟨chk_keep h4 _ hg.1 (h5 x hx).1, (h5 x hx).2⟩
  ·rw [List.mem_singleton.1 hx]
   exact ⟨by simpa using c9, val_day hg.2.1 (by simpa using c6), by show (regOf _).1 ≠ []; unfold regOf; simp, rows_small (by have := hg.2.2; omega)⟩
 ·simp only [List.length_append, List.length_singleton] at hi
  by_cases hi2 : i < a.2.length
  ·rw [List.getElem_append_left hi2]; exact h6 i hi2
  ·rw [List.getElem_append_right (by omega)]
   have : i = a.2.length := by omega
   subst this
   simp [evJ]
theorem seg_mem {L : List Blk} {f k : Nat} : ∀ b ∈ segL L f k, b ∈ L := fun _ hb => List.mem_of_mem_take (List.mem_of_mem_drop hb)
theorem seg_len (L : List Blk) (f k : Nat) : (segL L f k).length ≤ L.length := by
 unfold segL
 rw [List.length_drop, List.length_take]
 omega
theorem seg_join {L : List Blk} (hL : goodL L) (f k : Nat) : ∃ j, joinS (segL L f k) = some j ∧ goodJ j := by
 obtain ⟨j, hj, hp⟩ := join_any (l := segL L f k) fun b hb => (hL.2 b (seg_mem b hb)).txt
 refine ⟨j, hj, ?_⟩
 rcases hp with hp | ⟨l0, hl0, e, _, ht⟩
 ·exact .inl hp
 ·have hB := hL.2 l0 (seg_mem l0 hl0)
  refine .inr ?_
  have h1 := seg_len L f k
  have h2 := hL.1
  rw [e]
  exact ⟨⟨hB.row.1, hB.row.2, hB.al.1, hB.al.2⟩, hB.aout, by omega⟩
def outD {R : Type} (E : Nat → Int → Option R) (K : St2 → Nat → Option R) : (Nat × Int) ⊕ (St2 × Nat) → Option R
 | .inl (f, e) => E f e
 | .inr (a, d) => K a d
theorem dec_prog {V R : Type} {F : (V → Option R) → V → Option R} {L : List Blk} {r : UInt8} (hL : goodL L) (st : Nat → St2 → Nat → V) (E : Nat → Int → Option R) (K : St2 → Nat → Option R)
  (hstep : ∀ self f a d, f < L.length → d ≤ f → InvD r a d → ∃ Fi : (Int → Option R) → Int → Option R, F self (st f a d) = fixN Fi fuelH (f : Int) ∧
   (∀ s (k : Nat), k < L.length → ¬ endB L k → Fi s (k : Int) = s ((k + 1 : Nat) : Int)) ∧
   (∀ s (k : Nat) j, f ≤ k → k < L.length → endB L k → joinS (segL L f k) = some j → Fi s (k : Int) = match subJ r a d j with
    | .inl e => E f e
    | .inr a' => self (st (k + 1) a' (d + 1))))
  (hfin : ∀ self a d, d ≤ L.length → InvD r a d → F self (st L.length a d) = K a d) :
  ∀ (fuel f : Nat) (a : St2) (d : Nat), f ≤ L.length → L.length - f < fuel → d ≤ f → InvD r a d → fixN F fuel (st f a d) = outD E K (decS L r (L.length - f) f f a d)
 | 0, f, a, d, _, h, _, _ => by omega
 | fuel + 1, f, a, d, hf, h, hdf, hI => by
  rw [fixN_s]
  by_cases hl : f < L.length
  ·obtain ⟨Fi, h1, h2, h3⟩ := hstep (fixN F fuel) f a d hl hdf hI
   rw [h1]
   have inner : ∀ (m k fu : Nat), k + m = L.length → f ≤ k → m < fu → 0 < m → fixN Fi fu (k : Int) = outD E K (decS L r m f k a d) := by
    intro m
    induction m with
    | zero => intro k fu _ _ _ h; omega
    | succ m ih =>
     intro k fu hk hfk hfu _
     obtain ⟨fu, rfl⟩ : ∃ n, fu = n + 1 := ⟨fu - 1, by omega⟩
     rw [fixN_s]
     simp only [decS]
     by_cases he : endB L k
     ·rw [if_pos he]
      obtain ⟨j, hj, hg⟩ := seg_join hL f k
      rw [h3 _ k j hfk (by omega) he hj, hj]
      simp only
      cases hs : subJ r a d j with
      | inl e => rfl
      | inr a' =>
       have := dec_prog hL st E K hstep hfin fuel (k + 1) a' (d + 1) (by omega) (by omega) (by omega) (sub_inv hI hg hs)
       have e : L.length - (k + 1) = m := by omega
       rw [e] at this
       exact this
     ·rw [if_neg he, h2 _ k (by omega) he]
      have hne : ¬ k + 1 = L.length := fun h => he (.inl h)
      exact ih (k + 1) fu (by omega) (by omega) (by omega) (by omega)
   exact inner (L.length - f) f fuelH (by omega) (Nat.le_refl _) (by have := fuelH_eq; have := hL.1; omega) (by omega)
  ·obtain rfl : f = L.length := by omega
   rw [hfin _ _ _ (by omega) hI, Nat.sub_self]
   rfl
end
end Go.Mo
end

section
/-
  Plain facts: events in document order, both sides.
-/
namespace Go.Mo
open Go Go.W Go.Lib
set_option maxRecDepth 100000
noncomputable section
def evz : Ev := ((0 : Int), (((0 : Int), (0 : Int)), ([], ((0 : UInt8), ([], [])))))
def kS (x : Ev) (out : List Ev) : Nat → Nat
 | 0 => 0
 | k + 1 => if lessE x (lget out k evz) then kS x out k else k + 1
def insE (out : List Ev) (x : Ev) : List Ev := out.take (kS x out out.length) ++ x :: out.drop (kS x out out.length)
def sortE (l : List Ev) : List Ev := l.foldl insE []
theorem kS_le (x : Ev) (out : List Ev) : ∀ k, kS x out k ≤ k
 | 0 => Nat.le_refl _
 | k + 1 => by
  simp only [kS]
  split
  ·have := kS_le x out k; omega
  ·exact Nat.le_refl _
theorem insE_len (out : List Ev) (x : Ev) : (insE out x).length = out.length + 1 := by
 have := kS_le x out out.length
 unfold insE
 rw [List.length_append, List.length_cons, List.length_take, List.length_drop]
 omega
theorem sort_len (l : List Ev) : (sortE l).length = l.length := by
 have : ∀ (l out : List Ev), (l.foldl insE out).length = out.length + l.length := by
  intro l
  induction l with
  | nil => intro out; rfl
  | cons x l ih => intro out; rw [List.foldl_cons, ih, insE_len, List.length_cons]; omega
 have := this l []
 simpa [sortE] using this
theorem sort_mem {l : List Ev} {x : Ev} (h : x ∈ sortE l) : x ∈ l := by
 have : ∀ (l out : List Ev), x ∈ l.foldl insE out → x ∈ out ∨ x ∈ l := by
  intro l
  induction l with
  | nil => intro out h; exact .inl h
  | cons y l ih =>
   intro out h
   rw [List.foldl_cons] at h
   rcases ih _ h with h | h
   ·unfold insE at h
    rcases List.mem_append.1 h with h | h
    ·exact .inl (List.mem_of_mem_take h)
    ·rcases List.mem_cons.1 h with rfl | h
     ·exact .inr List.mem_cons_self
     ·exact .inl (List.mem_of_mem_drop h)
   ·exact .inr (List.mem_cons_of_mem _ h)
 rcases this l [] h with h | h
 ·cases h
 ·exact h
theorem sort_take (l : List Ev) (i : Nat) (h : i < l.length) : sortE (l.take (i + 1)) = insE (sortE (l.take i)) l[i] := by
 unfold sortE
 rw [List.take_succ_eq_append_getElem h, List.foldl_append]
 rfl
def tinyE (x : Ev) : Prop := x.2.2.2.2.2.length ≤ 1000000 ∧ ∀ r ∈ x.2.2.2.2.2, r.length ≤ 1000000
theorem clone_run {l : Row} (h : l.length ≤ 4000000) : q134 fuelH l = some l := by
 have h1 : grd (room (iadd (len ([] : Row)) (len l)) 40) (some (lapp ([] : Row) l)) = some l := by
  rw [grd_t (room_t (by simp only [iadd, len, List.length_nil]; omega))]; rfl
 unfold q134
 cases l with
 | nil =>
  rw [cnd_f (by rfl)]
  exact univ_of rfl h1
 | cons r l =>
  rw [cnd_t (ine_t (by simp only [len, List.length_cons]; omega))]
  exact h1
theorem style_clone {l : List Row} (hl : l.length ≤ 1000000) (h : ∀ r ∈ l, r.length ≤ 1000000) : q135 fuelH l = some l := by
 unfold q135
 rw [clone_rows (by omega), bnd_some', jn_e]
 refine loop_inv (n := l.length) (fun (a : List Row) (i : Nat) => ((i : Int), a)) (fun _ a => a = l) _ (fun self a i hi hI => ?_) (fun self a hI => ?_) fuelH 0 l (Nat.zero_le _) (by have := fuelH_eq; omega) rfl
 ·subst hI
  have hin : inb (i : Int) (len a) = true := inb_t (by simp only [len]; omega)
  have hr := h _ (List.getElem_mem hi)
  refine ⟨a, ?_, rfl⟩
  have ht : toN (i : Int) = i := by simp [toN]
  simp only
  rw [cnd_t (ilt_t (by simp only [len]; omega)), grd_t hin, lget_i hi, clone_run (by omega), bnd_some', grd_t hin, w64_succ hi (by omega), ht]
  unfold lset
  rw [List.set_getElem_self]
 ·simp only
  rw [cnd_f (ilt_f (by simp only [len]; omega)), hI]
theorem event_clone {x : Ev} (h : tinyE x) : q136 fuelH x = some x := by
 unfold q136
 rw [style_clone h.1 h.2]
 rfl
theorem evz_eq : ((0 : Int), (((0 : Int), (0 : Int)), ([], ((0 : UInt8), ([], []))))) = evz := rfl
end
end Go.Mo
end

section
/-
  Plain facts: the program's sorting of few events.
-/
namespace Go.Mo
open Go Go.W Go.Lib
set_option maxRecDepth 100000
noncomputable section
theorem sort_cmp (a b : Ev) : ∃ v, q137 fuelH (a, b) = some v ∧ (v < 0 ↔ lessE a b) := by
 unfold q137
 simp only
 rw [cmp_eq, bnd_some', cmp_eq, bnd_some', or_eq, bnd_some']
 refine ⟨_, rfl, ?_⟩
 unfold lessE
 by_cases h1 : a.2.1.1 < b.2.1.1
 ·rw [if_pos h1, if_pos (by decide)]
  exact ⟨fun _ => .inl h1, fun _ => by decide⟩
 ·rw [if_neg h1]
  by_cases h2 : b.2.1.1 < a.2.1.1
  ·rw [if_pos h2, if_pos (by decide)]
   exact ⟨fun h => by omega, fun h => by omega⟩
  ·rw [if_neg h2, if_neg (by decide)]
   by_cases h3 : a.1 < b.1
   ·rw [if_pos h3]
    exact ⟨fun _ => .inr ⟨by omega, h3⟩, fun _ => by decide⟩
   ·rw [if_neg h3]
    split
    ·exact ⟨fun h => by omega, fun h => by omega⟩
    ·exact ⟨fun h => by omega, fun h => by omega⟩
theorem move_in {P rest : List Ev} {x : Ev} (hP : P.length + rest.length ≤ 1000) (K : List Ev → Option (List Ev)) (F : (Int × List Ev → Option (List Ev)) → Int × List Ev → Option (List Ev))
  (hz : ∀ s D, F s ((0 : Int), D) = K D)
  (hs : ∀ s (k : Nat) (D : List Ev), k + 1 < D.length → D.length ≤ 1001 → F s (((k + 1 : Nat) : Int), D) = if lessE (lget D (k + 1) evz) (lget D k evz) then s ((k : Int), (D.set (k + 1) (lget D k evz)).set k (lget D (k + 1) evz)) else K D) :
  ∀ (fuel k : Nat), k < fuel → k ≤ P.length → fixN F fuel ((k : Int), P.take k ++ x :: P.drop k ++ rest) = K (P.take (kS x P k) ++ x :: P.drop (kS x P k) ++ rest)
 | 0, k, h, _ => by omega
 | fuel + 1, 0, _, _ => by rw [fixN_s, show ((0 : Nat) : Int) = 0 from rfl, hz]; rfl
 | fuel + 1, k + 1, h, hk => by
  have hl : (P.take (k + 1)).length = k + 1 := by rw [List.length_take]; omega
  have hD : (P.take (k + 1) ++ x :: P.drop (k + 1) ++ rest).length = P.length + 1 + rest.length := by
   rw [List.length_append, List.length_append, List.length_cons, hl, List.length_drop]; omega
  have hk' : k < P.length := by omega
  have et : P.take (k + 1) = P.take k ++ [P[k]] := List.take_succ_eq_append_getElem hk'
  have hlk : (P.take k).length = k := by rw [List.length_take]; omega
  have eD : P.take (k + 1) ++ x :: P.drop (k + 1) ++ rest = P.take k ++ (P[k] :: x :: (P.drop (k + 1) ++ rest)) := by
   rw [et]
   simp only [List.append_assoc, List.singleton_append, List.cons_append, List.nil_append]
  have g1 : lget (P.take (k + 1) ++ x :: P.drop (k + 1) ++ rest) (k + 1) evz = x := by
   rw [eD]
   unfold lget
   rw [List.getD_eq_getElem?_getD, List.getElem?_append_right (by omega), hlk, show k + 1 - k = 1 by omega]
   rfl
  have g0 : lget (P.take (k + 1) ++ x :: P.drop (k + 1) ++ rest) k evz = P[k] := by
   rw [eD]
   unfold lget
   rw [List.getD_eq_getElem?_getD, List.getElem?_append_right (by omega), hlk, Nat.sub_self]
   rfl
  have g2 : lget P k evz = P[k] := by
   unfold lget
   rw [List.getD_eq_getElem?_getD, List.getElem?_eq_getElem hk']
   rfl
  rw [fixN_s, hs _ k _ (by omega) (by omega), g1, g0]
  simp only [kS]
  rw [g2]
  by_cases hc : lessE x P[k]
  ·rw [if_pos hc, if_pos hc]
   have e2 : ((P.take (k + 1) ++ x :: P.drop (k + 1) ++ rest).set (k + 1) P[k]).set k x = P.take k ++ x :: P.drop k ++ rest := by
    rw [eD, List.set_append_right _ _ (by omega), hlk, show k + 1 - k = 1 by omega, List.set_append_right _ _ (by omega), hlk, Nat.sub_self]
    show P.take k ++ (x :: P[k] :: (P.drop (k + 1) ++ rest)) = _
    rw [List.drop_eq_getElem_cons hk']
    simp only [List.append_assoc, List.cons_append]
   rw [e2]
   exact move_in hP K F hz hs fuel k (by omega) (by omega)
  ·rw [if_neg hc, if_neg hc]
theorem ins_sort {l : List Ev} (hl : l.length ≤ 1000) : q138 fuelH (l, (0 : Int), len l) = some (sortE l) := by
 unfold q138
 simp only
 have h1 : w64 (iadd (0 : Int) (1 : Int)) = ((1 : Nat) : Int) := rfl
 rw [h1]
 by_cases h0 : l.length = 0
 ·have : l = [] := List.eq_nil_of_length_eq_zero h0
  subst this
  have := fuelH_eq
  obtain ⟨n, hn⟩ : ∃ n, fuelH = n + 1 := ⟨fuelH - 1, by omega⟩
  rw [hn, fixN_s]
  rfl
 refine loop_inv (n := l.length) (fun (a : List Ev) (i : Nat) => ((i : Int), a)) (fun i a => a = sortE (l.take i) ++ l.drop i) _ (fun self a i hi hI => ?_) (fun self a hI => ?_) fuelH 1 l (by omega) (by have := fuelH_eq; omega) ?_
 ·refine ⟨sortE (l.take (i + 1)) ++ l.drop (i + 1), ?_, rfl⟩
  have hPl : (sortE (l.take i)).length = i := by rw [sort_len, List.length_take]; omega
  have ha : a = (sortE (l.take i)).take i ++ l[i] :: (sortE (l.take i)).drop i ++ l.drop (i + 1) := by
   have e1 : (sortE (l.take i)).take i = sortE (l.take i) := List.take_of_length_le (by omega)
   have e2 : (sortE (l.take i)).drop i = [] := List.drop_eq_nil_of_le (by omega)
   rw [hI, e1, e2, List.drop_eq_getElem_cons hi]
   simp only [List.append_assoc, List.singleton_append, List.cons_append, List.nil_append]
  simp only
  rw [cnd_t (ilt_t (by simp only [len]; omega)), jn_e, ha]
  refine (move_in (P := sortE (l.take i)) (rest := l.drop (i + 1)) (x := l[i]) (by rw [hPl, List.length_drop]; omega) (fun D => self (((i + 1 : Nat) : Int), D)) _ (fun s D => ?_) (fun s k D hk hD => ?_) fuelH i (by have := fuelH_eq; omega) (by omega)).trans ?_
  ·rw [cnd_f (ilt_f (by show ¬ (0 : Int) < 0; omega)), w64_succ hi (by omega)]
  ·obtain ⟨v, hv, hv2⟩ := sort_cmp (lget D (k + 1) evz) (lget D k evz)
   have i1 : inb ((k + 1 : Nat) : Int) (len D) = true := inb_t (by simp only [len]; omega)
   have i0 : inb (k : Int) (len D) = true := inb_t (by simp only [len]; omega)
   have t1 : ∀ n : Nat, toN (n : Int) = n := fun n => by simp [toN]
   have hset : ∀ y, (lset D (k + 1) y).length = D.length := fun y => List.length_set
   have i2 : ∀ y, inb (k : Int) (len (lset D (k + 1) y)) = true := fun y => inb_t (by simp only [len, hset]; omega)
   simp only
   rw [cnd_t (ilt_t (by omega)), grd_t i1, w64_back (by omega), grd_t i0, t1, t1, evz_eq, hv, bnd_some', cnd_ilt]
   by_cases hc : lessE (lget D (k + 1) evz) (lget D k evz)
   ·rw [if_pos hc, if_pos (hv2.2 hc), grd_t i0, grd_t i1, grd_t i1, grd_t (i2 _)]
    rfl
   ·rw [if_neg hc, if_neg fun h => hc (hv2.1 h), w64_succ hi (by omega)]
  ·rw [sort_take l i hi]
   unfold insE
   rw [hPl]
 ·simp only
  rw [cnd_f (ilt_f (by simp only [len]; omega)), hI, List.take_length, List.drop_length, List.append_nil]
 ·cases l with
  | nil => exact absurd rfl h0
  | cons x l => rfl
theorem prog_sort {l : List Ev} (hl : l.length ≤ 19) (h : ∀ x ∈ l, tinyE x) : q144 fuelH l = some (sortE l) := by
 have hs : q143 fuelH l = some (sortE l) := by
  unfold q143 q142
  simp only
  obtain ⟨n, hn⟩ : ∃ n, fuelH = n + 1 := ⟨fuelH - 1, by have := fuelH_eq; omega⟩
  have e1 := ins_sort (l := l) (by omega)
  have step : ∀ (F : (Int × Int × List Ev → Option (List Ev)) → Int × Int × List Ev → Option (List Ev)) (s : Int × Int × List Ev) (R : Option (List Ev)), (∀ self, F self s = R) → fixN F fuelH s = R := fun F s R h => by rw [hn, fixN_s, h]
  have step2 : ∀ (F : (Int × List Ev → Option (List Ev)) → Int × List Ev → Option (List Ev)) (s : Int × List Ev) (R : Option (List Ev)), (∀ self, F self s = R) → fixN F fuelH s = R := fun F s R h => by rw [hn, fixN_s, h]
  rw [jn_e, step _ _ (some (sortE l)) fun self => by
   simp only
   rw [cnd_f (ile_f (by simp only [len]; omega)), e1, bnd_some']
   refine step2 _ _ _ fun self => ?_
   simp only
   rw [cnd_f (ilt_f (by simp only [len]; omega))]]
  rfl
 unfold q144
 rw [jn_e]
 refine loop_inv (n := l.length) (fun (a : List Ev) (i : Nat) => (a, (i : Int))) (fun i a => a = l.take i) _ (fun self a i hi hI => ?_) (fun self a hI => ?_) fuelH 0 [] (Nat.zero_le _) (by have := fuelH_eq; omega) rfl
 ·have ha : a.length ≤ i := by rw [hI, List.length_take]; omega
  refine ⟨a ++ [l[i]], ?_, by rw [hI, List.take_succ_eq_append_getElem hi]⟩
  simp only
  rw [cnd_t (ilt_t (by simp only [len]; omega)), grd_t (inb_t (by simp only [len]; omega)), lget_i hi, event_clone (h _ (List.getElem_mem hi)), bnd_some', grd_t (room_t (by simp only [iadd, len, List.length_singleton]; omega)), w64_succ hi (by omega)]
  rfl
 ·simp only
  rw [cnd_f (ilt_f (by simp only [len]; omega)), hI, List.take_length, hs]
  rfl
end
end Go.Mo
end

section
/-
  Plain facts: a file that is read, both sides; StlDecodes returns true.
-/
namespace Go.Mo
open Go Go.W Go.Lib
set_option maxRecDepth 100000
noncomputable section
def badH (h : Hdr) (d : Nat) : Prop := h.2.2.2.2.1 ≠ (d : Int) ∨ h.2.2.2.2.2.1 ≠ noL ∨ h.2.2.2.2.2.2.2.1 ≠ 15 ∨ h.2.2.2.2.2.2.2.2 ≠ 32
instance (h : Hdr) (d : Nat) : Decidable (badH h d) := by unfold badH; infer_instance
def decE (f : Nat) (e : Int) : Option (Doc × Int × Int) := some (noD, ((f + 1 : Nat) : Int), e)
def decK (h : Hdr) (a : St2) (d : Nat) : Option (Doc × Int × Int) := if badH h d then some (noD, 0, 1) else some ((h.2.2.1, h.2.1, h.1, false, (a.2.length : Int), a.1, sortE a.2, []), 0, 0)
theorem lab_zero {r : UInt8} (h : r = 3 ∨ r = 5) : q132 fuelH (r, false, 0) = some (noL, 0) := by
 rcases h with rfl | rfl
 ·kernel_rfl
 ·kernel_rfl
theorem lbl_dec (l : Lbl) : (band (ieq l.1 (0 : Int)) (band (ieq l.2.1 (0 : Int)) (band (ieq l.2.2.1 (0 : Int)) (band (ieq l.2.2.2.1 (0 : Int)) (beqb l.2.2.2.2 false))))) = decide (l = noL) := by
 rw [Bool.eq_iff_iff]
 simp only [band_tt, ieq_tt, beqb_t, decide_eq_true_eq]
 obtain ⟨a, b, c, d, e⟩ := l
 unfold noL
 simp
theorem fin_eq (h : Hdr) (a : St2) (d : Nat) (S : Option (List Ev)) (hS : h.2.2.2.2.1 = (d : Int) → S = some (sortE a.2)) (X : List Ev → Doc) (hX : X (sortE a.2) = (h.2.2.1, h.2.1, h.1, false, (a.2.length : Int), a.1, sortE a.2, [])) :
  cnd (ine h.2.2.2.2.1 (d : Int)) (some (noD, (0 : Int), (1 : Int))) (cnd (bnot (band (ieq h.2.2.2.2.2.1.1 (0 : Int)) (band (ieq h.2.2.2.2.2.1.2.1 (0 : Int)) (band (ieq h.2.2.2.2.2.1.2.2.1 (0 : Int)) (band (ieq h.2.2.2.2.2.1.2.2.2.1 (0 : Int)) (beqb h.2.2.2.2.2.1.2.2.2.2 false))))))
   (some (noD, (0 : Int), (1 : Int))) (cnd (ine h.2.2.2.2.2.2.2.1 (15 : Int)) (some (noD, (0 : Int), (1 : Int))) (cnd (ine h.2.2.2.2.2.2.2.2 (32 : Int)) (some (noD, (0 : Int), (1 : Int)))
   (bnd S fun v3 => some (X v3, (0 : Int), (0 : Int)))))) = decK h a d := by
 unfold decK
 rw [lbl_dec]
 by_cases c1 : h.2.2.2.2.1 ≠ (d : Int)
 ·rw [cnd_t (ine_t c1), if_pos (show badH h d from Or.inl c1)]
 rw [cnd_f (ine_f (by simpa using c1)), cnd_bnot]
 by_cases c2 : h.2.2.2.2.2.1 = noL
 ·rw [if_pos c2]
  by_cases c3 : h.2.2.2.2.2.2.2.1 ≠ 15
  ·rw [cnd_t (ine_t c3), if_pos (show badH h d from Or.inr (Or.inr (Or.inl c3)))]
  rw [cnd_f (ine_f (by simpa using c3))]
  by_cases c4 : h.2.2.2.2.2.2.2.2 ≠ 32
  ·rw [cnd_t (ine_t c4), if_pos (show badH h d from Or.inr (Or.inr (Or.inr c4)))]
  rw [cnd_f (ine_f (by simpa using c4)), hS (by simpa using c1), bnd_some', hX, if_neg (show ¬ badH h d from ?_)]
  unfold badH
  rintro (k | k | k | k)
  ·exact c1 k
  ·exact k c2
  ·exact c3 k
  ·exact c4 k
 ·rw [if_neg c2, if_pos (show badH h d from Or.inr (Or.inl c2))]
theorem inv_tiny {r : UInt8} {a : St2} {d : Nat} (h : InvD r a d) : ∀ x ∈ a.2, tinyE x := fun x hx => by
 obtain ⟨_, _, _, h4, h5, h6, _⟩ := ev_ok (h.2.2.2.2.1 x hx).1
 refine ⟨by omega, fun q hq => ?_⟩
 have := (rowChk_ok (rowE_zero (h6 q hq)).1).1
 omega
theorem seg_cut {L : List Blk} (f k : Nat) : ldrop (toN (f : Int)) (ltake (toN ((k + 1 : Nat) : Int)) L) = segL L f k := by
 have t1 : ∀ n : Nat, toN (n : Int) = n := fun n => by simp [toN]
 rw [t1, t1]
 rfl
theorem stl_decode {x : List UInt8} {h : Hdr} {L : List Blk} (hread : q125 fuelH x = some (h, L, 0, 0)) (hr : h.1 = 3 ∨ h.1 = 5) (hL : goodL L) (hS : ∀ d : Nat, (d : Int) = h.2.2.2.2.1 → d ≤ L.length → d ≤ 19) :
  q145 fuelH x = outD decE (decK h) (decS L h.1 L.length 0 0 ([], []) 0) := by
 have hn := hL.1
 unfold q145
 rw [hread, bnd_some', cnd_f (ine_f rfl), jn_e]
 refine (dec_prog (R := Doc × Int × Int) hL (fun f a d => (L, (f : Int), ((h.2.2.1, h.2.1, h.1, false, (0 : Int), a.1, a.2, []), (d : Int)))) decE (decK h) (fun self f a d hf hdf hI => ?_) (fun self a d hd hI => ?_) fuelH 0 ([], []) 0 (Nat.zero_le _) (by have := fuelH_eq; omega) (Nat.le_refl _) (InvD_0 _)).trans (by rw [Nat.sub_zero])
 ·simp only
  have hlt : ilt (f : Int) (len L) = true := ilt_t (by simp only [len]; omega)
  rw [cnd_t hlt, jn_e]
  refine ⟨_, rfl, fun s k hk he => ?_, fun s k j hfk hk he hj => ?_⟩
  ·have h1 : ¬ k + 1 = L.length := fun e => he (.inl e)
   have h2 : n8 (lget L k bz).2.2.1 ≠ n8 (255 : UInt8) := fun e => he (.inr e)
   have ht : toN (k : Int) = k := by simp [toN]
   have hw : w64 (isub (len L) (1 : Int)) = ((L.length - 1 : Nat) : Int) := w64_pred (by omega) (by omega)
   rw [hw, cnd_t (ilt_t (by omega)), grd_t (inb_t (by simp only [len]; omega)), w64_succ hk (by omega), ht]
   exact cnd_t (ine_t h2)
  ·have ht : toN (k : Int) = k := by simp [toN]
   have hw : w64 (isub (len L) (1 : Int)) = ((L.length - 1 : Nat) : Int) := w64_pred (by omega) (by omega)
   obtain ⟨q1, q2, q3, _⟩ := hI
   obtain ⟨j', hj', hsame⟩ := sub_stl hr h.2.2.1 h.2.1 (a := a) (done := d) (l := segL L f k) (by omega) q1 (by omega) q3 (by have := seg_len L f k; omega) (fun b hb => hL.2 b (seg_mem b hb))
   rw [hj] at hj'
   injection hj' with hj'
   subst hj'
   have body : ∀ X : Option (Doc × Int × Int), X = (grd (in3 (f : Int) (w64 (iadd (k : Int) (1 : Int))) (len L)) <|
      bnd (q130 fuelH (((h.2.2.1, h.2.1, h.1, false, (0 : Int), a.1, a.2, []), (d : Int)), ldrop (toN (f : Int)) (ltake (toN (w64 (iadd (k : Int) (1 : Int)))) L))) fun v8 =>
      cnd (ine v8.1 (0 : Int)) (some (noD, w64 (iadd (f : Int) (1 : Int)), v8.1)) (self (L, w64 (iadd (k : Int) (1 : Int)), v8.2))) →
     X = match subJ h.1 a d j with
      | .inl e => decE f e
      | .inr a' => self (L, ((k + 1 : Nat) : Int), ((h.2.2.1, h.2.1, h.1, false, (0 : Int), a'.1, a'.2, []), ((d + 1 : Nat) : Int))) := fun X hX => by
    rw [hX, w64_succ hk (by omega), grd_t (in3_t (by simp only [len]; omega)), seg_cut, w64_succ hf (by omega)]
    cases hs : subJ h.1 a d j with
    | inl e =>
     rw [hs] at hsame
     obtain ⟨e0, o, p1, p2⟩ := hsame
     rw [p1, bnd_some', cnd_t (ine_t (by rw [p2]; exact e0)), p2]
     rfl
    | inr a' =>
     rw [hs] at hsame
     rw [show q130 fuelH _ = _ from hsame, bnd_some', cnd_f (ine_f rfl)]
   refine body _ ?_
   rcases he with he | he
   ·rw [hw, cnd_f (ilt_f (by omega))]
    rfl
   ·rw [hw, ht]
    by_cases hkl : k < L.length - 1
    ·rw [cnd_t (ilt_t (by omega)), grd_t (inb_t (by simp only [len]; omega))]
     exact cnd_f (ine_f he)
    ·rw [cnd_f (ilt_f (by omega))]
     rfl
 ·simp only
  rw [cnd_f (ilt_f (by simp only [len]; omega)), lab_zero hr, bnd_some']
  refine fin_eq h a d _ (fun e => prog_sort (by have := hS d e.symm hd; have := hI.2.1; omega) (inv_tiny hI)) (fun v3 => (h.2.2.1, h.2.1, h.1, false, len v3, a.1, v3, [])) ?_
  simp only [len, sort_len]
theorem dec_inv {L : List Blk} {r : UInt8} (hr : r = 3 ∨ r = 5) (hL : goodL L) : ∀ (m f k : Nat) (a : St2) (d : Nat), k + m = L.length → f ≤ k → d ≤ f → InvD r a d → (∃ f' e, decS L r m f k a d = .inl (f', e) ∧ e ≠ 0) ∨ ∃ a' d', decS L r m f k a d = .inr (a', d') ∧ InvD r a' d' ∧ d' ≤ L.length
 | 0, f, k, a, d, hk, hfk, hdf, hI => .inr ⟨a, d, rfl, hI, by omega⟩
 | m + 1, f, k, a, d, hk, hfk, hdf, hI => by
  simp only [decS]
  by_cases he : endB L k
  ·rw [if_pos he]
   obtain ⟨j, hj, hg⟩ := seg_join hL f k
   rw [hj]
   simp only
   cases hs : subJ r a d j with
   | inl e =>
    refine .inl ⟨f, e, rfl, ?_⟩
    obtain ⟨q1, q2, q3, _⟩ := hI
    have hn := hL.1
    obtain ⟨j', hj', hsame⟩ := sub_stl hr [] [] (a := a) (done := d) (l := segL L f k) (by omega) q1 (by omega) q3 (by have := seg_len L f k; omega) (fun b hb => hL.2 b (seg_mem b hb))
    rw [hj] at hj'
    injection hj' with hj'
    subst hj'
    rw [hs] at hsame
    exact hsame.1
   | inr a' => exact dec_inv hr hL m (k + 1) (k + 1) a' (d + 1) (by omega) (Nat.le_refl _) (by omega) (sub_inv hI hg hs)
  ·rw [if_neg he]
   exact dec_inv hr hL m f (k + 1) a d (by omega) (by omega) hdf hI
def goodO (o : Doc × Int × Int) : Prop := (o.2.2 ≠ 0 ∧ o.1 = noD) ∨ ∃ (h : Hdr) (a : St2) (d : Nat), o = ((h.2.2.1, h.2.1, h.1, false, (a.2.length : Int), a.1, sortE a.2, []), 0, 0) ∧ HdrOk h ∧ InvD h.1 a d ∧ d ≤ 300
theorem dec_good {L : List Blk} {h : Hdr} (hL : goodL L) (H : HdrOk h) : ∃ o, outD decE (decK h) (decS L h.1 L.length 0 0 ([], []) 0) = some o ∧ goodO o := by
 rcases dec_inv (r := h.1) H.rate hL L.length 0 0 ([], []) 0 (Nat.zero_add _) (Nat.le_refl _) (Nat.le_refl _) (InvD_0 _) with ⟨f, e, he, h0⟩ | ⟨a, d, he, hI, hd⟩
 ·rw [he]; exact ⟨_, rfl, .inl ⟨h0, rfl⟩⟩
 ·rw [he]
  show ∃ o, decK h a d = some o ∧ _
  unfold decK
  by_cases hb : badH h d
  ·rw [if_pos hb]; exact ⟨_, rfl, .inl ⟨by decide, rfl⟩⟩
  ·rw [if_neg hb]; exact ⟨_, rfl, .inr ⟨h, a, d, rfl, H, hI, by have := hL.1; omega⟩⟩
theorem flat_len3 : ∀ l : List Blk, (∀ b ∈ l, BlkOk b ∧ tape_Put fuelH b = some (bby b, 0)) → (l.flatMap bby).length = 128 * l.length := flat_len2
theorem decode_stl {x : List UInt8} (hx : x.length ≤ 2000) : ∃ o, q145 fuelH x = some o ∧ goodO o := by
 obtain ⟨v, h1, _, h3⟩ := read_ok (x := x) (by omega)
 rcases h3 with ⟨q1, q2, q3⟩ | ⟨h, L, e, H, _, _, q4, q5, q6⟩
 ·refine ⟨(noD, v.2.2.1, v.2.2.2), ?_, .inl ⟨q1, rfl⟩⟩
  unfold q145
  rw [h1, bnd_some', cnd_t (ine_t q1)]
  rfl
 ·subst e
  have hl := flat_len3 L q5
  have hlen : L.length ≤ 7 := by
   have := congrArg List.length q6
   rw [List.length_append, hby_len H, hl] at this
   omega
  have hL : goodL L := ⟨by omega, fun b hb => (q5 b hb).1⟩
  obtain ⟨o, p1, p2⟩ := dec_good hL H
  exact ⟨o, (stl_decode h1 H.rate hL (fun d _ hd => by omega)).trans p1, p2⟩
end
end Go.Mo
end

section
/-
  Plain facts: what is read is a valid document that the form carries; StlValid returns true.
-/
namespace Go.Mo
open Go Go.W Go.Lib
set_option maxRecDepth 100000
noncomputable section
theorem less_tr {a b c : Ev} (h1 : lessE a b) (h2 : lessE b c) : lessE a c := by unfold lessE at *; omega
theorem less_tot {a b : Ev} (h : a.1 ≠ b.1) (h1 : ¬ lessE a b) : lessE b a := by unfold lessE at *; omega
theorem kS_spec (x : Ev) (out : List Ev) : ∀ m, (∀ i, kS x out m ≤ i → i < m → lessE x (lget out i evz)) ∧ (0 < kS x out m → ¬ lessE x (lget out (kS x out m - 1) evz))
 | 0 => ⟨fun i _ h => by omega, fun h => by simp [kS] at h⟩
 | m + 1 => by
  simp only [kS]
  obtain ⟨h1, h2⟩ := kS_spec x out m
  by_cases hc : lessE x (lget out m evz)
  ·rw [if_pos hc]
   refine ⟨fun i hi him => ?_, h2⟩
   by_cases e : i = m
   ·subst e; exact hc
   ·exact h1 i hi (by omega)
  ·rw [if_neg hc]
   exact ⟨fun i hi him => by omega, fun _ => by simpa using hc⟩
theorem lget_at {l : List Ev} {i : Nat} (h : i < l.length) : lget l i evz = l[i] := by
 unfold lget
 rw [List.getD_eq_getElem?_getD, List.getElem?_eq_getElem h]
 rfl
theorem ins_sorted {out : List Ev} {x : Ev} (h : out.Pairwise lessE) (hx : ∀ y ∈ out, y.1 ≠ x.1) : (insE out x).Pairwise lessE := by
 have hk := kS_le x out out.length
 obtain ⟨s1, s2⟩ := kS_spec x out out.length
 unfold insE
 generalize kS x out out.length = k at hk s1 s2 ⊢
 have hp := List.pairwise_iff_getElem.1 h
 have hlt : ∀ y ∈ out.take k, lessE y x := fun y hy => by
  obtain ⟨i, hi, rfl⟩ := List.mem_iff_getElem.1 hy
  rw [List.length_take] at hi
  rw [List.getElem_take]
  have h2 := s2 (by omega)
  rw [lget_at (by omega)] at h2
  have h3 : lessE out[k - 1] x := less_tot (fun e => hx _ (List.getElem_mem (by omega)) e.symm) h2
  by_cases e : i = k - 1
  ·subst e; exact h3
  ·exact less_tr (hp i (k - 1) (by omega) (by omega) (by omega)) h3
 have hgt : ∀ y ∈ out.drop k, lessE x y := fun y hy => by
  obtain ⟨i, hi, rfl⟩ := List.mem_iff_getElem.1 hy
  rw [List.length_drop] at hi
  rw [List.getElem_drop]
  have := s1 (k + i) (by omega) (by omega)
  rwa [lget_at (by omega)] at this
 refine List.pairwise_append.2 ⟨h.sublist (List.take_sublist k out), List.pairwise_cons.2 ⟨hgt, h.sublist (List.drop_sublist k out)⟩, fun y hy z hz => ?_⟩
 rcases List.mem_cons.1 hz with rfl | hz
 ·exact hlt y hy
 ·exact less_tr (hlt y hy) (hgt z hz)
theorem sort_sorted {l : List Ev} (h : ∀ i (h : i < l.length), l[i].1 = ((i + 1 : Nat) : Int)) : (sortE l).Pairwise lessE := by
 have key : ∀ n, n ≤ l.length → (sortE (l.take n)).Pairwise lessE := by
  intro n
  induction n with
  | zero => intro _; exact List.Pairwise.nil
  | succ n ih =>
   intro hn
   rw [sort_take l n (by omega)]
   refine ins_sorted (ih (by omega)) fun y hy => ?_
   have hy := sort_mem hy
   obtain ⟨i, hi, rfl⟩ := List.mem_iff_getElem.1 hy
   rw [List.length_take] at hi
   rw [List.getElem_take, h i (by omega), h n (by omega)]
   omega
 have := key l.length (Nat.le_refl _)
 rwa [List.take_length] at this
theorem srt_sub : ∀ (g A : List Reg), srt g → srt A → (∀ x ∈ A, x ∈ g) → A.length ≤ g.length
 | [], A, _, _, h => by
  cases A with
  | nil => exact Nat.le_refl _
  | cons z A => cases h z List.mem_cons_self
 | y :: g, A, hg, hA, h => by
  have hg' := List.pairwise_cons.1 hg
  cases A with
  | nil => exact Nat.zero_le _
  | cons z A =>
   have hA' := List.pairwise_cons.1 hA
   by_cases hz : z = y
   ·have := srt_sub g A hg'.2 hA'.2 fun w hw => by
     rcases List.mem_cons.1 (h w (List.mem_cons_of_mem _ hw)) with e | e
     ·have := hA'.1 w hw
      rw [e, hz, slt_irr] at this
      cases this
     ·exact e
    simp only [List.length_cons]
    omega
   ·have hzg : z ∈ g := (List.mem_cons.1 (h z List.mem_cons_self)).resolve_left hz
    have := srt_sub g (z :: A) hg'.2 hA fun w hw => by
     rcases List.mem_cons.1 hw with rfl | hw'
     ·exact hzg
     ·rcases List.mem_cons.1 (h w hw) with e | e
      ·have h1 := hA'.1 w hw'
       have h2 := hg'.1 z hzg
       rw [e] at h1
       rw [slt_asym h2] at h1
       cases h1
      ·exact e
    simp only [List.length_cons] at this ⊢
    omega
theorem place_mem {g : List Reg} (hg : allR g) {x : Ev} (hc : evChk x g = 0) (hn : x.2.2.1 ≠ []) : regOf (placeE x g) ∈ g := by
 obtain ⟨_, _, _, _, _, _, r, hf, _⟩ := ev_ok hc
 have hm : r ∈ g := by
  unfold findR at hf
  rw [if_neg hn] at hf
  exact List.mem_of_find?_eq_some hf
 obtain ⟨p, hp, rfl⟩ := hg r hm
 have : placeE x g = p := by
  unfold placeE
  rw [hf]
  show (topOf (regOf p) _, (regOf p).2.2.2.2.2.1) = _
  unfold topOf
  rw [if_neg (by unfold regOf; simp)]
  rfl
 rw [this]
 exact hm
theorem acc_all {g : List Reg} {day : Int} (hg : srt g) (h16 : g.length ≤ 16) : ∀ (l : List Ev) (i : Nat) (A : List Reg), (∀ x ∈ l, x.2.1.2 < day ∧ regOf (placeE x g) ∈ g) → srt A → (∀ x ∈ A, x ∈ g) → itI (acceptRnd g day) (fun _ => some ((-1 : Int), (0 : Int))) i l A = some (-1, 0)
 | [], _, _, _, _, _ => rfl
 | x :: l, i, A, h, hA, hs => by
  obtain ⟨h1, h2⟩ := h x List.mem_cons_self
  have hA2 := srt_add A (regOf (placeE x g)) hA
  have hs2 : ∀ y ∈ addS A (regOf (placeE x g)), y ∈ g := fun y hy => by
   rcases mem_addS _ _ _ hy with hy | rfl
   ·exact hs y hy
   ·exact h2
  have := srt_sub g _ hg hA2 hs2
  simp only [itI, acceptRnd]
  rw [if_neg (by omega), if_neg (by omega)]
  exact acc_all hg h16 l (i + 1) _ (fun y hy => h y (List.mem_cons_of_mem _ hy)) hA2 hs2
def docO (h : Hdr) (a : St2) : Doc := (h.2.2.1, h.2.1, h.1, false, (a.2.length : Int), a.1, sortE a.2, [])
theorem rate_ok {r : UInt8} (h : r = 3 ∨ r = 5) : ¬ rateBad r false := by
 unfold rateBad
 rintro (k | k)
 ·rcases h with rfl | rfl
  ·revert k; decide
  ·revert k; decide
 ·cases k.1
theorem doc_valid {h : Hdr} {a : St2} {d : Nat} (H : HdrOk h) (hI : InvD h.1 a d) (hd : d ≤ 300) : smallD (docO h a) ∧ docChk (docO h a) = 0 ∧ acceptS (docO h a) = some (-1, 0) := by
 obtain ⟨i1, i2, i3, i4, i5, i6⟩ := hI
 have hS := sort_sorted i6
 have hsl := sort_len a.2
 have hmem : ∀ x ∈ sortE a.2, evChk x a.1 = 0 ∧ x.2.1.2 < dayOf h.1 ∧ x.2.2.1 ≠ [] ∧ smallL x.2.2.2.2.2 := fun x hx => i5 x (sort_mem hx)
 have hid : ∀ x ∈ sortE a.2, x.1 ≤ (a.2.length : Int) := fun x hx => by
  obtain ⟨i, hi, rfl⟩ := List.mem_iff_getElem.1 (sort_mem hx)
  rw [i6 i hi]; omega
 have hs : smallD (docO h a) := ⟨by have := H.ttlL; show h.2.2.1.length ≤ _; omega, by show a.1.length ≤ _; omega, fun x hx => (hmem x hx).2.2.2, fun c hc => by cases hc⟩
 have hh : headChk (docO h a) = 0 := by
  unfold headChk
  show (if vld h.2.2.1 = false then (10 : Int) else if 400 < h.2.2.1.length then 9 else if h.2.1 ≠ [] ∧ nm h.2.1 = false then 5 else if rateBad h.1 false then 13 else if (a.2.length : Int) < 0 then 2 else if 1099511627776 < (a.2.length : Int) then 2 else 0) = 0
  rw [if_neg (by rw [H.ttl]; simp), if_neg (by have := H.ttlL; omega), if_neg (by
   rintro ⟨k1, k2⟩
   rcases H.lang with e | e
   ·exact k1 e
   ·rw [e] at k2; cases k2), if_neg (rate_ok H.rate), if_neg (by omega), if_neg (by omega)]
 have hr : regsChk a.1 = 0 := by
  unfold regsChk
  rw [if_neg (by omega)]
  refine chkRegs_of _ _ (fun r hr => ?_) i3 fun q hq => by cases hq
  obtain ⟨p, hp, rfl⟩ := i4 r hr
  exact regOf_chk hp
 have he : evsChk (docO h a) = 0 := by
  unfold evsChk docO
  simp only
  refine errL_of _ _ fun j hj => ?_
  have hx := List.getElem_mem hj
  have hp := List.pairwise_iff_getElem.1 hS
  rw [List.nil_append]
  unfold evRnd
  rw [if_neg (by rw [(hmem _ hx).1]; simp), if_neg (by have := hid _ hx; omega)]
  have ho : ordB ((sortE a.2).take j).getLast? (sortE a.2)[j] = true := by
   cases j with
   | zero => rfl
   | succ k =>
    rw [last_take (show k < (sortE a.2).length by omega)]
    exact decide_eq_true (hp k (k + 1) (by omega) hj (by omega))
  rw [ho, if_neg (by simp), if_neg]
  rintro ⟨y, hy, e⟩
  obtain ⟨k, hk, rfl⟩ := List.mem_iff_getElem.1 hy
  rw [List.length_take] at hk
  rw [List.getElem_take] at e
  -- two events of one number are one
  obtain ⟨m, hm, e1⟩ := List.mem_iff_getElem.1 (sort_mem (List.getElem_mem (show k < (sortE a.2).length by omega)))
  obtain ⟨n, hn, e2⟩ := List.mem_iff_getElem.1 (sort_mem hx)
  have q1 := i6 m hm
  have q2 := i6 n hn
  rw [e1] at q1
  rw [e2] at q2
  have : m = n := by rw [e] at q1; rw [q2] at q1; omega
  subst this
  have hl := hp k j (by omega) hj (by omega)
  rw [← e1, ← e2] at hl
  unfold lessE at hl
  omega
 have hc : docChk (docO h a) = 0 := by
  unfold docChk
  rw [if_neg (by rw [hh]; simp)]
  show (if regsChk a.1 ≠ 0 then regsChk a.1 else if 400 < (sortE a.2).length then 9 else if evsChk (docO h a) ≠ 0 then evsChk (docO h a) else cmtsChk (docO h a)) = 0
  rw [hr, if_neg (by simp), if_neg (by omega), he, if_neg (by simp)]
  rfl
 refine ⟨hs, hc, ?_⟩
 unfold acceptS
 rw [if_neg (by rw [hc]; simp), if_neg (not_not_intro (show (docO h a).2.2.1 = 3 ∨ (docO h a).2.2.1 = 5 from H.rate))]
 exact acc_all i3 i1 (sortE a.2) 0 [] (fun x hx => ⟨(hmem x hx).2.1, place_mem i4 (hmem x hx).1 (hmem x hx).2.2.1⟩) List.Pairwise.nil fun x hx => by cases hx
theorem noD_self : q155 fuelH (noD, noD) = some true := doc_self (by simp [noD]) (by simp [noD]) (fun x hx => by cases hx) rfl
theorem valid_true (x : List UInt8) : l24_StlValid fuelH x = some true := by
 unfold l24_StlValid
 obtain ⟨e1, e2⟩ := min_take x 2000
 have e1 : ltake (toN (imin (len x) (2000 : Int))) x = x.take 2000 := e1
 have e2 : in2 (imin (len x) (2000 : Int)) (len x) = true := e2
 have hl : (x.take 2000).length ≤ 2000 := by rw [List.length_take]; omega
 obtain ⟨o, h1, h3⟩ := decode_stl hl
 rw [awake24, bnd_some', cnd_f (by rfl), grd_t e2, e1, h1, bnd_some']
 rcases h3 with ⟨k1, k2⟩ | ⟨h, a, d, e, H, hI, hd⟩
 ·rw [cnd_t (ine_t k1), k2]
  exact (congrArg (fun z => bnd z fun v2 => some v2) noD_self)
 ·subst e
  obtain ⟨s1, s2, s3⟩ := doc_valid H hI hd
  unfold docO at s1 s2 s3
  rw [cnd_f (ine_f rfl), stl_accept s1, s3, bnd_some', document_check s1, s2, bnd_some', cnd_t (ieq_t rfl), cnd_t (ieq_t rfl)]
  rfl
end
end Go.Mo
end
