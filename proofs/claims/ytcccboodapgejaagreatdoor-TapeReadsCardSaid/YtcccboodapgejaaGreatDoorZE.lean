/-
  Texts put together, in build order: PQ PR PS PT PU PV.
-/
import Derived.Test.YtcccboodapgejaaGreatDoorZD
set_option linter.all false

section
/-
  Plain facts: the specification's reader of headers; TapeReadsHeaders.
-/
namespace Go.Mo
open Go Go.W Go.Lib
set_option maxRecDepth 100000

/-! ### numbers -/
def numM (c : UInt8) (n : Int) (self : Int → Option Int) : Option Int :=
  cnd (ilt (n8 c) (n8 (48 : UInt8)))
          (some (-1 : Int))
          (cnd (ilt (n8 (57 : UInt8)) (n8 c))
            (some (-1 : Int))
            (self (w64 (iadd (w64 (imul (10 : Int) n)) (w64 (n8 (b8 (isub (n8 c) (n8 (48 : UInt8))))))))))
theorem r23_number_fold {l : List UInt8} (hl : l.length ≤ 4000) : r23_number fuelH l = foldI (fun _ c n self => numM c n self) (fun n => some n) 0 l 0 := by
  unfold r23_number
  rw [jn_e, show ((0 : Int), (0 : Int)) = (fun (n : Int) (p : Nat) => (n, (p : Int))) 0 0 from rfl]
  refine Eq.trans (lst_loop (l := l) (fun (n : Int) (p : Nat) => (n, (p : Int))) (fun _ c n self => numM c n self) (fun n => some n) (fun self a i hi => ?_) (fun self a => ?_) fuelH 0 0 (Nat.zero_le _) (by show _ < 5000; omega)) ?_
  · rw [cnd_t (ilt_t (by simp only [len]; omega)), grd_t (inb_t (by simp only [len]; omega)), lget_i hi, w64_succ hi (by omega)]
    rfl
  · rw [cnd_f (ilt_f (by simp only [len]; omega))]
  · rw [List.drop_zero]
theorem numMK : ∀ (l : List UInt8) (i : Nat) (n : Int), (∀ c ∈ l, 48 ≤ n8 c ∧ n8 c ≤ 57) → foldI (fun _ c n self => numM c n self) (fun n => some n) i l n = foldI (fun _ c n self => numK c n self) (fun n => some n) i l n
  | [], _, _, _ => rfl
  | c :: l, i, n, h => by
    have hc := h c (by simp)
    have h1 : ¬ n8 c < n8 48 := by show ¬ n8 c < 48; omega
    have h2 : ¬ n8 57 < n8 c := by show ¬ 57 < n8 c; omega
    rw [foldI, foldI]
    unfold numM numK
    rw [cnd_f (ilt_f h1), cnd_f (ilt_f h2), cnd_f (ilt_f h1), cnd_f (ilt_f h2)]
    exact numMK l (i + 1) _ fun c hc => h c (by simp [hc])
theorem number_same {l : List UInt8} (hl : l.length ≤ 4000) (h : ∀ c ∈ l, 48 ≤ n8 c ∧ n8 c ≤ 57) : r23_number fuelH l = tape_number fuelH l := by
  rw [r23_number_fold hl, number_fold hl, numMK l 0 0 h]
theorem dg_rng {v : Int} (h : 0 ≤ v) : 48 ≤ n8 (dg v) ∧ n8 (dg v) ≤ 57 := by
  rw [dg_n8 h]
  omega
theorem dv_pos {v : Int} (h : 0 ≤ v ∧ v ≤ 1000000) : 0 ≤ dv v ∧ dv v ≤ 1000000 := by
  rw [dv_eq h]
  omega
theorem r23_num2 {v : Int} (h : 0 ≤ v ∧ v ≤ 99) : r23_number fuelH [dg (dv v), dg v] = some v := by
  have h1 := dv_pos (v := v) (by omega)
  rw [number_same (by simp) ?_, num2 h]
  intro c hc
  simp only [List.mem_cons, List.not_mem_nil, or_false] at hc
  rcases hc with rfl | rfl <;> exact dg_rng (by omega)
theorem r23_num3 {v : Int} (h : 0 ≤ v ∧ v ≤ 999) : r23_number fuelH [dg (dv (dv v)), dg (dv v), dg v] = some v := by
  have h1 := dv_pos (v := v) (by omega)
  have h2 := dv_pos h1
  rw [number_same (by simp) ?_, num3 h]
  intro c hc
  simp only [List.mem_cons, List.not_mem_nil, or_false] at hc
  rcases hc with rfl | rfl | rfl <;> exact dg_rng (by omega)
theorem r23_num5 {v : Int} (h : 0 ≤ v ∧ v ≤ 99999) : r23_number fuelH [dg (dv (dv (dv (dv v)))), dg (dv (dv (dv v))), dg (dv (dv v)), dg (dv v), dg v] = some v := by
  have h1 := dv_pos (v := v) (by omega)
  have h2 := dv_pos h1
  have h3 := dv_pos h2
  have h4 := dv_pos h3
  rw [number_same (by simp) ?_, num5 h]
  intro c hc
  simp only [List.mem_cons, List.not_mem_nil, or_false] at hc
  rcases hc with rfl | rfl | rfl | rfl | rfl <;> exact dg_rng (by omega)
theorem times_back {l : Lbl} (h : lblOk l) (hd : l.2.2.2.2 = false) : r23_times fuelH (clk l) = some l := by
  obtain ⟨⟨a1, a2⟩, ⟨b1, b2⟩, ⟨c1, c2⟩, ⟨d1, d2⟩⟩ := h
  unfold r23_times
  rw [grd_t (by kernel_rfl)]
  have e1 : ltake (toN (2 : Int)) (clk l) = [dg (dv l.1), dg l.1] := rfl
  have e2 : ldrop (toN (2 : Int)) (ltake (toN (4 : Int)) (clk l)) = [dg (dv l.2.1), dg l.2.1] := rfl
  have e3 : ldrop (toN (4 : Int)) (ltake (toN (6 : Int)) (clk l)) = [dg (dv l.2.2.1), dg l.2.2.1] := rfl
  have e4 : ldrop (toN (6 : Int)) (clk l) = [dg (dv l.2.2.2.1), dg l.2.2.2.1] := rfl
  rw [e1, r23_num2 (by omega), bnd_some', grd_t (by kernel_rfl), e2, r23_num2 (by omega), bnd_some', grd_t (by kernel_rfl), e3, r23_num2 (by omega), bnd_some', grd_t (by kernel_rfl), e4, r23_num2 (by omega), bnd_some', ← hd]
theorem numM_any : ∀ (l : List UInt8) (i : Nat) (n : Int), 0 ≤ n → (n + 1) * 10 ^ l.length ≤ 1000000 → ∃ v, foldI (fun _ c n self => numM c n self) (fun n => some n) i l n = some v ∧ -1 ≤ v ∧ v < 1000000
  | [], i, n, h0, h => ⟨n, rfl, by omega, by simp at h; omega⟩
  | c :: l, i, n, h0, h => by
    have hp : (0 : Int) < 10 ^ l.length := Int.pow_pos (by decide)
    rw [List.length_cons, Int.pow_succ] at h
    have hn : n + 1 ≤ 1000000 := by
      have h1 : (n + 1) * 1 ≤ (n + 1) * (10 ^ l.length * 10) := Int.mul_le_mul_of_nonneg_left (by omega) (by omega)
      omega
    rw [foldI]
    have hc := n8_rng c
    by_cases h1 : n8 c < 48
    · refine ⟨-1, ?_, by decide, by decide⟩
      unfold numM
      rw [cnd_t (ilt_t (show n8 c < n8 48 from h1))]
    by_cases h2 : 57 < n8 c
    · refine ⟨-1, ?_, by decide, by decide⟩
      unfold numM
      rw [cnd_f (ilt_f (show ¬ n8 c < n8 48 from h1)), cnd_t (ilt_t (show n8 57 < n8 c from h2))]
    have hstep : ∀ self : Int → Option Int, numM c n self = self (10 * n + (n8 c - 48)) := by
      intro self
      have := num_step (c := c) (d := n8 c - 48) (by omega) (by omega) (n := n) (by omega) self
      unfold numK at this
      unfold numM
      rw [cnd_f (ilt_f (show ¬ n8 c < n8 48 from h1)), cnd_f (ilt_f (show ¬ n8 57 < n8 c from h2))] at this ⊢
      exact this
    rw [hstep]
    refine numM_any l (i + 1) _ (by omega) ?_
    have h3 : (10 * n + (n8 c - 48) + 1) * 10 ^ l.length ≤ ((n + 1) * 10) * 10 ^ l.length := Int.mul_le_mul_of_nonneg_right (by omega) (by omega)
    have h4 : ((n + 1) * 10) * 10 ^ l.length = (n + 1) * (10 ^ l.length * 10) := by rw [Int.mul_assoc, Int.mul_comm 10]
    omega
theorem r23_number_any {l : List UInt8} (h : l.length ≤ 5) : ∃ v, r23_number fuelH l = some v ∧ -1 ≤ v ∧ v < 1000000 := by
  rw [r23_number_fold (by omega)]
  refine numM_any l 0 0 (by decide) ?_
  have : (10 : Int) ^ l.length ≤ 10 ^ 5 := by
    have := Nat.pow_le_pow_right (show 0 < 10 by decide) h
    exact_mod_cast this
  omega
theorem times_any {l : List UInt8} (h : l.length = 8) : ∃ x : Lbl, r23_times fuelH l = some x := by
  unfold r23_times
  have q1 : ∀ (a b : Nat), b ≤ a + 2 → (ldrop (toN (a : Int)) (ltake (toN (b : Int)) l)).length ≤ 5 := fun a b hb => by simp only [ldrop, ltake, toN, List.length_drop, List.length_take, Int.toNat_natCast]; omega
  obtain ⟨v1, h1, _⟩ := r23_number_any (l := ltake (toN (2 : Int)) l) (by simp only [ltake, toN, List.length_take]; omega)
  obtain ⟨v2, h2, _⟩ := r23_number_any (q1 2 4 (by decide))
  obtain ⟨v3, h3, _⟩ := r23_number_any (q1 4 6 (by decide))
  obtain ⟨v4, h4, _⟩ := r23_number_any (l := ldrop (toN (6 : Int)) l) (by simp only [ldrop, toN, List.length_drop]; omega)
  have hL : len l = 8 := by simp only [len]; omega
  rw [hL, grd_t (by kernel_rfl), h1, bnd_some', grd_t (by kernel_rfl)]
  refine ⟨(v1, v2, v3, v4, false), ?_⟩
  refine (bnd_s h2).trans ((grd_t (by kernel_rfl)).trans ((bnd_s h3).trans ((grd_t (by kernel_rfl)).trans ((bnd_s h4).trans rfl))))

/-! ### the reader -/
noncomputable def rgC (x : List UInt8) (v8 : Hdr) : Option (Hdr × Int) :=
            bnd (r23_PutHeader fuelH v8) fun v9 =>
            cnd (ine v9.2 (0 : Int)) (some (hz, (4 : Int)))
              (bnd (r23_equal fuelH (x, v9.1)) fun v10 =>
              cnd (bnot v10) (some (hz, (4 : Int))) (some (v8, (0 : Int))))
noncomputable def rgB (x : List UInt8) (v6 : Hdr) (v7 : Int) : Option (Hdr × Int) :=
          grd (in3 (8 : Int) (w64 (iadd (8 : Int) v7)) (len x)) <|
          grd (in3 (24 : Int) (27 : Int) (len x)) <|
          bnd (r23_number fuelH (ldrop (toN (24 : Int)) (ltake (toN (27 : Int)) x))) fun v12 =>
          cnd (ile (0 : Int) v12)
            (cnd (ile v12 (960 : Int))
              (grd (in3 (64 : Int) (w64 (iadd (64 : Int) v12)) (len x))
                (bnd (r22_Decode fuelH (ldrop (toN (64 : Int)) (ltake (toN (w64 (iadd (64 : Int) v12))) x))) fun v13 =>
                rgC x (v6.1, ldrop (toN (8 : Int)) (ltake (toN (w64 (iadd (8 : Int) v7))) x), v13.1, v6.2.2.2)))
              (rgC x (v6.1, ldrop (toN (8 : Int)) (ltake (toN (w64 (iadd (8 : Int) v7))) x), v6.2.2)))
            (rgC x (v6.1, ldrop (toN (8 : Int)) (ltake (toN (w64 (iadd (8 : Int) v7))) x), v6.2.2))
noncomputable def rgF (x : List UInt8) (v6 : Hdr) : (Int → Option (Hdr × Int)) → Int → Option (Hdr × Int) := fun v15 (v16 : Int) =>
          cnd (ilt (0 : Int) v16)
            (grd (inb (w64 (isub (w64 (iadd (8 : Int) v16)) (1 : Int))) (len x))
              (cnd (ieq (n8 (lget x (toN (w64 (isub (w64 (iadd (8 : Int) v16)) (1 : Int)))) (0 : UInt8))) (n8 (32 : UInt8)))
                (v15 (w64 (isub v16 (1 : Int))))
                (rgB x v6 v16)))
            (rgB x v6 v16)
noncomputable def rgBj (x : List UInt8) (v6 : Hdr) (v7 : Int) : Option (Hdr × Int) :=
          grd (in3 (8 : Int) (w64 (iadd (8 : Int) v7)) (len x)) <|
          jn (fun (v8 : Hdr) => rgC x v8)
          fun v11 =>
          grd (in3 (24 : Int) (27 : Int) (len x)) <|
          bnd (r23_number fuelH (ldrop (toN (24 : Int)) (ltake (toN (27 : Int)) x))) fun v12 =>
          cnd (ile (0 : Int) v12)
            (cnd (ile v12 (960 : Int))
              (grd (in3 (64 : Int) (w64 (iadd (64 : Int) v12)) (len x))
                (bnd (r22_Decode fuelH (ldrop (toN (64 : Int)) (ltake (toN (w64 (iadd (64 : Int) v12))) x))) fun v13 =>
                v11 (v6.1, ldrop (toN (8 : Int)) (ltake (toN (w64 (iadd (8 : Int) v7))) x), v13.1, v6.2.2.2)))
              (v11 (v6.1, ldrop (toN (8 : Int)) (ltake (toN (w64 (iadd (8 : Int) v7))) x), v6.2.2)))
            (v11 (v6.1, ldrop (toN (8 : Int)) (ltake (toN (w64 (iadd (8 : Int) v7))) x), v6.2.2))
theorem rgBj_eq (x : List UInt8) (v6 : Hdr) (v7 : Int) : rgBj x v6 v7 = rgB x v6 v7 := by
  unfold rgBj rgB
  exact congrArg (grd _) jn_e
noncomputable def rgTj (x : List UInt8) (v6 : Hdr) : Option (Hdr × Int) :=
        jn (fun (v7 : Int) => rgBj x v6 v7)
        fun v14 =>
        fixN (fun v15 (v16 : Int) =>
          cnd (ilt (0 : Int) v16)
            (grd (inb (w64 (isub (w64 (iadd (8 : Int) v16)) (1 : Int))) (len x))
              (cnd (ieq (n8 (lget x (toN (w64 (isub (w64 (iadd (8 : Int) v16)) (1 : Int)))) (0 : UInt8))) (n8 (32 : UInt8)))
                (v15 (w64 (isub v16 (1 : Int))))
                (v14 v16)))
            (v14 v16)) fuelH (16 : Int)
theorem rgTj_eq (x : List UInt8) (v6 : Hdr) : rgTj x v6 = fixN (rgF x v6) fuelH (16 : Int) := by
  unfold rgTj
  rw [jn_e]
  refine congrArg (fun F => fixN F fuelH (16 : Int)) ?_
  funext self v
  unfold rgF
  show cnd _ (grd _ (cnd _ _ (rgBj x v6 v))) (rgBj x v6 v) = _
  rw [rgBj_eq]
noncomputable def rgA (x : List UInt8) : Option (Hdr × Int) :=
    grd (in3 (27 : Int) (32 : Int) (len x))
      (bnd (r23_number fuelH (ldrop (toN (27 : Int)) (ltake (toN (32 : Int)) x))) fun v0 =>
      grd (in3 (32 : Int) (37 : Int) (len x)) <|
      bnd (r23_number fuelH (ldrop (toN (32 : Int)) (ltake (toN (37 : Int)) x))) fun v1 =>
      grd (in3 (37 : Int) (45 : Int) (len x)) <|
      bnd (r23_times fuelH (ldrop (toN (37 : Int)) (ltake (toN (45 : Int)) x))) fun v2 =>
      grd (in3 (45 : Int) (53 : Int) (len x)) <|
      bnd (r23_times fuelH (ldrop (toN (45 : Int)) (ltake (toN (53 : Int)) x))) fun v3 =>
      grd (in3 (53 : Int) (55 : Int) (len x)) <|
      bnd (r23_number fuelH (ldrop (toN (53 : Int)) (ltake (toN (55 : Int)) x))) fun v4 =>
      grd (in3 (55 : Int) (57 : Int) (len x)) <|
      bnd (r23_number fuelH (ldrop (toN (55 : Int)) (ltake (toN (57 : Int)) x))) fun v5 =>
      jn (fun (v6 : Hdr) => rgTj x v6)
      fun v17 =>
      grd (inb (3 : Int) (len x)) <|
      cnd (ieq (n8 (lget x (toN (3 : Int)) (0 : UInt8))) (n8 (51 : UInt8)))
        (v17 ((5 : UInt8), ([] : List UInt8), ([] : List UInt8), v0, v1, v2, v3, v4, v5))
        (v17 ((3 : UInt8), ([] : List UInt8), ([] : List UInt8), v0, v1, v2, v3, v4, v5)))
theorem rg_eq (x : List UInt8) : r23_GetHeader fuelH x = cnd (ine (len x) (1024 : Int)) (some (hz, (4 : Int))) (rgA x) := by kernel_rfl
theorem requal_eq (N : Nat) (x y : List UInt8) : r23_equal N (x, y) = some (decide (x = y)) := by
  rw [← seq_dec]
  rfl
theorem rgC_any (x : List UInt8) (v8 : Hdr) (h : v8.2.2.1.length ≤ 4000) : ∃ r, rgC x v8 = some r ∧ Good x r := by
  unfold rgC
  obtain ⟨c, _, _, hp⟩ := put_both h
  rcases hp with ⟨he, _, p1⟩ | ⟨rfl, H, p2, p1⟩
  · rw [p1, bnd_some', cnd_t (ine_t he)]
    exact ⟨_, rfl, .inl rfl⟩
  · rw [p1, bnd_some', cnd_f (ine_f rfl), requal_eq, bnd_some', cnd_bnot]
    split
    · rename_i hx
      exact ⟨_, rfl, .inr ⟨rfl, H, hx, p2, p1⟩⟩
    · exact ⟨_, rfl, .inl rfl⟩
theorem rgB_any {x : List UInt8} (hl : x.length = 1024) (v6 : Hdr) (hv : v6.2.2.1 = []) {k : Int} (hk : 0 ≤ k ∧ k ≤ 16) : ∃ r, rgB x v6 k = some r ∧ Good x r := by
  have i3 : ∀ l u : Int, 0 ≤ l ∧ l ≤ u ∧ u ≤ 1024 → in3 l u (len x) = true := fun l u q => in3_t (by simp only [len]; omega)
  unfold rgB
  have hw : w64 (iadd (8 : Int) k) = 8 + k := w64_id (by simp only [iadd]; omega)
  obtain ⟨v12, h2, h3, h4⟩ := r23_number_any (l := ldrop (toN (24 : Int)) (ltake (toN (27 : Int)) x)) (by simp only [ldrop, ltake, toN, List.length_drop, List.length_take]; omega)
  rw [hw, grd_t (i3 _ _ (by omega)), grd_t (i3 24 27 (by decide)), h2, bnd_some', cnd_ile, cnd_ile]
  have h0 : v6.2.2.1.length ≤ 4000 := by rw [hv]; decide
  split
  · split
    · have hw2 : w64 (iadd (64 : Int) v12) = 64 + v12 := w64_id (by simp only [iadd]; omega)
      rw [hw2, grd_t (i3 _ _ (by omega))]
      obtain ⟨s, e, h5, h6⟩ := r22_decode_any (x := ldrop (toN (64 : Int)) (ltake (toN (64 + v12)) x)) (by simp only [ldrop, ltake, toN, List.length_drop, List.length_take]; omega)
      rw [h5, bnd_some']
      exact rgC_any x _ h6
    · exact rgC_any x _ h0
  · exact rgC_any x _ h0
theorem rgF_any {x : List UInt8} (hl : x.length = 1024) (v6 : Hdr) (hv : v6.2.2.1 = []) : ∀ (fuel k : Nat), k < fuel → k ≤ 16 → ∃ r, fixN (rgF x v6) fuel (k : Int) = some r ∧ Good x r
  | 0, k, h, _ => by omega
  | fuel + 1, k, h, hk => by
    rw [fixN_s]
    unfold rgF
    rw [cnd_ilt]
    split
    · have hw : w64 (isub (w64 (iadd (8 : Int) (k : Int))) (1 : Int)) = 7 + k := by
        simp only [iadd, isub]
        rw [w64_id (x := 8 + (k : Int)) (by omega), w64_id (by omega)]
        omega
      have hw2 : w64 (isub (k : Int) 1) = ((k - 1 : Nat) : Int) := by
        simp only [isub]
        rw [w64_id (by omega)]
        omega
      rw [hw, grd_t (inb_t (by simp only [len]; omega)), cnd_ieq, hw2]
      split
      · exact rgF_any hl v6 hv fuel (k - 1) (by omega) (by omega)
      · exact rgB_any hl v6 hv (by omega)
    · exact rgB_any hl v6 hv (by omega)
theorem rg_any {x : List UInt8} : ∃ r, r23_GetHeader fuelH x = some r ∧ Good x r := by
  rw [rg_eq, cnd_ine]
  by_cases hl : x.length = 1024
  case neg => exact ⟨_, if_pos (by simp only [len]; omega), .inl rfl⟩
  rw [if_neg (by simp only [len]; omega)]
  have i3 : ∀ l u : Int, 0 ≤ l ∧ l ≤ u ∧ u ≤ 1024 → in3 l u (len x) = true := fun l u q => in3_t (by simp only [len]; omega)
  have q : ∀ (a b : Nat), b ≤ a + 5 → (ldrop (toN (a : Int)) (ltake (toN (b : Int)) x)).length ≤ 5 := fun a b hb => by simp only [ldrop, ltake, toN, List.length_drop, List.length_take, Int.toNat_natCast]; omega
  have q8 : ∀ (a : Nat), a ≤ 100 → (ldrop (toN (a : Int)) (ltake (toN ((a + 8 : Nat) : Int)) x)).length = 8 := fun a ha => by simp only [ldrop, ltake, toN, List.length_drop, List.length_take, Int.toNat_natCast]; omega
  obtain ⟨v0, h0, _⟩ := r23_number_any (q 27 32 (by decide))
  obtain ⟨v1, h1, _⟩ := r23_number_any (q 32 37 (by decide))
  obtain ⟨v2, h2⟩ := times_any (q8 37 (by decide))
  obtain ⟨v3, h3⟩ := times_any (q8 45 (by decide))
  obtain ⟨v4, h4, _⟩ := r23_number_any (q 53 55 (by decide))
  obtain ⟨v5, h5, _⟩ := r23_number_any (q 55 57 (by decide))
  have e : rgA x = cnd (ieq (n8 (lget x (toN (3 : Int)) (0 : UInt8))) (n8 (51 : UInt8))) (fixN (rgF x ((5 : UInt8), [], [], v0, v1, v2, v3, v4, v5)) fuelH (16 : Int)) (fixN (rgF x ((3 : UInt8), [], [], v0, v1, v2, v3, v4, v5)) fuelH (16 : Int)) := by
    unfold rgA
    exact (grd_t (i3 27 32 (by decide))).trans ((bnd_s h0).trans ((grd_t (i3 32 37 (by decide))).trans ((bnd_s h1).trans ((grd_t (i3 37 45 (by decide))).trans ((bnd_s h2).trans ((grd_t (i3 45 53 (by decide))).trans ((bnd_s h3).trans ((grd_t (i3 53 55 (by decide))).trans ((bnd_s h4).trans ((grd_t (i3 55 57 (by decide))).trans ((bnd_s h5).trans (jn_e.trans ((grd_t (inb_t (by simp only [len]; omega))).trans (by show cnd _ (rgTj x _) (rgTj x _) = _; rw [rgTj_eq, rgTj_eq]))))))))))))))
  rw [e]
  cases ieq (n8 (lget x (toN (3 : Int)) (0 : UInt8))) (n8 (51 : UInt8)) with
  | true => exact rgF_any hl _ rfl fuelH 16 (by decide) (by decide)
  | false => exact rgF_any hl _ rfl fuelH 16 (by decide) (by decide)
theorem pad_get {l : List UInt8} {j n : Nat} (hj : j < n) : (pad l n).getD j 0 = if j < l.length then l.getD j 0 else 32 := by
  unfold pad
  split
  · rename_i h
    simp [List.getD, List.getElem?_append_left h]
  · rename_i h
    simp only [List.getD]
    rw [List.getElem?_append_right (by omega), List.getElem?_replicate, if_pos (by omega)]
    rfl
theorem rgF_back {x : List UInt8} {l S R : List UInt8} (hx : x = S ++ pad l 16 ++ R) (hS : S.length = 8) (hl : l.length ≤ 16) (hxl : x.length = 1024) (he : l = [] ∨ ∃ c m, l = m ++ [c] ∧ n8 c ≠ 32) (v6 : Hdr) : ∀ (fuel k : Nat), k < fuel → l.length ≤ k → k ≤ 16 → fixN (rgF x v6) fuel (k : Int) = rgB x v6 (l.length : Int)
  | 0, k, h, _, _ => by omega
  | fuel + 1, k, h, hk, hk2 => by
    rw [fixN_s]
    unfold rgF
    rw [cnd_ilt]
    split
    · have hw : w64 (isub (w64 (iadd (8 : Int) (k : Int))) (1 : Int)) = ((8 + (k - 1) : Nat) : Int) := by
        simp only [iadd, isub]
        rw [w64_id (x := 8 + (k : Int)) (by omega), w64_id (by omega)]
        omega
      have hw2 : w64 (isub (k : Int) 1) = ((k - 1 : Nat) : Int) := by
        simp only [isub]
        rw [w64_id (by omega)]
        omega
      have hg : lget x (toN ((8 + (k - 1) : Nat) : Int)) 0 = (pad l 16).getD (k - 1) 0 := by
        rw [hx]
        unfold lget toN
        rw [List.append_assoc, Int.toNat_natCast]
        simp only [List.getD]
        rw [List.getElem?_append_right (by omega), List.getElem?_append_left (by rw [pad_len hl]; omega), hS]
        congr 2
        omega
      rw [hw, grd_t (inb_t (by simp only [len]; omega)), hg, pad_get (by omega), cnd_ieq, hw2]
      by_cases hkl : k = l.length
      · rw [if_pos (show k - 1 < l.length by omega)]
        rcases he with rfl | ⟨c, m, rfl, hc⟩
        · simp only [List.length_nil] at hkl
          omega
        · have hge : (m ++ [c]).getD (k - 1) 0 = c := by
            simp only [List.length_append, List.length_singleton] at hkl
            simp only [List.getD]
            rw [show k - 1 = m.length by omega]
            simp
          rw [hge, if_neg (show ¬ n8 c = n8 32 from hc), hkl]
      · rw [if_neg (show ¬ k - 1 < l.length by omega), if_pos rfl]
        exact rgF_back hx hS hl hxl he v6 fuel (k - 1) (by omega) (by omega) (by omega)
    · have : k = l.length := by omega
      rw [this]
theorem rg_back {h : Hdr} (hp : r23_PutHeader fuelH h = some (hby h, 0)) (H : HdrOk h) : r23_GetHeader fuelH (hby h) = some (h, 0) := by
  have hL := lang_len H
  have hT := latE_len H.ttl
  have hT4 := H.ttlL
  have hs := sig_len h.1
  have hlen := hby_len H
  have i3 : ∀ l u : Int, 0 ≤ l ∧ l ≤ u ∧ u ≤ 1024 → in3 l u (len (hby h)) = true := fun l u q => in3_t (by simp only [len]; omega)
  have i1 : inb (3 : Int) (len (hby h)) = true := inb_t (by simp only [len]; omega)
  have g3 : n8 (lget (hby h) (toN (3 : Int)) 0) = if h.1 = 5 then 51 else 50 := by
    rcases H.rate with hr | hr
    · unfold hby
      rw [hr]
      kernel_rfl
    · unfold hby
      rw [hr]
      kernel_rfl
  generalize hx : hby h = x at hlen i3 i1 hp g3
  have hP : (sig h.1 ++ pad h.2.1 16).length = 24 := by rw [List.length_append, hs, pad_len hL]
  have hx' : x = (sig h.1 ++ pad h.2.1 16) ++ pad (hdg h ((latE h.2.2.1).length : Int)) 40 ++ pad (latE h.2.2.1) 960 := hx.symm
  have hx2 : x = sig h.1 ++ pad h.2.1 16 ++ (pad (hdg h ((latE h.2.2.1).length : Int)) 40 ++ pad (latE h.2.2.1) 960) := by rw [hx']; simp only [List.append_assoc]
  generalize hD : pad (hdg h ((latE h.2.2.1).length : Int)) 40 = D at hx' hx2
  have hDl : D.length = 40 := by rw [← hD, pad_len (by rw [hdg_len]; decide)]
  have sl : ∀ a b : Nat, b ≤ 40 → ldrop (24 + a) (ltake (24 + b) x) = ldrop a (ltake b D) := fun a b hb => by rw [hx']; exact slc hP (by omega)
  have s1 : ldrop (toN (27 : Int)) (ltake (toN (32 : Int)) x) = [dg (dv (dv (dv (dv h.2.2.2.1)))), dg (dv (dv (dv h.2.2.2.1))), dg (dv (dv h.2.2.2.1)), dg (dv h.2.2.2.1), dg h.2.2.2.1] := (sl 3 8 (by decide)).trans (by rw [← hD]; kernel_rfl)
  have s2 : ldrop (toN (32 : Int)) (ltake (toN (37 : Int)) x) = [dg (dv (dv (dv (dv h.2.2.2.2.1)))), dg (dv (dv (dv h.2.2.2.2.1))), dg (dv (dv h.2.2.2.2.1)), dg (dv h.2.2.2.2.1), dg h.2.2.2.2.1] := (sl 8 13 (by decide)).trans (by rw [← hD]; kernel_rfl)
  have s3 : ldrop (toN (37 : Int)) (ltake (toN (45 : Int)) x) = clk h.2.2.2.2.2.1 := (sl 13 21 (by decide)).trans (by rw [← hD]; kernel_rfl)
  have s4 : ldrop (toN (45 : Int)) (ltake (toN (53 : Int)) x) = clk h.2.2.2.2.2.2.1 := (sl 21 29 (by decide)).trans (by rw [← hD]; kernel_rfl)
  have s5 : ldrop (toN (53 : Int)) (ltake (toN (55 : Int)) x) = [dg (dv h.2.2.2.2.2.2.2.1), dg h.2.2.2.2.2.2.2.1] := (sl 29 31 (by decide)).trans (by rw [← hD]; kernel_rfl)
  have s6 : ldrop (toN (55 : Int)) (ltake (toN (57 : Int)) x) = [dg (dv h.2.2.2.2.2.2.2.2), dg h.2.2.2.2.2.2.2.2] := (sl 31 33 (by decide)).trans (by rw [← hD]; kernel_rfl)
  have s7 : ldrop (toN (24 : Int)) (ltake (toN (27 : Int)) x) = [dg (dv (dv ((latE h.2.2.1).length : Int))), dg (dv ((latE h.2.2.1).length : Int)), dg ((latE h.2.2.1).length : Int)] := (sl 0 3 (by decide)).trans (by rw [← hD]; kernel_rfl)
  have s8 : ldrop (toN (8 : Int)) (ltake (toN (8 + (h.2.1.length : Int))) x) = h.2.1 := by
    have e : x = sig h.1 ++ h.2.1 ++ (List.replicate (16 - h.2.1.length) 32 ++ (D ++ pad (latE h.2.2.1) 960)) := by rw [hx2]; unfold pad; simp only [List.append_assoc]
    rw [e, show toN (8 + (h.2.1.length : Int)) = 8 + h.2.1.length from by simp only [toN]; omega]
    refine (slc (P := sig h.1) (k := 8) (a := 0) (b := h.2.1.length) hs (Nat.le_refl _)).trans ?_
    show h.2.1.take _ = _
    rw [List.take_length]
  have hn : w64 (iadd (64 : Int) ((latE h.2.2.1).length : Int)) = ((64 + (latE h.2.2.1).length : Nat) : Int) := by
    simp only [iadd]
    rw [w64_id (by omega)]
    omega
  have s10 : ldrop (toN (64 : Int)) (ltake (toN ((64 + (latE h.2.2.1).length : Nat) : Int)) x) = latE h.2.2.1 := by
    have hPD : (sig h.1 ++ pad h.2.1 16 ++ D).length = 64 := by rw [List.length_append, hP, hDl]
    have e : x = (sig h.1 ++ pad h.2.1 16 ++ D) ++ latE h.2.2.1 ++ List.replicate (960 - (latE h.2.2.1).length) 32 := by rw [hx', List.append_assoc _ (latE h.2.2.1)]; rfl
    rw [e]
    refine (slc (P := sig h.1 ++ pad h.2.1 16 ++ D) (k := 64) (a := 0) (b := (latE h.2.2.1).length) hPD (Nat.le_refl _)).trans ?_
    show (latE h.2.2.1).take _ = _
    rw [List.take_length]
  have e0 : ∀ r : UInt8, r = h.1 → fixN (rgF x (r, [], [], h.2.2.2.1, h.2.2.2.2.1, h.2.2.2.2.2.1, h.2.2.2.2.2.2.1, h.2.2.2.2.2.2.2.1, h.2.2.2.2.2.2.2.2)) fuelH (16 : Int) = some (h, 0) := by
    rintro r rfl
    refine (rgF_back hx2 hs hL hlen (name_end H.lang) _ fuelH 16 (by decide) hL (Nat.le_refl _)).trans ?_
    unfold rgB
    have hw : w64 (iadd (8 : Int) (h.2.1.length : Int)) = 8 + (h.2.1.length : Int) := w64_id (by simp only [iadd]; omega)
    rw [hw, grd_t (i3 _ _ (by omega)), grd_t (i3 24 27 (by decide)), s7, r23_num3 (by omega), bnd_some', cnd_t (ile_t (by omega)), cnd_t (ile_t (by omega)), hn, grd_t (i3 _ _ (by omega)), s10, r22_decode_back (by omega) H.ttl, bnd_some', s8]
    unfold rgC
    rw [hp, bnd_some', cnd_f (ine_f rfl), requal_eq, decide_eq_true rfl]
    rfl
  rw [rg_eq, cnd_f (ine_f (by simp only [len]; omega))]
  unfold rgA
  rw [grd_t (i3 27 32 (by decide)), s1, r23_num5 H.blocks, bnd_some', grd_t (i3 32 37 (by decide)), s2, r23_num5 H.groups, bnd_some', grd_t (i3 37 45 (by decide)), s3, times_back H.start H.d1, bnd_some', grd_t (i3 45 53 (by decide)), s4, times_back H.first H.d2, bnd_some', grd_t (i3 53 55 (by decide)), s5, r23_num2 H.rows, bnd_some', grd_t (i3 55 57 (by decide)), s6, r23_num2 H.cols, bnd_some', jn_e, grd_t i1, g3]
  rcases H.rate with hr | hr
  · rw [cnd_f (by rw [hr]; rfl)]
    exact (rgTj_eq x _).trans (e0 3 hr.symm)
  · rw [cnd_t (by rw [hr]; rfl)]
    exact (rgTj_eq x _).trans (e0 5 hr.symm)
theorem readers_same (x : List UInt8) : ∃ r, tape_GetHeader fuelH x = some r ∧ r23_GetHeader fuelH x = some r ∧ Good x r := by
  obtain ⟨a, h1, h2⟩ := gh_any (x := x)
  obtain ⟨b, h3, h4⟩ := rg_any (x := x)
  rcases h2 with rfl | ⟨h5, h6, h7, h8, h9⟩
  · rcases h4 with rfl | ⟨k5, k6, k7, k8, k9⟩
    · exact ⟨_, h1, h3, .inl rfl⟩
    · have := get_back k8 k6
      rw [← k7, h1] at this
      injection this with this
      have := congrArg Prod.snd this
      cases this
  · have := rg_back h9 h6
    rw [← h7] at this
    obtain ⟨a1, a2⟩ := a
    simp only at h5
    subst h5
    exact ⟨_, h1, this, .inr ⟨rfl, h6, h7, h8, h9⟩⟩
theorem reads_eq (x : List UInt8) (r : Hdr × Int) (h1 : tape_GetHeader fuelH (ltake (toN (imin (len x) (1030 : Int))) x) = some r) (h2 : r23_GetHeader fuelH (ltake (toN (imin (len x) (1030 : Int))) x) = some r) : l23_TapeReadsHeaders fuelH x = some true := by
  unfold l23_TapeReadsHeaders
  rw [awake_true (by decide), bnd_some', cnd_f (by rfl), grd_t (take_in (by decide)), h1, bnd_some', h2, bnd_some', cnd_t (hdr_r r.1)]
  congr 1
  exact ieq_t rfl
theorem readsHeaders_true0 (x : List UInt8) : l23_TapeReadsHeaders fuelH x = some true := by
  obtain ⟨r, h1, h2, _⟩ := readers_same (ltake (toN (imin (len x) (1030 : Int))) x)
  exact reads_eq x r h1 h2
end Go.Mo
end

section
/-
  Plain facts: the check and the bytes of a block, by the layer and by the specification.
-/
namespace Go.Mo
open Go Go.W Go.Lib
set_option maxRecDepth 100000
abbrev Blk := Int × Int × UInt8 × UInt8 × Lbl × Lbl × Int × UInt8 × Bool × List UInt8

/-! ### the check -/
def lblIn (l : Lbl) : Prop := (0 ≤ l.1 ∧ l.1 ≤ 23) ∧ (0 ≤ l.2.1 ∧ l.2.1 ≤ 59) ∧ (0 ≤ l.2.2.1 ∧ l.2.2.1 ≤ 59) ∧ (0 ≤ l.2.2.2.1 ∧ l.2.2.2.1 ≤ 29)
instance (l : Lbl) : Decidable (lblIn l) := by unfold lblIn; infer_instance
theorem timed_eq (N : Nat) (l : Lbl) : tape_timed N l = some (if lblIn l then 0 else 2) := by
  by_cases h : lblIn l
  · rw [if_pos h]
    obtain ⟨⟨a1, a2⟩, ⟨b1, b2⟩, ⟨c1, c2⟩, ⟨d1, d2⟩⟩ := h
    unfold tape_timed
    rw [cnd_f (ilt_f (by omega)), cnd_f (ilt_f (by omega)), cnd_f (ilt_f (by omega)), cnd_f (ilt_f (by omega)), cnd_f (ilt_f (by omega)), cnd_f (ilt_f (by omega)), cnd_f (ilt_f (by omega)), cnd_f (ilt_f (by omega))]
  · rw [if_neg h]
    unfold tape_timed
    simp only [cnd_ilt]
    repeat' split
    all_goals first | rfl | (exfalso; apply h; unfold lblIn; omega)
theorem clockB_eq (N : Nat) (l : Lbl) : r23_clock N l = some (decide (lblIn l)) := by
  unfold r23_clock
  rw [within_eq, bnd_some', cnd_dec]
  by_cases h1 : 0 ≤ l.1 ∧ l.1 ≤ 23
  case neg => rw [if_neg h1, decide_eq_false (fun h => h1 h.1)]
  rw [if_pos h1, within_eq, bnd_some', cnd_dec]
  by_cases h2 : 0 ≤ l.2.1 ∧ l.2.1 ≤ 59
  case neg => rw [if_neg h2, decide_eq_false (fun h => h2 h.2.1)]
  rw [if_pos h2, within_eq, bnd_some', cnd_dec]
  by_cases h3 : 0 ≤ l.2.2.1 ∧ l.2.2.1 ≤ 59
  case neg => rw [if_neg h3, decide_eq_false (fun h => h3 h.2.2.1)]
  rw [if_pos h3, within_eq, bnd_some']
  congr 1
  rw [decide_eq_decide]
  exact ⟨fun h => ⟨h1, h2, h3, h⟩, fun h => h.2.2.2⟩
structure BlkOk (b : Blk) : Prop where
  grp : 0 ≤ b.1 ∧ b.1 ≤ 255
  num : 0 ≤ b.2.1 ∧ b.2.1 ≤ 65535
  ain : lblIn b.2.2.2.2.1
  aout : lblIn b.2.2.2.2.2.1
  d1 : b.2.2.2.2.1.2.2.2.2 = false
  d2 : b.2.2.2.2.2.1.2.2.2.2 = false
  row : 0 ≤ b.2.2.2.2.2.2.1 ∧ b.2.2.2.2.2.2.1 ≤ 14
  txt : b.2.2.2.2.2.2.2.2.2.length ≤ 112
  fil : (143 : UInt8) ∉ b.2.2.2.2.2.2.2.2.2
theorem index_ge (l : List UInt8) (c : UInt8) : 0 ≤ indexByte l c ↔ c ∈ l := by
  induction l with
  | nil => simp [indexByte]
  | cons b l ih =>
    unfold indexByte
    have := indexByte_ge l c
    by_cases h : b = c
    · simp [h]
    · have hb : (b == c) = false := by simpa using h
      rw [hb]
      simp only [Bool.false_eq_true, if_false, List.mem_cons]
      have hne : ¬ c = b := fun e => h e.symm
      simp only [hne, false_or, ← ih]
      by_cases h1 : indexByte l c = -1
      · simp [h1]
      · have h2 : (indexByte l c == -1) = false := by simpa using h1
        rw [h2]
        simp only [Bool.false_eq_true, if_false]
        omega
theorem indexB_eq (N : Nat) (l : List UInt8) (c : UInt8) : bytes_IndexByte N (l, c) = some (indexByte l c) := by kernel_rfl
theorem filled_eq {l : List UInt8} (h : l.length ≤ 4000) : r23_filled fuelH l = some (decide ((143 : UInt8) ∈ l)) := by
  unfold r23_filled
  rw [jn_e]
  refine Eq.trans (lst_loop (l := l) (fun (_ : Unit) (p : Nat) => (p : Int)) (fun _ c (_ : Unit) self => cnd (ieq (n8 c) (n8 (143 : UInt8))) (some true) (self ())) (fun _ => some false) (fun self a i hi => ?_) (fun self a => ?_) fuelH 0 () (Nat.zero_le _) (by show _ < 5000; omega)) ?_
  · rw [cnd_t (ilt_t (by simp only [len]; omega)), grd_t (inb_t (by simp only [len]; omega)), lget_i hi, w64_succ hi (by omega)]
  · rw [cnd_f (ilt_f (by simp only [len]; omega))]
  · rw [List.drop_zero]
    have : ∀ (l : List UInt8) (i : Nat), foldI (fun _ c (_ : Unit) self => cnd (ieq (n8 c) (n8 (143 : UInt8))) (some true) (self ())) (fun _ => some false) i l () = some (decide ((143 : UInt8) ∈ l)) := by
      intro l
      induction l with
      | nil => intro i; rfl
      | cons c l ih =>
        intro i
        rw [foldI]
        by_cases hc : c = 143
        · rw [cnd_t (ieq_t (by rw [hc]))]
          simp [hc]
        · rw [cnd_f (ieq_f fun e => hc (n8_inj e))]
          show foldI _ _ _ l () = _
          rw [ih (i + 1)]
          congr 1
          have hne : ¬ 143 = c := fun e => hc e.symm
          simp [hne]
    exact this l 0
noncomputable def tcB (x : Blk) (v0 : Bool) : Option Int :=
            cnd v0
              (some (3 : Int))
              (bnd (tape_timed fuelH x.2.2.2.2.1) fun v1 =>
              cnd (ine v1 (0 : Int))
                (some (2 : Int))
                (bnd (tape_timed fuelH x.2.2.2.2.2.1) fun v2 =>
                cnd (ine v2 (0 : Int))
                  (some (2 : Int))
                  (cnd x.2.2.2.2.1.2.2.2.2
                    (some (13 : Int))
                    (cnd x.2.2.2.2.2.1.2.2.2.2
                      (some (13 : Int))
                      (cnd (ilt x.2.2.2.2.2.2.1 (0 : Int))
                        (some (2 : Int))
                        (cnd (ile (15 : Int) x.2.2.2.2.2.2.1)
                          (some (2 : Int))
                          (cnd (ilt (n8 x.2.2.2.2.2.2.2.1) (n8 (1 : UInt8)))
                            (some (3 : Int))
                            (cnd (ilt (n8 (3 : UInt8)) (n8 x.2.2.2.2.2.2.2.1))
                              (some (3 : Int))
                              (cnd (ilt (112 : Int) (len x.2.2.2.2.2.2.2.2.2))
                                (some (9 : Int))
                                (bnd (bytes_IndexByte fuelH (x.2.2.2.2.2.2.2.2.2, (143 : UInt8))) fun v3 =>
                                cnd (ile (0 : Int) v3)
                                  (some (4 : Int))
                                  (some (0 : Int))))))))))))
noncomputable def tcA (x : Blk) : Option Int :=
          cnd (ile (n8 (240 : UInt8)) (n8 x.2.2.1))
            (cnd (ilt (n8 x.2.2.1) (n8 (255 : UInt8)))
              (tcB x true)
              (tcB x (ilt (n8 (3 : UInt8)) (n8 x.2.2.2.1))))
            (tcB x (ilt (n8 (3 : UInt8)) (n8 x.2.2.2.1)))
theorem tc_eq (x : Blk) : tape_Check fuelH x = cnd (ilt x.1 (0 : Int)) (some (2 : Int)) (cnd (ilt (255 : Int) x.1) (some (2 : Int)) (cnd (ilt x.2.1 (0 : Int)) (some (2 : Int)) (cnd (ilt (65535 : Int) x.2.1) (some (2 : Int)) (tcA x)))) := by kernel_rfl
noncomputable def rcB (x : Blk) (v2 : Bool) : Option Int :=
        cnd v2
          (some (3 : Int))
          (bnd (r23_clock fuelH x.2.2.2.2.1) fun v3 =>
          cnd (bnot v3)
            (some (2 : Int))
            (bnd (r23_clock fuelH x.2.2.2.2.2.1) fun v4 =>
            cnd (bnot v4)
              (some (2 : Int))
              (cnd x.2.2.2.2.1.2.2.2.2
                (some (13 : Int))
                (cnd x.2.2.2.2.2.1.2.2.2.2
                  (some (13 : Int))
                  (bnd (r23_within fuelH (x.2.2.2.2.2.2.1, (0 : Int), (14 : Int))) fun v5 =>
                  cnd (bnot v5)
                    (some (2 : Int))
                    (cnd (ilt (n8 x.2.2.2.2.2.2.2.1) (n8 (1 : UInt8)))
                      (some (3 : Int))
                      (cnd (ilt (n8 (3 : UInt8)) (n8 x.2.2.2.2.2.2.2.1))
                        (some (3 : Int))
                        (cnd (ilt (112 : Int) (len x.2.2.2.2.2.2.2.2.2))
                          (some (9 : Int))
                          (bnd (r23_filled fuelH x.2.2.2.2.2.2.2.2.2) fun v6 =>
                          cnd v6
                            (some (4 : Int))
                            (some (0 : Int)))))))))))
noncomputable def rcA (x : Blk) : Option Int :=
      cnd (ile (n8 (240 : UInt8)) (n8 x.2.2.1))
        (cnd (ile (n8 x.2.2.1) (n8 (254 : UInt8)))
          (rcB x true)
          (rcB x (ilt (n8 (3 : UInt8)) (n8 x.2.2.2.1))))
        (rcB x (ilt (n8 (3 : UInt8)) (n8 x.2.2.2.1)))
theorem rc_eq (x : Blk) : r23_Check fuelH x = bnd (r23_within fuelH (x.1, (0 : Int), (255 : Int))) fun v0 => cnd (bnot v0) (some (2 : Int)) (bnd (r23_within fuelH (x.2.1, (0 : Int), (65535 : Int))) fun v1 => cnd (bnot v1) (some (2 : Int)) (rcA x)) := by kernel_rfl
theorem bcheck_ok (b : Blk) : ∃ e, tape_Check fuelH b = some e ∧ r23_Check fuelH b = some e ∧ (e = 0 → BlkOk b) := by
  rw [tc_eq, rc_eq, within_eq, bnd_some', cnd_bnot, within_eq, bnd_some', cnd_bnot]
  by_cases q1 : 0 ≤ b.1 ∧ b.1 ≤ 255
  case neg =>
    refine ⟨2, ?_, if_neg q1, fun h => absurd h (by decide)⟩
    rw [cnd_ilt, cnd_ilt]
    by_cases h : b.1 < 0
    · rw [if_pos h]
    · rw [if_neg h, if_pos (by omega)]
  rw [if_pos q1, cnd_f (ilt_f (by omega)), cnd_f (ilt_f (by omega))]
  by_cases q2 : 0 ≤ b.2.1 ∧ b.2.1 ≤ 65535
  case neg =>
    refine ⟨2, ?_, if_neg q2, fun h => absurd h (by decide)⟩
    rw [cnd_ilt, cnd_ilt]
    by_cases h : b.2.1 < 0
    · rw [if_pos h]
    · rw [if_neg h, if_pos (by omega)]
  rw [if_pos q2, cnd_f (ilt_f (by omega)), cnd_f (ilt_f (by omega))]
  have hx : ∃ v : Bool, tcA b = tcB b v ∧ rcA b = rcB b v := by
    unfold tcA rcA
    have e240 : n8 (240 : UInt8) = 240 := rfl
    have e255 : n8 (255 : UInt8) = 255 := rfl
    have e254 : n8 (254 : UInt8) = 254 := rfl
    rw [e240, e255, e254, cnd_ile, cnd_ilt, cnd_ile, cnd_ile]
    by_cases h1 : 240 ≤ n8 b.2.2.1
    · rw [if_pos h1, if_pos h1]
      by_cases h2 : n8 b.2.2.1 < 255
      · rw [if_pos h2, if_pos (by omega)]
        exact ⟨_, rfl, rfl⟩
      · rw [if_neg h2, if_neg (by omega)]
        exact ⟨_, rfl, rfl⟩
    · rw [if_neg h1, if_neg h1]
      exact ⟨_, rfl, rfl⟩
  obtain ⟨v, e1, e2⟩ := hx
  rw [e1, e2]
  unfold tcB rcB
  cases v with
  | true => exact ⟨3, rfl, rfl, fun h => absurd h (by decide)⟩
  | false =>
    rw [cnd_f rfl, cnd_f rfl, timed_eq, bnd_some', clockB_eq, bnd_some', cnd_bnot, cnd_ine]
    by_cases q3 : lblIn b.2.2.2.2.1
    case neg =>
      rw [if_neg q3, if_neg q3]
      exact ⟨2, rfl, rfl, fun h => absurd h (by decide)⟩
    rw [if_pos q3, if_pos q3, if_neg (by simp), timed_eq, bnd_some', clockB_eq, bnd_some', cnd_bnot, cnd_ine]
    by_cases q4 : lblIn b.2.2.2.2.2.1
    case neg =>
      rw [if_neg q4, if_neg q4]
      exact ⟨2, rfl, rfl, fun h => absurd h (by decide)⟩
    rw [if_pos q4, if_pos q4, if_neg (by simp)]
    cases d1 : b.2.2.2.2.1.2.2.2.2 with
    | true => exact ⟨13, rfl, rfl, fun h => absurd h (by decide)⟩
    | false =>
      rw [cnd_f rfl, cnd_f rfl]
      cases d2 : b.2.2.2.2.2.1.2.2.2.2 with
      | true => exact ⟨13, rfl, rfl, fun h => absurd h (by decide)⟩
      | false =>
        rw [cnd_f rfl, cnd_f rfl, within_eq, bnd_some', cnd_bnot]
        by_cases q5 : 0 ≤ b.2.2.2.2.2.2.1 ∧ b.2.2.2.2.2.2.1 ≤ 14
        case neg =>
          refine ⟨2, ?_, if_neg q5, fun h => absurd h (by decide)⟩
          rw [cnd_ilt, cnd_ile]
          by_cases h : b.2.2.2.2.2.2.1 < 0
          · rw [if_pos h]
          · rw [if_neg h, if_pos (by omega)]
        rw [if_pos q5, cnd_f (ilt_f (by omega)), cnd_f (ile_f (by omega))]
        by_cases q6 : n8 b.2.2.2.2.2.2.2.1 < n8 (1 : UInt8)
        · exact ⟨3, cnd_t (ilt_t q6), cnd_t (ilt_t q6), fun h => absurd h (by decide)⟩
        rw [cnd_f (ilt_f q6), cnd_f (ilt_f q6)]
        by_cases q7 : n8 (3 : UInt8) < n8 b.2.2.2.2.2.2.2.1
        · exact ⟨3, cnd_t (ilt_t q7), cnd_t (ilt_t q7), fun h => absurd h (by decide)⟩
        rw [cnd_f (ilt_f q7), cnd_f (ilt_f q7)]
        by_cases q8 : (112 : Int) < len b.2.2.2.2.2.2.2.2.2
        · exact ⟨9, cnd_t (ilt_t q8), cnd_t (ilt_t q8), fun h => absurd h (by decide)⟩
        have q8' : b.2.2.2.2.2.2.2.2.2.length ≤ 112 := by simp only [len] at q8; omega
        rw [cnd_f (ilt_f q8), cnd_f (ilt_f q8), indexB_eq, bnd_some', filled_eq (by omega), bnd_some', cnd_ile, cnd_dec]
        by_cases q9 : (143 : UInt8) ∈ b.2.2.2.2.2.2.2.2.2
        · rw [if_pos ((index_ge _ _).2 q9), if_pos q9]
          exact ⟨4, rfl, rfl, fun h => absurd h (by decide)⟩
        · rw [if_neg (fun h => q9 ((index_ge _ _).1 h)), if_neg q9]
          exact ⟨0, rfl, rfl, fun _ => ⟨q1, q2, q3, q4, d1, d2, q5, q8', q9⟩⟩

/-! ### the bytes -/
def bhd (b : Blk) : List UInt8 := [b8 b.1, b8 b.2.1, b8 (b.2.1 / 256), b.2.2.1, b.2.2.2.1, b8 b.2.2.2.2.1.1, b8 b.2.2.2.2.1.2.1, b8 b.2.2.2.2.1.2.2.1, b8 b.2.2.2.2.1.2.2.2.1, b8 b.2.2.2.2.2.1.1, b8 b.2.2.2.2.2.1.2.1, b8 b.2.2.2.2.2.1.2.2.1, b8 b.2.2.2.2.2.1.2.2.2.1, b8 b.2.2.2.2.2.2.1, b.2.2.2.2.2.2.2.1, bif b.2.2.2.2.2.2.2.2.1 then 1 else 0]
def bby (b : Blk) : List UInt8 := bhd b ++ (b.2.2.2.2.2.2.2.2.2 ++ List.replicate (112 - b.2.2.2.2.2.2.2.2.2.length) 143)
theorem bby_len {b : Blk} (h : BlkOk b) : (bby b).length = 128 := by
  have := h.txt
  unfold bby
  rw [List.length_append, List.length_append, List.length_replicate, show (bhd b).length = 16 from rfl]
  omega
noncomputable def tpK (x : Blk) (v1 : UInt8) : Option (List UInt8 × Int) :=
  grd (room (iadd (len ([b8 x.1, b8 x.2.1, b8 (shrk .i64 x.2.1 (8 : Int)), x.2.2.1, x.2.2.2.1, b8 x.2.2.2.2.1.1, b8 x.2.2.2.2.1.2.1, b8 x.2.2.2.2.1.2.2.1, b8 x.2.2.2.2.1.2.2.2.1, b8 x.2.2.2.2.2.1.1, b8 x.2.2.2.2.2.1.2.1, b8 x.2.2.2.2.2.1.2.2.1, b8 x.2.2.2.2.2.1.2.2.2.1, b8 x.2.2.2.2.2.2.1, x.2.2.2.2.2.2.2.1, v1] : List UInt8)) (len x.2.2.2.2.2.2.2.2.2)) 1)
   (let h : List UInt8 := lapp [b8 x.1, b8 x.2.1, b8 (shrk .i64 x.2.1 (8 : Int)), x.2.2.1, x.2.2.2.1, b8 x.2.2.2.2.1.1, b8 x.2.2.2.2.1.2.1, b8 x.2.2.2.2.1.2.2.1, b8 x.2.2.2.2.1.2.2.2.1, b8 x.2.2.2.2.2.1.1, b8 x.2.2.2.2.2.1.2.1, b8 x.2.2.2.2.2.1.2.2.1, b8 x.2.2.2.2.2.1.2.2.2.1, b8 x.2.2.2.2.2.2.1, x.2.2.2.2.2.2.2.1, v1] x.2.2.2.2.2.2.2.2.2
    bnd (bytes_Repeat fuelH (([143] : List UInt8), w64 (isub (128 : Int) (len h)))) fun v2 =>
    grd (room (iadd (len h) (len v2)) 1) (some (lapp h v2, (0 : Int))))
theorem tp_eq (x : Blk) : tape_Put fuelH x = bnd (tape_Check fuelH x) fun v0 => cnd (ine v0 (0 : Int)) (some (([] : List UInt8), v0)) (cnd x.2.2.2.2.2.2.2.2.1 (tpK x 1) (tpK x 0)) := by kernel_rfl
noncomputable def rpK (x : Blk) (v1 : UInt8) : Option (List UInt8 × Int) :=
    let h0 : List UInt8 := lapp [b8 x.1, b8 (imod x.2.1 (256 : Int)), b8 (w64 (idiv x.2.1 (256 : Int))), x.2.2.1, x.2.2.2.1] [b8 x.2.2.2.2.1.1, b8 x.2.2.2.2.1.2.1, b8 x.2.2.2.2.1.2.2.1, b8 x.2.2.2.2.1.2.2.2.1, b8 x.2.2.2.2.2.1.1, b8 x.2.2.2.2.2.1.2.1, b8 x.2.2.2.2.2.1.2.2.1, b8 x.2.2.2.2.2.1.2.2.2.1]
    let h1 : List UInt8 := [b8 x.2.2.2.2.2.2.1, x.2.2.2.2.2.2.2.1, v1]
    grd (room (iadd (len h0) (len h1)) 1)
    (bnd (r23_fill fuelH (x.2.2.2.2.2.2.2.2.2, (112 : Int), (143 : UInt8))) fun v2 =>
    grd (room (iadd (len (lapp h0 h1)) (len v2)) 1) (some (lapp (lapp h0 h1) v2, (0 : Int))))
theorem rp_eq (x : Blk) : r23_Put fuelH x = bnd (r23_Check fuelH x) fun v0 => cnd (ine v0 (0 : Int)) (some (([] : List UInt8), v0)) (cnd x.2.2.2.2.2.2.2.2.1 (rpK x 1) (rpK x 0)) := by kernel_rfl
theorem fillc_eq {l : List UInt8} {n : Nat} (c : UInt8) (hn : n ≤ 1100) (hl : l.length ≤ n) : r23_fill fuelH (l, (n : Int), c) = some (l ++ List.replicate (n - l.length) c) := by
  unfold r23_fill
  rw [jn_e, grd_t (room_t (by simp [iadd, len]; omega))]
  have : ∀ (fuel : Nat) (m : List UInt8), n - m.length < fuel → m.length ≤ n → fixN (fun v2 (v3 : List UInt8) =>
    cnd (ilt (len v3) (n : Int))
      (grd (room (iadd (len v3) (len ([c] : List UInt8))) 1)
        (v2 (lapp v3 ([c] : List UInt8))))
      (some v3)) fuel m = some (m ++ List.replicate (n - m.length) c) := by
    intro fuel
    induction fuel with
    | zero => intro m h; omega
    | succ fuel ih =>
      intro m h h2
      rw [fixN_s]
      by_cases hm : m.length < n
      · rw [cnd_t (ilt_t (by simp only [len]; omega)), grd_t (room_t (by simp [iadd, len]; omega)), ih _ (by simp [lapp]; omega) (by simp [lapp]; omega)]
        congr 1
        unfold lapp
        obtain ⟨k, hk⟩ : ∃ k, n - m.length = k + 1 := ⟨n - m.length - 1, by omega⟩
        rw [hk, List.replicate_succ, List.length_append, List.append_assoc]
        simp only [List.length_singleton, show n - (m.length + 1) = k by omega]
        rfl
      · rw [cnd_f (ilt_f (by simp only [len]; omega))]
        rw [show n - m.length = 0 by omega]
        simp
  have := this fuelH (lapp [] l) (by simp [lapp]; show n - l.length < 5000; omega) (by simp [lapp]; omega)
  simpa [lapp] using this
theorem rep0_eq (N : Nat) (b : UInt8) : bytes_Repeat N ([b], (0 : Int)) = some [] := by
  unfold bytes_Repeat
  rw [cnd_t (ieq_t rfl)]
theorem repeat_le {n : Nat} (hn : n ≤ 1024) (b : UInt8) : bytes_Repeat fuelH ([b], (n : Int)) = some (List.replicate n b) := by
  by_cases h : n = 0
  · subst h
    exact rep0_eq _ _
  · exact repeat_eq (by decide) b (by omega) hn
def bhv (b : Blk) (v : UInt8) : List UInt8 := [b8 b.1, b8 b.2.1, b8 (b.2.1 / 256), b.2.2.1, b.2.2.2.1, b8 b.2.2.2.2.1.1, b8 b.2.2.2.2.1.2.1, b8 b.2.2.2.2.1.2.2.1, b8 b.2.2.2.2.1.2.2.2.1, b8 b.2.2.2.2.2.1.1, b8 b.2.2.2.2.2.1.2.1, b8 b.2.2.2.2.2.1.2.2.1, b8 b.2.2.2.2.2.1.2.2.2.1, b8 b.2.2.2.2.2.2.1, b.2.2.2.2.2.2.2.1, v]
theorem tpK_eq {b : Blk} (h : BlkOk b) (v : UInt8) : tpK b v = some (bhv b v ++ (b.2.2.2.2.2.2.2.2.2 ++ List.replicate (112 - b.2.2.2.2.2.2.2.2.2.length) 143), 0) := by
  have ht := h.txt
  have hs : shrk .i64 b.2.1 (8 : Int) = b.2.1 / 256 := by
    show b.2.1.fdiv 256 = _
    exact Int.fdiv_eq_ediv_of_nonneg _ (by decide)
  unfold tpK
  rw [hs]
  have hb : ([b8 b.1, b8 b.2.1, b8 (b.2.1 / 256), b.2.2.1, b.2.2.2.1, b8 b.2.2.2.2.1.1, b8 b.2.2.2.2.1.2.1, b8 b.2.2.2.2.1.2.2.1, b8 b.2.2.2.2.1.2.2.2.1, b8 b.2.2.2.2.2.1.1, b8 b.2.2.2.2.2.1.2.1, b8 b.2.2.2.2.2.1.2.2.1, b8 b.2.2.2.2.2.1.2.2.2.1, b8 b.2.2.2.2.2.2.1, b.2.2.2.2.2.2.2.1, v] : List UInt8) = bhv b v := rfl
  rw [hb]
  have hl : (bhv b v).length = 16 := rfl
  generalize bhv b v = H at hl
  generalize b.2.2.2.2.2.2.2.2.2 = t at ht
  simp only
  have e1 : w64 (isub (128 : Int) (len (lapp H t))) = ((112 - t.length : Nat) : Int) := by
    simp only [isub, len, lapp, List.length_append, hl]
    rw [w64_id (by omega)]
    omega
  rw [grd_t (room_t (by simp only [iadd, len, hl]; omega)), e1, repeat_le (by omega), bnd_some', grd_t (room_t (by simp only [iadd, len, lapp, List.length_append, List.length_replicate, hl]; omega))]
  unfold lapp
  rw [List.append_assoc]
theorem rpK_eq {b : Blk} (h : BlkOk b) (v : UInt8) : rpK b v = some (bhv b v ++ (b.2.2.2.2.2.2.2.2.2 ++ List.replicate (112 - b.2.2.2.2.2.2.2.2.2.length) 143), 0) := by
  have ht := h.txt
  have hn := h.num
  have e1 : b8 (imod b.2.1 (256 : Int)) = b8 b.2.1 := by
    unfold b8 imod
    rw [Int.tmod_eq_emod_of_nonneg hn.1]
    congr 2
    omega
  have e2 : b8 (w64 (idiv b.2.1 (256 : Int))) = b8 (b.2.1 / 256) := by
    unfold idiv
    rw [Int.tdiv_eq_ediv_of_nonneg hn.1, w64_id (by omega)]
  unfold rpK
  rw [e1, e2]
  have f1 : r23_fill fuelH (b.2.2.2.2.2.2.2.2.2, (112 : Int), (143 : UInt8)) = some (b.2.2.2.2.2.2.2.2.2 ++ List.replicate (112 - b.2.2.2.2.2.2.2.2.2.length) 143) := fillc_eq (n := 112) 143 (by decide) ht
  simp only
  rw [f1, bnd_some', grd_t (by kernel_rfl), grd_t (room_t (by
    simp only [iadd, len, lapp, List.length_append, List.length_replicate, List.length_cons, List.length_nil]
    omega))]
  rfl
theorem bhd_v (b : Blk) : bhd b = bhv b (bif b.2.2.2.2.2.2.2.2.1 then 1 else 0) := rfl
theorem bput_both (b : Blk) : ∃ e, tape_Check fuelH b = some e ∧ r23_Check fuelH b = some e ∧ ((e ≠ 0 ∧ tape_Put fuelH b = some ([], e) ∧ r23_Put fuelH b = some ([], e)) ∨ (e = 0 ∧ BlkOk b ∧ tape_Put fuelH b = some (bby b, 0) ∧ r23_Put fuelH b = some (bby b, 0))) := by
  obtain ⟨e, h1, h2, h3⟩ := bcheck_ok b
  refine ⟨e, h1, h2, ?_⟩
  by_cases he : e = 0
  · subst he
    have H := h3 rfl
    refine .inr ⟨rfl, H, ?_, ?_⟩
    · rw [tp_eq, bnd_s h1, cnd_f (ine_f rfl), tpK_eq H, tpK_eq H]
      unfold bby
      rw [bhd_v]
      cases b.2.2.2.2.2.2.2.2.1 <;> rfl
    · rw [rp_eq, bnd_s h2, cnd_f (ine_f rfl), rpK_eq H, rpK_eq H]
      unfold bby
      rw [bhd_v]
      cases b.2.2.2.2.2.2.2.2.1 <;> rfl
  · refine .inl ⟨he, ?_, ?_⟩
    · rw [tp_eq, bnd_s h1, cnd_t (ine_t he)]
    · rw [rp_eq, bnd_s h2, cnd_t (ine_t he)]
end Go.Mo
end

section
/-
  Plain facts: blocks read from bytes, by the layer and by the specification.
-/
namespace Go.Mo
open Go Go.W Go.Lib
set_option maxRecDepth 100000

def bz : Blk := ((0 : Int), (0 : Int), (0 : UInt8), (0 : UInt8), ((0 : Int), (0 : Int), (0 : Int), (0 : Int), false), ((0 : Int), (0 : Int), (0 : Int), (0 : Int), false), (0 : Int), (0 : UInt8), false, ([] : List UInt8))
/-- the bytes ahead of the first filler -/
def tw (t : List UInt8) : List UInt8 := t.takeWhile fun c => c != 143
theorem w64n8 (c : UInt8) : w64 (n8 c) = n8 c := by
  have := n8_rng c
  exact w64_id (by omega)
theorem times_eq (N : Nat) (a b c d : UInt8) (t : List UInt8) : tape_times N (a :: b :: c :: d :: t) = some (n8 a, n8 b, n8 c, n8 d, false) := by
  unfold tape_times
  rw [grd_t (inb_t (by simp only [len, List.length_cons]; omega)), grd_t (inb_t (by simp only [len, List.length_cons]; omega)), grd_t (inb_t (by simp only [len, List.length_cons]; omega)), grd_t (inb_t (by simp only [len, List.length_cons]; omega))]
  show some (w64 (n8 a), w64 (n8 b), w64 (n8 c), w64 (n8 d), false) = _
  rw [w64n8, w64n8, w64n8, w64n8]
theorem ix_tw : ∀ t : List UInt8, (0 ≤ indexByte t 143 → (indexByte t 143).toNat < t.length ∧ t.take (indexByte t 143).toNat = tw t) ∧ (indexByte t 143 < 0 → tw t = t)
  | [] => ⟨fun h => absurd h (by decide), fun _ => rfl⟩
  | b :: t => by
    obtain ⟨h1, h2⟩ := ix_tw t
    have hge := indexByte_ge t 143
    unfold indexByte
    by_cases hb : b = 143
    · subst hb
      simp [tw]
    · have hb' : (b == 143) = false := by simpa using hb
      have hb2 : (b != 143) = true := by simpa using hb
      rw [hb']
      simp only [Bool.false_eq_true, if_false]
      have htw : tw (b :: t) = b :: tw t := by
        unfold tw
        rw [List.takeWhile_cons, hb2]
        rfl
      by_cases hi : indexByte t 143 = -1
      · rw [hi]
        simp only [beq_self_eq_true, if_true]
        refine ⟨fun h => absurd h (by decide), fun _ => ?_⟩
        rw [htw, h2 (by omega)]
      · have hi' : (indexByte t 143 == -1) = false := by simpa using hi
        rw [hi']
        simp only [Bool.false_eq_true, if_false]
        refine ⟨fun _ => ?_, fun h => by omega⟩
        obtain ⟨h3, h4⟩ := h1 (by omega)
        have e : (indexByte t 143 + 1).toNat = (indexByte t 143).toNat + 1 := by omega
        rw [e, List.length_cons, List.take_succ_cons, h4, htw]
        exact ⟨by omega, rfl⟩
theorem cut_eq {t : List UInt8} (ht : t.length ≤ 4000) : ∃ r b, bytes_Cut fuelH (t, [143]) = some (tw t, r, b) := by
  have hi : bytes_Index fuelH (t, [143]) = some (indexByte t 143) := by
    unfold bytes_Index
    rw [cnd_f (by rfl), cnd_t (by rfl), grd_t (by kernel_rfl)]
    show bnd (bytes_IndexByte fuelH (t, 143)) _ = _
    rw [indexB_eq, bnd_some']
  obtain ⟨h1, h2⟩ := ix_tw t
  unfold bytes_Cut
  rw [hi, bnd_some', cnd_ile]
  split
  · rename_i h
    obtain ⟨h3, h4⟩ := h1 h
    have hw : w64 (iadd (indexByte t 143) (len [(143 : UInt8)])) = indexByte t 143 + 1 := w64_id (by simp only [iadd, len, List.length_singleton]; omega)
    rw [hw, grd_t (in2_t (by simp only [len]; omega)), grd_t (in2_t (by simp only [len]; omega))]
    refine ⟨ldrop (toN (indexByte t 143 + 1)) t, true, ?_⟩
    show some ((t.take (indexByte t 143).toNat), _, _) = _
    rw [h4]
  · rename_i h
    rw [h2 (by omega)]
    exact ⟨[], false, rfl⟩
theorem or_num (a b : UInt8) : bitb .or .i64 (n8 a) (w64 (shlk .i64 (n8 b) (8 : Int))) = n8 a + 256 * n8 b := by
  have ha : a.toNat < 256 := a.toNat_lt
  have hb : b.toNat < 256 := b.toNat_lt
  have e0 : w64 (shlk .i64 (n8 b) (8 : Int)) = ((b.toNat * 256 : Nat) : Int) := by
    show w64 ((b.toNat : Int) * 256) = _
    rw [w64_id (by omega)]
    omega
  rw [e0]
  have e : (BitVec.ofInt 64 (a.toNat : Int) ||| BitVec.ofInt 64 ((b.toNat * 256 : Nat) : Int)).toNat = a.toNat + b.toNat * 256 := by
    simp only [BitVec.ofInt_natCast, BitVec.toNat_or, BitVec.toNat_ofNat]
    rw [Nat.mod_eq_of_lt (by omega), Nat.mod_eq_of_lt (by omega)]
    have := Nat.shiftLeft_add_eq_or_of_lt (show a.toNat < 2 ^ 8 by omega) b.toNat
    rw [Nat.shiftLeft_eq, show (2 : Nat) ^ 8 = 256 from rfl] at this
    rw [Nat.or_comm, ← this]
    omega
  refine Eq.trans (b := w64 ((a.toNat + b.toNat * 256 : Nat) : Int)) (congrArg (fun m : Nat => IntKind.wrap .i64 (m : Int)) e) ?_
  rw [w64_id (by omega)]
  show _ = (a.toNat : Int) + 256 * (b.toNat : Int)
  omega
/-- the block that 128 bytes say -/
def gbl : List UInt8 → Blk
  | x0 :: x1 :: x2 :: x3 :: x4 :: x5 :: x6 :: x7 :: x8 :: x9 :: x10 :: x11 :: x12 :: x13 :: x14 :: x15 :: t => (n8 x0, n8 x1 + 256 * n8 x2, x3, x4, (n8 x5, n8 x6, n8 x7, n8 x8, false), (n8 x9, n8 x10, n8 x11, n8 x12, false), n8 x13, x14, ieq (n8 x15) (n8 (1 : UInt8)), tw t)
  | _ => bz
/-- what comes of the bytes of a block, written again -/
def gfin (x : List UInt8) (b : Blk) (p : Option (List UInt8 × Int)) : Option (Blk × Int) :=
  bnd p fun v4 => cnd (ine v4.2 (0 : Int)) (some (bz, (4 : Int))) (cnd (bnot (seq x v4.1)) (some (bz, (4 : Int))) (some (b, (0 : Int))))
theorem len16 {x : List UInt8} (h : x.length = 128) : ∃ x0 x1 x2 x3 x4 x5 x6 x7 x8 x9 x10 x11 x12 x13 x14 x15 t, x = x0 :: x1 :: x2 :: x3 :: x4 :: x5 :: x6 :: x7 :: x8 :: x9 :: x10 :: x11 :: x12 :: x13 :: x14 :: x15 :: t ∧ t.length = 112 := by
  match x, h with
  | x0 :: x1 :: x2 :: x3 :: x4 :: x5 :: x6 :: x7 :: x8 :: x9 :: x10 :: x11 :: x12 :: x13 :: x14 :: x15 :: t, h => exact ⟨x0, x1, x2, x3, x4, x5, x6, x7, x8, x9, x10, x11, x12, x13, x14, x15, t, rfl, by simpa using h⟩
theorem tget_eq {x : List UInt8} (h : x.length = 128) : tape_Get fuelH x = gfin x (gbl x) (tape_Put fuelH (gbl x)) := by
  obtain ⟨x0, x1, x2, x3, x4, x5, x6, x7, x8, x9, x10, x11, x12, x13, x14, x15, t, rfl, ht⟩ := len16 h
  generalize hx : x0 :: x1 :: x2 :: x3 :: x4 :: x5 :: x6 :: x7 :: x8 :: x9 :: x10 :: x11 :: x12 :: x13 :: x14 :: x15 :: t = x at h
  have hl : len x = 128 := by simp only [len]; omega
  obtain ⟨r, b, hc⟩ := cut_eq (t := t) (by omega)
  have htl : (tw t).length ≤ 112 := by
    have : (tw t).length ≤ t.length := by
      unfold tw
      exact (List.takeWhile_sublist _).length_le
    omega
  have hg : gbl x = (n8 x0, n8 x1 + 256 * n8 x2, x3, x4, (n8 x5, n8 x6, n8 x7, n8 x8, false), (n8 x9, n8 x10, n8 x11, n8 x12, false), n8 x13, x14, ieq (n8 x15) (n8 (1 : UInt8)), tw t) := by rw [← hx]; rfl
  have t1 : tape_times fuelH (ldrop (toN (5 : Int)) x) = some (n8 x5, n8 x6, n8 x7, n8 x8, false) := by rw [← hx]; exact times_eq fuelH x5 x6 x7 x8 _
  have t2 : tape_times fuelH (ldrop (toN (9 : Int)) x) = some (n8 x9, n8 x10, n8 x11, n8 x12, false) := by rw [← hx]; exact times_eq fuelH x9 x10 x11 x12 _
  have d : ldrop (toN (16 : Int)) x = t := by rw [← hx]; rfl
  have g : lget x (toN (0 : Int)) 0 = x0 ∧ lget x (toN (1 : Int)) 0 = x1 ∧ lget x (toN (2 : Int)) 0 = x2 ∧ lget x (toN (3 : Int)) 0 = x3 ∧ lget x (toN (4 : Int)) 0 = x4 ∧ lget x (toN (13 : Int)) 0 = x13 ∧ lget x (toN (14 : Int)) 0 = x14 ∧ lget x (toN (15 : Int)) 0 = x15 := by rw [← hx]; exact ⟨rfl, rfl, rfl, rfl, rfl, rfl, rfl, rfl⟩
  obtain ⟨g0, g1, g2, g3, g4, g13, g14, g15⟩ := g
  have hb : ∀ i : Int, 0 ≤ i ∧ i < 128 → inb i 128 = true := fun i hi => inb_t hi
  have h2 : ∀ i : Int, 0 ≤ i ∧ i ≤ 128 → in2 i 128 = true := fun i hi => in2_t hi
  unfold tape_Get
  rw [hl, cnd_f (by rfl), grd_t (hb 0 (by decide)), grd_t (hb 1 (by decide)), grd_t (hb 2 (by decide)), grd_t (hb 3 (by decide)), grd_t (hb 4 (by decide)), grd_t (h2 5 (by decide)), t1, bnd_some', grd_t (h2 9 (by decide)), t2, bnd_some', grd_t (hb 13 (by decide)), grd_t (hb 14 (by decide)), grd_t (hb 15 (by decide)), grd_t (h2 16 (by decide)), d, hc, bnd_some', clone_eq fuelH (tw t) (by omega), bnd_some', g0, g1, g2, g3, g4, g13, g14, g15, w64n8, w64n8, w64n8, w64n8, or_num, hg]
  rfl
theorem fields_eq {x : List UInt8} (h : x.length = 128) (x0 x1 x2 x3 x4 x5 x6 x7 x8 x9 x10 x11 x12 x13 x14 x15 : UInt8) (t : List UInt8) (hx : x0 :: x1 :: x2 :: x3 :: x4 :: x5 :: x6 :: x7 :: x8 :: x9 :: x10 :: x11 :: x12 :: x13 :: x14 :: x15 :: t = x) : r23_fields fuelH x = some (n8 x0, n8 x1 + 256 * n8 x2, x3, x4, (n8 x5, n8 x6, n8 x7, n8 x8, false), (n8 x9, n8 x10, n8 x11, n8 x12, false), n8 x13, x14, ieq (n8 x15) (n8 (1 : UInt8)), ([] : List UInt8)) := by
  have hl : len x = 128 := by simp only [len]; omega
  have g : lget x (toN (0 : Int)) 0 = x0 ∧ lget x (toN (1 : Int)) 0 = x1 ∧ lget x (toN (2 : Int)) 0 = x2 ∧ lget x (toN (3 : Int)) 0 = x3 ∧ lget x (toN (4 : Int)) 0 = x4 ∧ lget x (toN (5 : Int)) 0 = x5 ∧ lget x (toN (6 : Int)) 0 = x6 ∧ lget x (toN (7 : Int)) 0 = x7 ∧ lget x (toN (8 : Int)) 0 = x8 ∧ lget x (toN (9 : Int)) 0 = x9 ∧ lget x (toN (10 : Int)) 0 = x10 ∧ lget x (toN (11 : Int)) 0 = x11 ∧ lget x (toN (12 : Int)) 0 = x12 ∧ lget x (toN (13 : Int)) 0 = x13 ∧ lget x (toN (14 : Int)) 0 = x14 ∧ lget x (toN (15 : Int)) 0 = x15 := by rw [← hx]; exact ⟨rfl, rfl, rfl, rfl, rfl, rfl, rfl, rfl, rfl, rfl, rfl, rfl, rfl, rfl, rfl, rfl⟩
  obtain ⟨g0, g1, g2, g3, g4, g5, g6, g7, g8, g9, g10, g11, g12, g13, g14, g15⟩ := g
  have hb : ∀ i : Int, 0 ≤ i ∧ i < 128 → inb i 128 = true := fun i hi => inb_t hi
  have r1 := n8_rng x1
  have r2 := n8_rng x2
  have hn : w64 (iadd (n8 x1) (w64 (imul (256 : Int) (n8 x2)))) = n8 x1 + 256 * n8 x2 := by
    simp only [iadd, imul]
    rw [w64_id (x := 256 * n8 x2) (by omega), w64_id (by omega)]
  unfold r23_fields
  rw [hl, grd_t (hb 0 (by decide)), grd_t (hb 1 (by decide)), grd_t (hb 2 (by decide)), grd_t (hb 3 (by decide)), grd_t (hb 4 (by decide)), grd_t (hb 13 (by decide)), grd_t (hb 14 (by decide)), grd_t (hb 15 (by decide)), grd_t (hb 5 (by decide)), grd_t (hb 6 (by decide)), grd_t (hb 7 (by decide)), grd_t (hb 8 (by decide)), grd_t (hb 9 (by decide)), grd_t (hb 10 (by decide)), grd_t (hb 11 (by decide)), grd_t (hb 12 (by decide))]
  rw [g0, g1, g2, g3, g4, g5, g6, g7, g8, g9, g10, g11, g12, g13, g14, g15]
  simp only [w64n8]
  rw [hn]
theorem foldI_tw {R : Type} (K : List UInt8 → Option R) : ∀ (t : List UInt8) (i : Nat) (s : List UInt8), s.length + t.length ≤ 100000 → foldI (fun _ c s self => cnd (ieq (n8 c) (n8 (143 : UInt8))) (K s) (grd (room (iadd (len s) (len [c])) 1) (self (lapp s [c])))) (fun s => K s) i t s = K (s ++ tw t)
  | [], i, s, _ => by simp [foldI, tw]
  | c :: t, i, s, h => by
    simp only [List.length_cons] at h
    rw [foldI]
    by_cases hc : c = 143
    · subst hc
      rw [cnd_t (ieq_t rfl)]
      simp [tw]
    · have hc2 : (c != 143) = true := by simpa using hc
      have htw : tw (c :: t) = c :: tw t := by
        unfold tw
        rw [List.takeWhile_cons, hc2]
        rfl
      rw [cnd_f (ieq_f fun e => hc (n8_inj e)), grd_t (room_t (by simp only [iadd, len, List.length_singleton]; omega))]
      show foldI _ _ _ t (s ++ [c]) = _
      rw [foldI_tw K t (i + 1) (s ++ [c]) (by rw [List.length_append, List.length_singleton]; omega), htw, List.append_assoc]
      rfl
theorem rget_eq {x : List UInt8} (h : x.length = 128) : r23_Get fuelH x = gfin x (gbl x) (r23_Put fuelH (gbl x)) := by
  obtain ⟨x0, x1, x2, x3, x4, x5, x6, x7, x8, x9, x10, x11, x12, x13, x14, x15, t, rfl, ht⟩ := len16 h
  generalize hx : x0 :: x1 :: x2 :: x3 :: x4 :: x5 :: x6 :: x7 :: x8 :: x9 :: x10 :: x11 :: x12 :: x13 :: x14 :: x15 :: t = x at h
  have hl : len x = 128 := by simp only [len]; omega
  have hg : gbl x = (n8 x0, n8 x1 + 256 * n8 x2, x3, x4, (n8 x5, n8 x6, n8 x7, n8 x8, false), (n8 x9, n8 x10, n8 x11, n8 x12, false), n8 x13, x14, ieq (n8 x15) (n8 (1 : UInt8)), tw t) := by rw [← hx]; rfl
  have hf := fields_eq h x0 x1 x2 x3 x4 x5 x6 x7 x8 x9 x10 x11 x12 x13 x14 x15 t hx
  have d : ldrop (toN (16 : Int)) x = t := by rw [← hx]; rfl
  unfold r23_Get
  rw [hl, cnd_f (by rfl), hf, bnd_some', jn_e, grd_t (in2_t (by decide)), d]
  refine Eq.trans (lst_loop (l := t) (fun (s : List UInt8) (p : Nat) => ((p : Int), (n8 x0, n8 x1 + 256 * n8 x2, x3, x4, (n8 x5, n8 x6, n8 x7, n8 x8, false), (n8 x9, n8 x10, n8 x11, n8 x12, false), n8 x13, x14, ieq (n8 x15) (n8 (1 : UInt8)), s))) (fun _ c s self => cnd (ieq (n8 c) (n8 (143 : UInt8))) (gfin x (n8 x0, n8 x1 + 256 * n8 x2, x3, x4, (n8 x5, n8 x6, n8 x7, n8 x8, false), (n8 x9, n8 x10, n8 x11, n8 x12, false), n8 x13, x14, ieq (n8 x15) (n8 (1 : UInt8)), s) (r23_Put fuelH (n8 x0, n8 x1 + 256 * n8 x2, x3, x4, (n8 x5, n8 x6, n8 x7, n8 x8, false), (n8 x9, n8 x10, n8 x11, n8 x12, false), n8 x13, x14, ieq (n8 x15) (n8 (1 : UInt8)), s))) (grd (room (iadd (len s) (len [c])) 1) (self (lapp s [c])))) (fun s => gfin x (n8 x0, n8 x1 + 256 * n8 x2, x3, x4, (n8 x5, n8 x6, n8 x7, n8 x8, false), (n8 x9, n8 x10, n8 x11, n8 x12, false), n8 x13, x14, ieq (n8 x15) (n8 (1 : UInt8)), s) (r23_Put fuelH (n8 x0, n8 x1 + 256 * n8 x2, x3, x4, (n8 x5, n8 x6, n8 x7, n8 x8, false), (n8 x9, n8 x10, n8 x11, n8 x12, false), n8 x13, x14, ieq (n8 x15) (n8 (1 : UInt8)), s))) (fun self s i hi => ?_) (fun self s => ?_) fuelH 0 [] (Nat.zero_le _) (by show _ < 5000; omega)) ?_
  · rw [cnd_t (ilt_t (by simp only [len]; omega)), grd_t (inb_t (by simp only [len]; omega)), lget_i hi, w64_succ hi (by omega)]
    rfl
  · rw [cnd_f (ilt_f (by simp only [len]; omega))]
    rfl
  · rw [List.drop_zero, foldI_tw (fun s => gfin x (n8 x0, n8 x1 + 256 * n8 x2, x3, x4, (n8 x5, n8 x6, n8 x7, n8 x8, false), (n8 x9, n8 x10, n8 x11, n8 x12, false), n8 x13, x14, ieq (n8 x15) (n8 (1 : UInt8)), s) (r23_Put fuelH (n8 x0, n8 x1 + 256 * n8 x2, x3, x4, (n8 x5, n8 x6, n8 x7, n8 x8, false), (n8 x9, n8 x10, n8 x11, n8 x12, false), n8 x13, x14, ieq (n8 x15) (n8 (1 : UInt8)), s))) t 0 [] (by simp only [List.length_nil]; omega), List.nil_append, hg]
end Go.Mo
end

section
/-
  Plain facts: a block read back; files written.
-/
namespace Go.Mo
open Go Go.W Go.Lib
set_option maxRecDepth 100000

theorem n8_b8m (x : Int) : n8 (b8 x) = x % 256 := by
  unfold n8 b8
  rw [UInt8.toNat_ofNat']
  omega
theorem tw_app {t : List UInt8} (h : (143 : UInt8) ∉ t) (k : Nat) : tw (t ++ List.replicate k 143) = t := by
  induction t with
  | nil =>
    cases k with
    | zero => rfl
    | succ k => simp [tw, List.replicate_succ]
  | cons c t ih =>
    simp only [List.mem_cons, not_or] at h
    have hc : (c != 143) = true := by simpa using fun e => h.1 e.symm
    unfold tw at ih ⊢
    rw [List.cons_append, List.takeWhile_cons, hc]
    simp only [if_true]
    rw [ih h.2]
theorem gbl_back {b : Blk} (h : BlkOk b) : gbl (bby b) = b := by
  obtain ⟨⟨h1, h2⟩, ⟨h3, h4⟩, ⟨⟨a1, a2⟩, ⟨a3, a4⟩, ⟨a5, a6⟩, ⟨a7, a8⟩⟩, ⟨⟨c1, c2⟩, ⟨c3, c4⟩, ⟨c5, c6⟩, ⟨c7, c8⟩⟩, d1, d2, ⟨r1, r2⟩, ht, hf⟩ := h
  obtain ⟨g, n, e, s, ⟨H, M, S, F, D⟩, ⟨H', M', S', F', D'⟩, row, al, c, t⟩ := b
  simp only at *
  subst d1 d2
  have hc : ieq (n8 (bif c then (1 : UInt8) else 0)) (n8 (1 : UInt8)) = c := by cases c <;> rfl
  show ((n8 (b8 g), n8 (b8 n) + 256 * n8 (b8 (n / 256)), e, s, (n8 (b8 H), n8 (b8 M), n8 (b8 S), n8 (b8 F), false), (n8 (b8 H'), n8 (b8 M'), n8 (b8 S'), n8 (b8 F'), false), n8 (b8 row), al, ieq (n8 (bif c then (1 : UInt8) else 0)) (n8 (1 : UInt8)), tw (t ++ List.replicate (112 - t.length) 143)) : Blk) = _
  rw [hc, tw_app hf]
  simp only [n8_b8m]
  rw [show g % 256 = g by omega, show n % 256 + 256 * (n / 256 % 256) = n by omega, show H % 256 = H by omega, show M % 256 = M by omega, show S % 256 = S by omega, show F % 256 = F by omega, show H' % 256 = H' by omega, show M' % 256 = M' by omega, show S' % 256 = S' by omega, show F' % 256 = F' by omega, show row % 256 = row by omega]
theorem bput_same (b : Blk) : r23_Put fuelH b = tape_Put fuelH b := by
  obtain ⟨e, _, _, h⟩ := bput_both b
  rcases h with ⟨_, h1, h2⟩ | ⟨_, _, h1, h2⟩
  · rw [h1, h2]
  · rw [h1, h2]
def GoodB (x : List UInt8) (r : Blk × Int) : Prop := r = (bz, 4) ∨ (r.2 = 0 ∧ BlkOk r.1 ∧ x = bby r.1 ∧ tape_Put fuelH r.1 = some (bby r.1, 0))
theorem bget_ok (x : List UInt8) : ∃ r, tape_Get fuelH x = some r ∧ r23_Get fuelH x = some r ∧ GoodB x r := by
  by_cases hl : x.length = 128
  case neg =>
    refine ⟨(bz, 4), ?_, ?_, .inl rfl⟩
    · unfold tape_Get
      rw [cnd_t (ine_t (by simp only [len]; omega))]
      rfl
    · unfold r23_Get
      rw [cnd_t (ine_t (by simp only [len]; omega))]
      rfl
  rw [tget_eq hl, rget_eq hl, bput_same]
  generalize gbl x = b
  have : ∃ r, gfin x b (tape_Put fuelH b) = some r ∧ GoodB x r := by
    obtain ⟨e, _, _, h⟩ := bput_both b
    unfold gfin
    rcases h with ⟨he, h1, _⟩ | ⟨_, H, h1, _⟩
    · rw [h1, bnd_some', cnd_t (ine_t he)]
      exact ⟨_, rfl, .inl rfl⟩
    · rw [h1, bnd_some', cnd_f (ine_f rfl), seq_dec, cnd_bnot]
      split
      · rename_i hx
        exact ⟨_, rfl, .inr ⟨rfl, H, hx, h1⟩⟩
      · exact ⟨_, rfl, .inl rfl⟩
  obtain ⟨r, h1, h2⟩ := this
  exact ⟨r, h1, h1, h2⟩
theorem bget_back {b : Blk} (h : BlkOk b) (hp : tape_Put fuelH b = some (bby b, 0)) : tape_Get fuelH (bby b) = some (b, 0) := by
  rw [tget_eq (bby_len h), gbl_back h, hp]
  unfold gfin
  rw [bnd_some', cnd_f (ine_f rfl), seq_dec, decide_eq_true rfl]
  rfl

/-! ### files written -/
/-- one block more -/
def wrK {R : Type} (Put : Blk → Option (List UInt8 × Int)) (b : Blk) (s : List UInt8) (self : List UInt8 → Option (List R × Int)) : Option (List R × Int) :=
  bnd (Put b) fun v5 => cnd (ine v5.2 (0 : Int)) (some (([] : List R), v5.2)) (grd (room (iadd (len s) (len v5.1)) 1) (self (lapp s v5.1)))
theorem wr_fold : ∀ (l : List Blk) (i : Nat) (s : List UInt8), s.length + 128 * l.length ≤ 100000 → ∃ p e, foldI (fun _ b s self => wrK (R := UInt8) (tape_Put fuelH) b s self) (fun s => some (s, 0)) i l s = some (p, e) ∧
    ((e ≠ 0 ∧ p = []) ∨ (e = 0 ∧ p = s ++ l.flatMap bby ∧ ∀ b ∈ l, BlkOk b ∧ tape_Put fuelH b = some (bby b, 0)))
  | [], i, s, _ => ⟨s, 0, rfl, .inr ⟨rfl, by simp, fun b hb => by cases hb⟩⟩
  | b :: l, i, s, h => by
    simp only [List.length_cons] at h
    rw [foldI]
    unfold wrK
    obtain ⟨e, _, _, hp⟩ := bput_both b
    rcases hp with ⟨he, h1, _⟩ | ⟨_, H, h1, _⟩
    · rw [h1, bnd_some', cnd_t (ine_t he)]
      exact ⟨[], e, rfl, .inl ⟨he, rfl⟩⟩
    · have hl := bby_len H
      rw [h1, bnd_some', cnd_f (ine_f rfl), grd_t (room_t (by simp only [iadd, len]; omega))]
      obtain ⟨p, e', g1, g2⟩ := wr_fold l (i + 1) (s ++ bby b) (by rw [List.length_append]; omega)
      refine ⟨p, e', g1, ?_⟩
      rcases g2 with g2 | ⟨g2, g3, g4⟩
      · exact .inl g2
      · refine .inr ⟨g2, by rw [g3, List.flatMap_cons, List.append_assoc], ?_⟩
        intro c hc
        rcases List.mem_cons.1 hc with rfl | hc
        · exact ⟨H, h1⟩
        · exact g4 c hc
def WrOk (h : Hdr) (l : List Blk) (p : List UInt8) (e : Int) : Prop := (e ≠ 0 ∧ p = []) ∨ (e = 0 ∧ HdrOk h ∧ tape_PutHeader fuelH h = some (hby h, 0) ∧ r23_PutHeader fuelH h = some (hby h, 0) ∧ (l.length : Int) = h.2.2.2.1 ∧ (∀ b ∈ l, BlkOk b ∧ tape_Put fuelH b = some (bby b, 0)) ∧ p = hby h ++ l.flatMap bby)
theorem write_ok {h : Hdr} {l : List Blk} (h2 : h.2.2.1.length ≤ 4000) (hl : l.length ≤ 200) : ∃ p e, tape_Write fuelH (h, l) = some (p, e) ∧ r23_Write fuelH (h, l) = some (p, e) ∧ WrOk h l p e := by
  obtain ⟨c, _, _, hp⟩ := put_both h2
  rcases hp with ⟨he, p1, p2⟩ | ⟨_, H, p1, p2⟩
  · refine ⟨[], c, ?_, ?_, .inl ⟨he, rfl⟩⟩
    · unfold tape_Write
      rw [p1, bnd_some', cnd_t (ine_t he)]
    · unfold r23_Write
      rw [p2, bnd_some', cnd_t (ine_t he)]
  · by_cases hn : (l.length : Int) = h.2.2.2.1
    case neg =>
      refine ⟨[], 1, ?_, ?_, .inl ⟨by decide, rfl⟩⟩
      · unfold tape_Write
        rw [p1, bnd_some', cnd_f (ine_f rfl), cnd_t (ine_t (by simpa only [len] using hn))]
      · unfold r23_Write
        rw [p2, bnd_some', cnd_f (ine_f rfl), cnd_t (ine_t (by simpa only [len] using hn))]
    have hb := hby_len H
    obtain ⟨p, e, g1, g2⟩ := wr_fold l 0 (hby h) (by omega)
    have t1 : tape_Write fuelH (h, l) = some (p, e) := by
      unfold tape_Write
      rw [p1, bnd_some', cnd_f (ine_f rfl), cnd_f (ine_f (by simpa only [len] using hn)), jn_e]
      refine Eq.trans (lst_loop (l := l) (fun (s : List UInt8) (p : Nat) => (s, (p : Int))) (fun _ b s self => wrK (R := UInt8) (tape_Put fuelH) b s self) (fun s => some (s, 0)) (fun self s i hi => ?_) (fun self s => ?_) fuelH 0 (hby h) (Nat.zero_le _) (by show _ < 5000; omega)) g1
      · rw [cnd_t (ilt_t (by simp only [len]; omega)), grd_t (inb_t (by simp only [len]; omega)), lget_i hi, w64_succ hi (by omega)]
        rfl
      · rw [cnd_f (ilt_f (by simp only [len]; omega))]
    have t2 : r23_Write fuelH (h, l) = some (p, e) := by
      unfold r23_Write
      rw [p2, bnd_some', cnd_f (ine_f rfl), cnd_f (ine_f (by simpa only [len] using hn)), jn_e]
      refine Eq.trans (lst_loop (l := l) (fun (s : List UInt8) (p : Nat) => (s, (p : Int))) (fun _ b s self => wrK (R := UInt8) (tape_Put fuelH) b s self) (fun s => some (s, 0)) (fun self s i hi => ?_) (fun self s => ?_) fuelH 0 (hby h) (Nat.zero_le _) (by show _ < 5000; omega)) g1
      · rw [cnd_t (ilt_t (by simp only [len]; omega)), grd_t (inb_t (by simp only [len]; omega)), lget_i hi, w64_succ hi (by omega), bput_same]
        rfl
      · rw [cnd_f (ilt_f (by simp only [len]; omega))]
    refine ⟨p, e, t1, t2, ?_⟩
    rcases g2 with g2 | ⟨g2, g3, g4⟩
    · exact .inl g2
    · exact .inr ⟨g2, H, p1, p2, hn, g4, g3⟩
end Go.Mo
end

section
/-
  Plain facts: files read.
-/
namespace Go.Mo
open Go Go.W Go.Lib
set_option maxRecDepth 100000

abbrev Rd := Hdr × List Blk × Int × Int
noncomputable def rdN (h : Hdr) : Nat → List UInt8 → Nat → List Blk → Option Rd
  | 0, _, _, l => some (h, l, 0, 0)
  | m + 1, y, i, l => bnd (tape_Get fuelH (ltake (toN (128 : Int)) y)) fun v5 => cnd (ine v5.2 (0 : Int)) (some (hz, ([] : List Blk), w64 (iadd (i : Int) (1 : Int)), v5.2)) (rdN h m (ldrop (toN (128 : Int)) y) (i + 1) (lapp l [v5.1]))
theorem tread_loop {h : Hdr} {y : List UInt8} {B : Nat} (hB : h.2.2.2.1 = (B : Int)) (hy : y.length = 128 * B) (hB2 : B ≤ 1000) : ∀ (m fuel i : Nat) (l : List Blk), m = B - i → i ≤ B → m < fuel → l.length = i →
    fixN (fun v3 (v4 : (List Blk) × Int) =>
                cnd (ilt v4.2 h.2.2.2.1)
                  (grd (in3 (w64 (imul v4.2 (128 : Int))) (w64 (imul (w64 (iadd v4.2 (1 : Int))) (128 : Int))) (len y))
                    (bnd (tape_Get fuelH (ldrop (toN (w64 (imul v4.2 (128 : Int)))) (ltake (toN (w64 (imul (w64 (iadd v4.2 (1 : Int))) (128 : Int)))) y))) fun v5 =>
                    cnd (ine v5.2 (0 : Int))
                      (some (hz, ([] : List Blk), w64 (iadd v4.2 (1 : Int)), v5.2))
                      (grd (room (iadd (len v4.1) (len ([v5.1] : List Blk))) 144)
                        (v3 (lapp v4.1 ([v5.1] : List Blk), w64 (iadd v4.2 (1 : Int)))))))
                  (some (h, v4.1, (0 : Int), (0 : Int)))) fuel (l, (i : Int)) = rdN h m (y.drop (128 * i)) i l
  | _, 0, _, _, _, _, h, _ => by omega
  | 0, fuel + 1, i, l, hm, hi, _, _ => by
    rw [fixN_s, hB]
    simp only
    rw [cnd_f (ilt_f (by omega))]
    rfl
  | m + 1, fuel + 1, i, l, hm, hi, hf, hl => by
    rw [fixN_s, hB]
    simp only
    have w1 : w64 (imul (i : Int) (128 : Int)) = ((128 * i : Nat) : Int) := by
      simp only [imul]
      rw [w64_id (by omega)]
      omega
    have w2 : w64 (iadd (i : Int) (1 : Int)) = ((i + 1 : Nat) : Int) := w64_succ (n := B) (by omega) (by omega)
    have w3 : w64 (imul ((i + 1 : Nat) : Int) (128 : Int)) = ((128 * (i + 1) : Nat) : Int) := by
      simp only [imul]
      rw [w64_id (by omega)]
      omega
    have hs : ldrop (toN ((128 * i : Nat) : Int)) (ltake (toN ((128 * (i + 1) : Nat) : Int)) y) = ltake (toN (128 : Int)) (y.drop (128 * i)) := by
      unfold ldrop ltake toN
      rw [Int.toNat_natCast, Int.toNat_natCast, List.drop_take]
      congr 1
      omega
    rw [cnd_t (ilt_t (by omega)), w1, w2, w3, grd_t (in3_t (by simp only [len]; omega)), hs]
    have hr : ∀ b : Blk, room (iadd (len l) (len ([b] : List Blk))) 144 = true := fun b => room_t (by simp only [iadd, len, List.length_singleton]; omega)
    obtain ⟨r, g1, _, _⟩ := bget_ok (ltake (toN (128 : Int)) (y.drop (128 * i)))
    rw [rdN, g1, bnd_some', bnd_some', hr, w2]
    rw [show ∀ k : Option Rd, grd true k = k from fun _ => rfl]
    have := tread_loop hB hy hB2 m fuel (i + 1) (lapp l [r.1]) (by omega) (by omega) (by omega) (by simp only [lapp, List.length_append, List.length_singleton]; omega)
    rw [hB] at this
    rw [this]
    have hd : ldrop (toN (128 : Int)) (y.drop (128 * i)) = y.drop (128 * (i + 1)) := by
      unfold ldrop
      rw [List.drop_drop]
      congr 1
    rw [hd]
theorem rread_loop {h : Hdr} : ∀ (m fuel : Nat) (y : List UInt8) (l : List Blk), y.length = 128 * m → m < fuel → l.length + m ≤ 1000 →
    fixN (fun v3 (v4 : (List UInt8) × List Blk) =>
                cnd (ilt (0 : Int) (len v4.1))
                  (grd (in2 (128 : Int) (len v4.1))
                    (bnd (r23_Get fuelH (ltake (toN (128 : Int)) v4.1)) fun v5 =>
                    cnd (ine v5.2 (0 : Int))
                      (some (hz, ([] : List Blk), w64 (iadd (len v4.2) (1 : Int)), v5.2))
                      (grd (room (iadd (len v4.2) (len ([v5.1] : List Blk))) 144)
                        (grd (in2 (128 : Int) (len v4.1))
                          (v3 (ldrop (toN (128 : Int)) v4.1, lapp v4.2 ([v5.1] : List Blk)))))))
                  (some (h, v4.2, (0 : Int), (0 : Int)))) fuel (y, l) = rdN h m y l.length l
  | _, 0, _, _, _, h, _ => by omega
  | 0, fuel + 1, y, l, hy, _, _ => by
    rw [fixN_s]
    simp only
    rw [cnd_f (ilt_f (by simp only [len]; omega))]
    rfl
  | m + 1, fuel + 1, y, l, hy, hf, hl => by
    rw [fixN_s]
    simp only
    have hr : ∀ b : Blk, room (iadd (len l) (len ([b] : List Blk))) 144 = true := fun b => room_t (by simp only [iadd, len, List.length_singleton]; omega)
    have h2 : in2 (128 : Int) (len y) = true := in2_t (by simp only [len]; omega)
    obtain ⟨r, g1, g2, _⟩ := bget_ok (ltake (toN (128 : Int)) y)
    rw [cnd_t (ilt_t (by simp only [len]; omega)), h2, g2, rdN, g1, bnd_some', bnd_some', hr]
    have hd : (ldrop (toN (128 : Int)) y).length = 128 * m := by
      unfold ldrop
      rw [List.length_drop, hy]
      show 128 * (m + 1) - 128 = _
      omega
    have := rread_loop (h := h) m fuel (ldrop (toN (128 : Int)) y) (lapp l [r.1]) hd (by omega) (by simp only [lapp, List.length_append, List.length_singleton]; omega)
    show cnd _ _ (fixN _ fuel (ldrop (toN (128 : Int)) y, lapp l [r.1])) = _
    rw [this]
    have e : (lapp l [r.1]).length = l.length + 1 := by simp only [lapp, List.length_append, List.length_singleton]
    rw [e]
    rfl
theorem rd_ok {h : Hdr} : ∀ (m : Nat) (y : List UInt8) (i : Nat) (l : List Blk), y.length = 128 * m → ∃ r, rdN h m y i l = some r ∧
    ((r.2.2.2 ≠ 0 ∧ r.1 = hz ∧ r.2.1 = []) ∨ (∃ l', r = (h, l ++ l', 0, 0) ∧ l'.length = m ∧ (∀ b ∈ l', BlkOk b ∧ tape_Put fuelH b = some (bby b, 0)) ∧ y = l'.flatMap bby))
  | 0, y, i, l, hy => ⟨_, rfl, .inr ⟨[], by simp, rfl, (fun b hb => by cases hb), List.eq_nil_of_length_eq_zero (by simpa using hy)⟩⟩
  | m + 1, y, i, l, hy => by
    have hd : (ldrop (toN (128 : Int)) y).length = 128 * m := by
      unfold ldrop
      rw [List.length_drop, hy]
      show 128 * (m + 1) - 128 = _
      omega
    obtain ⟨r, g1, _, g3⟩ := bget_ok (ltake (toN (128 : Int)) y)
    rw [rdN, g1, bnd_some']
    rcases g3 with rfl | ⟨k1, k2, k3, k4⟩
    · exact ⟨_, cnd_t (by rfl), .inl ⟨by show (4 : Int) ≠ 0; decide, rfl, rfl⟩⟩
    · rw [cnd_f (ine_f k1)]
      obtain ⟨r', f1, f2⟩ := rd_ok m (ldrop (toN (128 : Int)) y) (i + 1) (lapp l [r.1]) hd
      refine ⟨r', f1, ?_⟩
      rcases f2 with f2 | ⟨l', f3, f4, f5, f6⟩
      · exact .inl f2
      · refine .inr ⟨r.1 :: l', ?_, by rw [List.length_cons, f4], ?_, ?_⟩
        · rw [f3]
          unfold lapp
          rw [List.append_assoc]
          rfl
        · intro b hb
          rcases List.mem_cons.1 hb with rfl | hb
          · exact ⟨k2, k4⟩
          · exact f5 b hb
        · rw [List.flatMap_cons, ← f6, ← k3]
          exact (List.take_append_drop _ _).symm
theorem rd_back {h : Hdr} : ∀ (l : List Blk) (i : Nat) (s : List Blk), (∀ b ∈ l, BlkOk b ∧ tape_Put fuelH b = some (bby b, 0)) → rdN h l.length (l.flatMap bby) i s = some (h, s ++ l, 0, 0)
  | [], i, s, _ => by rw [List.append_nil]; rfl
  | b :: l, i, s, hb => by
    obtain ⟨h1, h2⟩ := hb b (by simp)
    have hl := bby_len h1
    have e1 : ltake (toN (128 : Int)) ((b :: l).flatMap bby) = bby b := by
      rw [List.flatMap_cons]
      exact List.take_left' hl
    have e2 : ldrop (toN (128 : Int)) ((b :: l).flatMap bby) = l.flatMap bby := by
      rw [List.flatMap_cons]
      exact List.drop_left' hl
    rw [List.length_cons, rdN, e1, e2, bget_back h1 h2, bnd_some', cnd_f (ine_f rfl), rd_back l (i + 1) _ fun c hc => hb c (by simp [hc])]
    unfold lapp
    rw [List.append_assoc]
    rfl
theorem read_form {x : List UInt8} {h : Hdr} {m : Nat} (h1 : tape_GetHeader fuelH (ltake (toN (1024 : Int)) x) = some (h, 0)) (h2 : r23_GetHeader fuelH (ltake (toN (1024 : Int)) x) = some (h, 0)) (hl : x.length = 1024 + 128 * m) (hm : m ≤ 1000) (hb : h.2.2.2.1 = (m : Int)) :
    tape_Read fuelH x = rdN h m (ldrop (toN (1024 : Int)) x) 0 [] ∧ r23_Read fuelH x = rdN h m (ldrop (toN (1024 : Int)) x) 0 [] := by
  have hd : (ldrop (toN (1024 : Int)) x).length = 128 * m := by
    unfold ldrop
    rw [List.length_drop, hl]
    show 1024 + 128 * m - 1024 = _
    omega
  have i2 : in2 (1024 : Int) (len x) = true := in2_t (by simp only [len]; omega)
  have c1 : imod (len (ldrop (toN (1024 : Int)) x)) (128 : Int) = 0 := by
    simp only [imod, len, hd]
    rw [Int.tmod_eq_emod_of_nonneg (by omega)]
    omega
  have c2 : w64 (idiv (len (ldrop (toN (1024 : Int)) x)) (128 : Int)) = h.2.2.2.1 := by
    simp only [idiv, len, hd]
    rw [Int.tdiv_eq_ediv_of_nonneg (by omega), hb, w64_id (by omega)]
    omega
  constructor
  · unfold tape_Read
    rw [cnd_f (ilt_f (by simp only [len]; omega)), grd_t i2, h1, bnd_some', cnd_f (ine_f rfl), grd_t i2, cnd_f (ine_f c1), cnd_f (ine_f c2), jn_e]
    exact tread_loop hb hd hm m fuelH 0 [] (by omega) (Nat.zero_le _) (by show m < 5000; omega) rfl
  · unfold r23_Read
    rw [cnd_f (ilt_f (by simp only [len]; omega)), grd_t i2, h2, bnd_some', cnd_f (ine_f rfl), grd_t i2, cnd_f (ine_f c1), cnd_f (ine_f c2), jn_e]
    exact rread_loop m fuelH (ldrop (toN (1024 : Int)) x) [] hd (by show m < 5000; omega) (by simpa using hm)
def RdOk (x : List UInt8) (r : Rd) : Prop := (r.2.2.2 ≠ 0 ∧ r.1 = hz ∧ r.2.1 = []) ∨ (∃ h l, r = (h, l, 0, 0) ∧ HdrOk h ∧ tape_PutHeader fuelH h = some (hby h, 0) ∧ r23_PutHeader fuelH h = some (hby h, 0) ∧ (l.length : Int) = h.2.2.2.1 ∧ (∀ b ∈ l, BlkOk b ∧ tape_Put fuelH b = some (bby b, 0)) ∧ x = hby h ++ l.flatMap bby)
theorem read_ok {x : List UInt8} (hx : x.length ≤ 20000) : ∃ r, tape_Read fuelH x = some r ∧ r23_Read fuelH x = some r ∧ RdOk x r := by
  by_cases h0 : x.length < 1024
  · refine ⟨(hz, [], 0, 4), ?_, ?_, .inl ⟨by show (4 : Int) ≠ 0; decide, rfl, rfl⟩⟩
    · unfold tape_Read
      rw [cnd_t (ilt_t (by simp only [len]; omega))]
      rfl
    · unfold r23_Read
      rw [cnd_t (ilt_t (by simp only [len]; omega))]
      rfl
  have i2 : in2 (1024 : Int) (len x) = true := in2_t (by simp only [len]; omega)
  obtain ⟨⟨h, e⟩, g1, g2, g3⟩ := readers_same (ltake (toN (1024 : Int)) x)
  have fin : ∀ k : Int, k ≠ 0 → (tape_Read fuelH x = some (hz, [], 0, k)) → (r23_Read fuelH x = some (hz, [], 0, k)) → ∃ r, tape_Read fuelH x = some r ∧ r23_Read fuelH x = some r ∧ RdOk x r := fun k hk a b => ⟨_, a, b, .inl ⟨hk, rfl, rfl⟩⟩
  rcases g3 with g3 | ⟨k1, k2, k3, k4, k5⟩
  · injection g3 with e1 e2
    subst e1 e2
    refine fin 4 (by decide) ?_ ?_
    · unfold tape_Read
      rw [cnd_f (ilt_f (by simp only [len]; omega)), grd_t i2, g1, bnd_some', cnd_t (by rfl)]
      rfl
    · unfold r23_Read
      rw [cnd_f (ilt_f (by simp only [len]; omega)), grd_t i2, g2, bnd_some', cnd_t (by rfl)]
      rfl
  · simp only at k1 k2 k3 k4 k5
    subst k1
    have hd : (ldrop (toN (1024 : Int)) x).length = x.length - 1024 := by
      unfold ldrop
      rw [List.length_drop]
      rfl
    have c1 : imod (len (ldrop (toN (1024 : Int)) x)) (128 : Int) = (((x.length - 1024) % 128 : Nat) : Int) := by
      simp only [imod, len, hd]
      rw [Int.tmod_eq_emod_of_nonneg (by omega)]
      omega
    have c2 : w64 (idiv (len (ldrop (toN (1024 : Int)) x)) (128 : Int)) = (((x.length - 1024) / 128 : Nat) : Int) := by
      simp only [idiv, len, hd]
      rw [Int.tdiv_eq_ediv_of_nonneg (by omega), w64_id (by omega)]
      omega
    by_cases h3 : (x.length - 1024) % 128 = 0
    case neg =>
      refine fin 4 (by decide) ?_ ?_
      · unfold tape_Read
        rw [cnd_f (ilt_f (by simp only [len]; omega)), grd_t i2, g1, bnd_some', cnd_f (ine_f rfl), grd_t i2, c1, cnd_t (ine_t (by omega))]
        rfl
      · unfold r23_Read
        rw [cnd_f (ilt_f (by simp only [len]; omega)), grd_t i2, g2, bnd_some', cnd_f (ine_f rfl), grd_t i2, c1, cnd_t (ine_t (by omega))]
        rfl
    by_cases h4 : (((x.length - 1024) / 128 : Nat) : Int) = h.2.2.2.1
    case neg =>
      refine fin 1 (by decide) ?_ ?_
      · unfold tape_Read
        rw [cnd_f (ilt_f (by simp only [len]; omega)), grd_t i2, g1, bnd_some', cnd_f (ine_f rfl), grd_t i2, c1, cnd_f (ine_f (by omega)), c2, cnd_t (ine_t h4)]
        rfl
      · unfold r23_Read
        rw [cnd_f (ilt_f (by simp only [len]; omega)), grd_t i2, g2, bnd_some', cnd_f (ine_f rfl), grd_t i2, c1, cnd_f (ine_f (by omega)), c2, cnd_t (ine_t h4)]
        rfl
    obtain ⟨f1, f2⟩ := read_form (m := (x.length - 1024) / 128) g1 g2 (by omega) (by omega) h4.symm
    obtain ⟨r, q1, q2⟩ := rd_ok (h := h) ((x.length - 1024) / 128) (ldrop (toN (1024 : Int)) x) 0 [] (by rw [hd]; omega)
    refine ⟨r, f1.trans q1, f2.trans q1, ?_⟩
    rcases q2 with q2 | ⟨l', q3, q4, q5, q6⟩
    · exact .inl q2
    · refine .inr ⟨h, l', by rw [q3, List.nil_append], k2, k4, k5, by rw [q4, h4], q5, ?_⟩
      rw [← q6, ← k3]
      exact (List.take_append_drop _ _).symm
theorem read_back {h : Hdr} {l : List Blk} {p : List UInt8} (hl : l.length ≤ 200) (H : WrOk h l p 0) : tape_Read fuelH p = some (h, l, 0, 0) := by
  rcases H with ⟨hn, _⟩ | ⟨_, H, p1, p2, hn, hb, rfl⟩
  · exact absurd rfl hn
  have hh := hby_len H
  have hf : ∀ l : List Blk, (∀ b ∈ l, BlkOk b ∧ tape_Put fuelH b = some (bby b, 0)) → (l.flatMap bby).length = 128 * l.length := by
    intro l
    induction l with
    | nil => intro _; rfl
    | cons b l ih =>
      intro hb
      rw [List.flatMap_cons, List.length_append, bby_len (hb b (by simp)).1, ih fun c hc => hb c (by simp [hc]), List.length_cons]
      omega
  have e1 : ltake (toN (1024 : Int)) (hby h ++ l.flatMap bby) = hby h := List.take_left' hh
  have e2 : ldrop (toN (1024 : Int)) (hby h ++ l.flatMap bby) = l.flatMap bby := List.drop_left' hh
  obtain ⟨f1, _⟩ := read_form (x := hby h ++ l.flatMap bby) (m := l.length) (by rw [e1]; exact get_back p1 H) (by rw [e1]; exact rg_back p2 H) (by rw [List.length_append, hh, hf l hb]) (by omega) hn.symm
  rw [f1, e2, rd_back l 0 [] hb, List.nil_append]
end Go.Mo
end

section
/-
  Plain facts: TapeWrites and TapeReads return true.
-/
namespace Go.Mo
open Go Go.W Go.Lib
set_option maxRecDepth 100000

theorem same_refl (b : Blk) (h : b.2.2.2.2.2.2.2.2.2.length ≤ 4000) : l23_same fuelH (b, b) = some true := by
  unfold l23_same
  rw [cnd_t (ieq_t rfl), cnd_t (ieq_t rfl), cnd_t (ieq_t rfl), cnd_t (ieq_t rfl), cnd_t (lbl_r b.2.2.2.2.1), cnd_t (lbl_r b.2.2.2.2.2.1), cnd_t (ieq_t rfl), cnd_t (ieq_t rfl), cnd_t (beqb_r _)]
  rw [equal_eq _ _ (by show b.2.2.2.2.2.2.2.2.2.length ≤ 100000; omega) (.inr (by show b.2.2.2.2.2.2.2.2.2.length < 5000; omega)), decide_eq_true rfl]
  rfl
theorem alike_refl (l : List Blk) (hl : l.length ≤ 4000) (h : ∀ b ∈ l, b.2.2.2.2.2.2.2.2.2.length ≤ 4000) : slices_EqualFunc_Lapi_Block_Lapi_Block_api_Block_api_Block fuelH (l, l) = some true := by
  unfold slices_EqualFunc_Lapi_Block_Lapi_Block_api_Block_api_Block
  rw [cnd_f (ine_f rfl), jn_e]
  refine Eq.trans (lst_loop (l := l) (fun (_ : Unit) (p : Nat) => (p : Int)) (fun _ b (_ : Unit) self => bnd (l23_same fuelH (b, b)) fun v4 => cnd (bnot v4) (some false) (self ())) (fun _ => some true) (fun self a i hi => ?_) (fun self a => ?_) fuelH 0 () (Nat.zero_le _) (by show _ < 5000; omega)) ?_
  · rw [cnd_t (ilt_t (by simp only [len]; omega)), grd_t (inb_t (by simp only [len]; omega)), grd_t (inb_t (by simp only [len]; omega)), lget_i hi, w64_succ hi (by omega)]
  · rw [cnd_f (ilt_f (by simp only [len]; omega))]
  · rw [List.drop_zero]
    have : ∀ (l : List Blk) (i : Nat), (∀ b ∈ l, b.2.2.2.2.2.2.2.2.2.length ≤ 4000) → foldI (fun _ b (_ : Unit) self => bnd (l23_same fuelH (b, b)) fun v4 => cnd (bnot v4) (some false) (self ())) (fun _ => some true) i l () = some true := by
      intro l
      induction l with
      | nil => intro i _; rfl
      | cons b l ih =>
        intro i hb
        rw [foldI, same_refl b (hb b (by simp)), bnd_some', cnd_f (by rfl)]
        exact ih (i + 1) fun c hc => hb c (by simp [hc])
    exact this l 0 h
/-- what the first law does behind its cuts -/
noncomputable def wrL (h : Hdr) (l : List Blk) : Option Bool :=
          bnd (tape_Write fuelH (h, l)) fun v3 =>
          bnd (r23_Write fuelH (h, l)) fun v4 =>
          bnd (slices_Equal_Lbyte_byte fuelH (v3.1, v4.1)) fun v5 =>
          cnd (bnot v5)
            (some false)
            (cnd (ine v3.2 v4.2)
              (some false)
              (cnd (ine v3.2 (0 : Int))
                (some (ieq (len v3.1) (0 : Int)))
                (bnd (tape_Read fuelH v3.1) fun v6 =>
                cnd (band (ieq (n8 v6.1.1) (n8 h.1)) (band (seq v6.1.2.1 h.2.1) (band (seq v6.1.2.2.1 h.2.2.1) (band (ieq v6.1.2.2.2.1 h.2.2.2.1) (band (ieq v6.1.2.2.2.2.1 h.2.2.2.2.1) (band (band (ieq v6.1.2.2.2.2.2.1.1 h.2.2.2.2.2.1.1) (band (ieq v6.1.2.2.2.2.2.1.2.1 h.2.2.2.2.2.1.2.1) (band (ieq v6.1.2.2.2.2.2.1.2.2.1 h.2.2.2.2.2.1.2.2.1) (band (ieq v6.1.2.2.2.2.2.1.2.2.2.1 h.2.2.2.2.2.1.2.2.2.1) (beqb v6.1.2.2.2.2.2.1.2.2.2.2 h.2.2.2.2.2.1.2.2.2.2))))) (band (band (ieq v6.1.2.2.2.2.2.2.1.1 h.2.2.2.2.2.2.1.1) (band (ieq v6.1.2.2.2.2.2.2.1.2.1 h.2.2.2.2.2.2.1.2.1) (band (ieq v6.1.2.2.2.2.2.2.1.2.2.1 h.2.2.2.2.2.2.1.2.2.1) (band (ieq v6.1.2.2.2.2.2.2.1.2.2.2.1 h.2.2.2.2.2.2.1.2.2.2.1) (beqb v6.1.2.2.2.2.2.2.1.2.2.2.2 h.2.2.2.2.2.2.1.2.2.2.2))))) (band (ieq v6.1.2.2.2.2.2.2.2.1 h.2.2.2.2.2.2.2.1) (ieq v6.1.2.2.2.2.2.2.2.2 h.2.2.2.2.2.2.2.2)))))))))
                  (bnd (slices_EqualFunc_Lapi_Block_Lapi_Block_api_Block_api_Block fuelH (l, v6.2.1)) fun v7 =>
                  cnd v7
                    (cnd (ieq v6.2.2.1 (0 : Int))
                      (some (ieq v6.2.2.2 (0 : Int)))
                      (some false))
                    (some false))
                  (some false))))
theorem flat_len : ∀ l : List Blk, (∀ b ∈ l, BlkOk b ∧ tape_Put fuelH b = some (bby b, 0)) → (l.flatMap bby).length = 128 * l.length
  | [], _ => rfl
  | b :: l, hb => by
    rw [List.flatMap_cons, List.length_append, bby_len (hb b (by simp)).1, flat_len l fun c hc => hb c (by simp [hc]), List.length_cons]
    omega
theorem bytes_refl {p : List UInt8} (h : p.length ≤ 4000) : slices_Equal_Lbyte_byte fuelH (p, p) = some true := by
  rw [equal_eq p p (by omega) (.inr (by show _ < 5000; omega)), decide_eq_true rfl]
theorem wrL_true {h : Hdr} {l : List Blk} (h2 : h.2.2.1.length ≤ 4000) (hl : l.length ≤ 5) : wrL h l = some true := by
  obtain ⟨p, e, g1, g2, g3⟩ := write_ok (l := l) h2 (by omega)
  unfold wrL
  rw [g1, bnd_some', g2, bnd_some']
  by_cases he : e = 0
  · subst he
    have hr := read_back (by omega) g3
    rcases g3 with ⟨hn, _⟩ | ⟨_, H, _, _, _, hb, hp⟩
    · exact absurd rfl hn
    have hpl : p.length ≤ 4000 := by
      rw [hp, List.length_append, hby_len H, flat_len l hb]
      omega
    rw [bytes_refl hpl, bnd_some', cnd_f (by rfl), cnd_f (ine_f rfl), cnd_f (ine_f rfl), hr, bnd_some', cnd_t (hdr_r h), alike_refl l (by omega) (fun b hc => by have := (hb b hc).1.txt; omega), bnd_some', cnd_t rfl, cnd_t (ieq_t rfl)]
    rfl
  · rcases g3 with ⟨_, rfl⟩ | ⟨hn, _⟩
    · rw [bytes_refl (by show 0 ≤ 4000; decide), bnd_some', cnd_f (by rfl), cnd_f (ine_f rfl), cnd_t (ine_t he)]
      rfl
    · exact absurd hn he
noncomputable def wrA (x : Hdr × List Blk) (v1 : List Blk) : Option Bool :=
        jn (fun (_ : Unit) => wrL (x.1.1, ltake (toN (imin (len x.1.2.1) (40 : Int))) x.1.2.1, ltake (toN (imin (len x.1.2.2.1) (420 : Int))) x.1.2.2.1, x.1.2.2.2) v1)
        fun v8 =>
        fixN (fun v9 (v10 : Int) =>
          cnd (ilt v10 (len v1))
            (grd (inb v10 (len v1))
              (cnd (ilt (200 : Int) (len (lget v1 (toN v10) bz).2.2.2.2.2.2.2.2.2))
                (some true)
                (v9 (w64 (iadd v10 (1 : Int))))))
            (v8 ())) fuelH (0 : Int)
theorem writes_eq (x : Hdr × List Blk) : l23_TapeWrites fuelH x = bnd (l23_awake fuelH ()) fun v0 => cnd (bnot v0) (some false) (grd (in2 (imin (len x.1.2.1) (40 : Int)) (len x.1.2.1)) (grd (in2 (imin (len x.1.2.2.1) (420 : Int)) (len x.1.2.2.1)) (bnd (l23_few fuelH x.2) fun v1 => wrA x v1))) := by kernel_rfl
theorem writes_true0 (x : Hdr × List Blk) : l23_TapeWrites fuelH x = some true := by
  have hf : l23_few fuelH x.2 = some (ltake (toN (imin (len x.2) (5 : Int))) x.2) := by
    unfold l23_few
    exact grd_t (in2_t (by simp only [imin, len]; omega))
  have hl : (ltake (toN (imin (len x.2) (5 : Int))) x.2).length ≤ 5 := by
    simp only [ltake, toN, imin, len, List.length_take]
    omega
  have h2 := take_ok (l := x.1.2.2.1) (n := 420)
  rw [writes_eq, awake_true (by decide), bnd_some', cnd_f (by rfl), grd_t (take_in (by decide)), grd_t (take_in (by decide)), hf, bnd_some']
  generalize ltake (toN (imin (len x.2) (5 : Int))) x.2 = l at hl
  unfold wrA
  rw [jn_e]
  have hw : wrL (x.1.1, ltake (toN (imin (len x.1.2.1) (40 : Int))) x.1.2.1, ltake (toN (imin (len x.1.2.2.1) (420 : Int))) x.1.2.2.1, x.1.2.2.2) l = some true := wrL_true (by exact Nat.le_trans h2 (by decide)) hl
  refine Eq.trans (lst_loop (l := l) (fun (_ : Unit) (p : Nat) => (p : Int)) (fun _ b (_ : Unit) self => cnd (ilt (200 : Int) (len b.2.2.2.2.2.2.2.2.2)) (some true) (self ())) (fun _ => some true) (fun self a i hi => ?_) (fun self a => ?_) fuelH 0 () (Nat.zero_le _) (by show _ < 5000; omega)) ?_
  · rw [cnd_t (ilt_t (by simp only [len]; omega)), grd_t (inb_t (by simp only [len]; omega)), lget_i hi, w64_succ hi (by omega)]
  · rw [cnd_f (ilt_f (by simp only [len]; omega))]
    exact hw
  · rw [List.drop_zero]
    have : ∀ (l : List Blk) (i : Nat), foldI (fun _ (b : Blk) (_ : Unit) self => cnd (ilt (200 : Int) (len b.2.2.2.2.2.2.2.2.2)) (some true) (self ())) (fun _ => some true) i l () = some true := by
      intro l
      induction l with
      | nil => intro i; rfl
      | cons b l ih =>
        intro i
        rw [foldI]
        exact cnd_same rfl (ih (i + 1))
    exact this l 0

/-! ### the second law -/
theorem wr_back : ∀ (l : List Blk) (i : Nat) (s : List UInt8), s.length + 128 * l.length ≤ 100000 → (∀ b ∈ l, BlkOk b ∧ tape_Put fuelH b = some (bby b, 0)) → foldI (fun _ b s self => wrK (R := UInt8) (tape_Put fuelH) b s self) (fun s => some (s, 0)) i l s = some (s ++ l.flatMap bby, 0)
  | [], i, s, _, _ => by simp [foldI]
  | b :: l, i, s, h, hb => by
    obtain ⟨h1, h2⟩ := hb b (by simp)
    have hl := bby_len h1
    simp only [List.length_cons] at h
    rw [foldI]
    unfold wrK
    rw [h2, bnd_some', cnd_f (ine_f rfl), grd_t (room_t (by simp only [iadd, len]; omega))]
    show foldI _ _ _ l (s ++ bby b) = _
    have := wr_back l (i + 1) (s ++ bby b) (by rw [List.length_append]; omega) fun c hc => hb c (by simp [hc])
    unfold wrK at this
    rw [this, List.flatMap_cons, List.append_assoc]
theorem write_back {h : Hdr} {l : List Blk} (hl : l.length ≤ 200) (H : HdrOk h) (p1 : tape_PutHeader fuelH h = some (hby h, 0)) (hn : (l.length : Int) = h.2.2.2.1) (hb : ∀ b ∈ l, BlkOk b ∧ tape_Put fuelH b = some (bby b, 0)) : tape_Write fuelH (h, l) = some (hby h ++ l.flatMap bby, 0) := by
  have hh := hby_len H
  unfold tape_Write
  rw [p1, bnd_some', cnd_f (ine_f rfl), cnd_f (ine_f (by simpa only [len] using hn)), jn_e]
  refine Eq.trans (lst_loop (l := l) (fun (s : List UInt8) (p : Nat) => (s, (p : Int))) (fun _ b s self => wrK (R := UInt8) (tape_Put fuelH) b s self) (fun s => some (s, 0)) (fun self s i hi => ?_) (fun self s => ?_) fuelH 0 (hby h) (Nat.zero_le _) (by show _ < 5000; omega)) (wr_back l 0 (hby h) (by omega) hb)
  · rw [cnd_t (ilt_t (by simp only [len]; omega)), grd_t (inb_t (by simp only [len]; omega)), lget_i hi, w64_succ hi (by omega)]
    rfl
  · rw [cnd_f (ilt_f (by simp only [len]; omega))]
noncomputable def rdL (x : List UInt8) : Option Bool :=
      bnd (tape_Read fuelH x) fun v1 =>
      bnd (r23_Read fuelH x) fun v2 =>
      cnd (bnot (band (ieq (n8 v1.1.1) (n8 v2.1.1)) (band (seq v1.1.2.1 v2.1.2.1) (band (seq v1.1.2.2.1 v2.1.2.2.1) (band (ieq v1.1.2.2.2.1 v2.1.2.2.2.1) (band (ieq v1.1.2.2.2.2.1 v2.1.2.2.2.2.1) (band (band (ieq v1.1.2.2.2.2.2.1.1 v2.1.2.2.2.2.2.1.1) (band (ieq v1.1.2.2.2.2.2.1.2.1 v2.1.2.2.2.2.2.1.2.1) (band (ieq v1.1.2.2.2.2.2.1.2.2.1 v2.1.2.2.2.2.2.1.2.2.1) (band (ieq v1.1.2.2.2.2.2.1.2.2.2.1 v2.1.2.2.2.2.2.1.2.2.2.1) (beqb v1.1.2.2.2.2.2.1.2.2.2.2 v2.1.2.2.2.2.2.1.2.2.2.2))))) (band (band (ieq v1.1.2.2.2.2.2.2.1.1 v2.1.2.2.2.2.2.2.1.1) (band (ieq v1.1.2.2.2.2.2.2.1.2.1 v2.1.2.2.2.2.2.2.1.2.1) (band (ieq v1.1.2.2.2.2.2.2.1.2.2.1 v2.1.2.2.2.2.2.2.1.2.2.1) (band (ieq v1.1.2.2.2.2.2.2.1.2.2.2.1 v2.1.2.2.2.2.2.2.1.2.2.2.1) (beqb v1.1.2.2.2.2.2.2.1.2.2.2.2 v2.1.2.2.2.2.2.2.1.2.2.2.2))))) (band (ieq v1.1.2.2.2.2.2.2.2.1 v2.1.2.2.2.2.2.2.2.1) (ieq v1.1.2.2.2.2.2.2.2.2 v2.1.2.2.2.2.2.2.2.2))))))))))
        (some false)
        (bnd (slices_EqualFunc_Lapi_Block_Lapi_Block_api_Block_api_Block fuelH (v1.2.1, v2.2.1)) fun v3 =>
        cnd (bnot v3)
          (some false)
          (cnd (ine v1.2.2.1 v2.2.2.1)
            (some false)
            (cnd (ine v1.2.2.2 v2.2.2.2)
              (some false)
              (bnd (tape_Write fuelH (v1.1, v1.2.1)) fun v4 =>
              cnd (ine v1.2.2.2 (0 : Int))
                (some true)
                (cnd (ieq v4.2 (0 : Int))
                  (bnd (slices_Equal_Lbyte_byte fuelH (x, v4.1)) fun v5 =>
                  some v5)
                  (some false))))))
theorem readsL_eq (x : List UInt8) : l23_TapeReads fuelH x = bnd (l23_awake fuelH ()) fun v0 => cnd (bnot v0) (some false) (grd (in2 (imin (len x) (1700 : Int)) (len x)) (rdL (ltake (toN (imin (len x) (1700 : Int))) x))) := by kernel_rfl
theorem rdL_true {x : List UInt8} (hx : x.length ≤ 4000) : rdL x = some true := by
  obtain ⟨r, g1, g2, g3⟩ := read_ok (x := x) (by omega)
  unfold rdL
  rw [g1, bnd_some', g2, bnd_some', cnd_f (by rw [hdr_r r.1]; rfl)]
  rcases g3 with ⟨k1, k2, k3⟩ | ⟨h, l, rfl, H, p1, _, hn, hb, rfl⟩
  · obtain ⟨p, e, w1, _, _⟩ := write_ok (h := hz) (l := []) (by decide) (by decide)
    rw [k3, alike_refl [] (by decide) (fun b hb => by cases hb), bnd_some', cnd_f (by rfl), cnd_f (ine_f rfl), cnd_f (ine_f rfl), k2, w1, bnd_some', cnd_t (ine_t k1)]
  · have hl : l.length ≤ 200 := by
      rw [List.length_append, hby_len H, flat_len l hb] at hx
      omega
    rw [alike_refl l (by omega) (fun b hc => by have := (hb b hc).1.txt; omega), bnd_some', cnd_f (by rfl), cnd_f (ine_f rfl), cnd_f (ine_f rfl), write_back hl H p1 hn hb, bnd_some', cnd_f (ine_f rfl), cnd_t (ieq_t rfl), bytes_refl hx]
    rfl
theorem reads_true0 (x : List UInt8) : l23_TapeReads fuelH x = some true := by
  rw [readsL_eq, awake_true (by decide), bnd_some', cnd_f (by rfl), grd_t (take_in (by decide))]
  exact rdL_true (Nat.le_trans (take_ok (l := x) (n := 1700)) (by decide))
end Go.Mo
end
