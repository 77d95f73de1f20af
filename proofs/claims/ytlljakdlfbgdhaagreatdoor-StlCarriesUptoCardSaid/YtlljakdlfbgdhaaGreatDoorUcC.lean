/-
  Texts put together, in build order: RS PFt PI PJ PK PL PMb PN PO PP PQ PR PS PT SA SC PU SJ SK SL SM SN SO SP SQ SW SX.
-/
import Derived.Test.YtlljakdlfbgdhaaGreatDoorUcB
set_option linter.all false

section
/-
  Plain facts: a reduced document is good; StlReduced returns true.
-/
namespace Go.Mo
open Go Go.W Go.Lib
set_option maxRecDepth 100000
noncomputable section
def redF (d : Doc) : Doc := (d.1, d.2.1, d.2.2.1, d.2.2.2.1, len d.2.2.2.2.2.2.1, regsR d.2.2.2.2.2.1 d.2.2.2.2.2.2.1 [], evsR d.2.2.2.2.2.1 0 d.2.2.2.2.2.2.1, [])
theorem redD_eq {d : Doc} (h : docChk d = 0) : redD d = some (redF d) := by
 unfold redD
 rw [if_neg (by rw [h]; simp), red_eq]
 rfl
theorem acc_zero {rs : List Reg} {day : Int} : ∀ (l : List Ev) (i : Nat) (a : List Reg) (v : Int), itI (acceptRnd rs day) (fun _ => some (-1, 0)) i l a = some (v, 0) → a.length ≤ 16 → v = -1 ∧ (regsR rs l a).length ≤ 16
 | [], i, a, v, h, ha => by
  simp only [itI, Option.some.injEq, Prod.mk.injEq] at h
  exact ⟨h.1.symm, ha⟩
 | x :: l, i, a, v, h, ha => by
  simp only [itI, acceptRnd] at h
  by_cases h1 : day ≤ x.2.1.2
  ·rw [if_pos h1] at h; simp at h
  rw [if_neg h1] at h
  by_cases h2 : 16 < (addS a (regOf (placeE x rs))).length
  ·rw [if_pos h2] at h; simp at h
  rw [if_neg h2] at h
  exact acc_zero l (i + 1) _ v h (by omega)
theorem acceptS_zero {d : Doc} {v : Int} (h : acceptS d = some (v, 0)) : docChk d = 0 ∧ (d.2.2.1 = 3 ∨ d.2.2.1 = 5) ∧ acceptL d = some (-1, 0) ∧ (regsR d.2.2.2.2.2.1 d.2.2.2.2.2.2.1 []).length ≤ 16 := by
 unfold acceptS at h
 by_cases c1 : docChk d ≠ 0
 ·rw [if_pos c1] at h
  injection h with h
  injection h with _ h
  exact absurd h c1
 rw [if_neg c1] at h
 by_cases c2 : d.2.2.1 = 3 ∨ d.2.2.1 = 5
 ·rw [if_neg (not_not_intro c2)] at h
  obtain ⟨e, h3⟩ := acc_zero _ _ _ _ h (by simp)
  subst e
  exact ⟨by simpa using c1, c2, h, h3⟩
 ·rw [if_pos c2] at h
  simp at h
theorem placeL_zero {r : Reg} {k : Nat} : ∀ (l : List Int) (i : Nat) (out : List Spot), (∀ n ∈ l, 0 ≤ n ∧ n ≤ r.2.2.2.2.1) → (placeL r k i l out).2 = 0
 | [], _, _, _ => rfl
 | n :: l, i, out, h => by
  have hn := h n List.mem_cons_self
  simp only [placeL]
  rw [if_neg (by omega), if_neg (by omega)]
  exact placeL_zero l _ _ fun m hm => h m (List.mem_cons_of_mem _ hm)
theorem evR_chk {rs : List Reg} {l : List Ev} (hg : goodE rs l) {x : Ev} (hx : x ∈ l) {i : Nat} (hi : i < 1000) : evChk (evR rs i x) (regsR rs l []) = 0 := by
 have hc := hg x hx
 obtain ⟨_, _, h3, h4, h5, h6, _⟩ := ev_ok hc
 have hfit := place_fit hc
 have hbd := place_bd hc
 have hf : findR (regsR rs l []) (evR rs i x).2.2.1 = some (regOf (placeE x rs)) := regsR_find hg hx
 have hll : (x.2.2.2.2.2.map back).length = x.2.2.2.2.2.length := List.length_map ..
 unfold evChk
 rw [hf]
 have e1 : (evR rs i x).1 = ((i + 1 : Nat) : Int) := rfl
 have e2 : (evR rs i x).2.1 = x.2.1 := rfl
 have e3 : (evR rs i x).2.2.2.1 = 1 := rfl
 have e4 : (evR rs i x).2.2.2.2.1 = [] := rfl
 have e5 : (evR rs i x).2.2.2.2.2 = x.2.2.2.2.2.map back := rfl
 rw [e1, e2, e3, e4, e5, if_neg (by omega), if_neg (by omega), if_neg (not_not_intro h3)]
 simp only
 rw [if_neg (not_not_intro ⟨by decide, by decide⟩), if_neg (fun k => k.1 rfl), if_neg (by omega), if_neg (by omega), rowsE_of _ _ fun r hr => by
  obtain ⟨q, hq, rfl⟩ := List.mem_map.1 hr
  exact back_rowE (h6 q hq), lens_back h6]
 unfold placeS
 have hl2 : (lens x.2.2.2.2.2).length = x.2.2.2.2.2.length := by unfold lens; rw [List.length_map]
 have e6 : (regOf (placeE x rs)).2.2.1 = 15 - (placeE x rs).1 := rfl
 rw [if_neg (not_not_intro (.inr (regOf_chk hbd))), hl2, e6, if_neg (by omega)]
 refine placeL_zero _ _ _ fun n hn => ?_
 unfold lens at hn
 obtain ⟨q, hq, rfl⟩ := List.mem_map.1 hn
 have := (rowE_zero (h6 q hq)).2.2
 have e7 : (regOf (placeE x rs)).2.2.2.2.1 = 32 := rfl
 rw [e7]
 omega
theorem doc_parts {d : Doc} (h : docChk d = 0) : headChk d = 0 ∧ d.2.2.2.2.2.2.1.length ≤ 400 ∧ evsChk d = 0 := by
 unfold docChk at h
 split at h
 ·rename_i hc; exact absurd h hc
 rename_i c1
 split at h
 ·rename_i hc; exact absurd h hc
 split at h
 ·cases h
 rename_i hn
 split at h
 ·rename_i hc; exact absurd h hc
 rename_i hc
 exact ⟨by simpa using c1, by omega, by simpa using hc⟩
end
end Go.Mo
end

section
/-
  Plain facts of the headers of the tape form.
-/
namespace Go.Mo
open Go Go.W Go.Lib
set_option maxRecDepth 100000
noncomputable section
theorem clone_eq (N : Nat) (x : List UInt8) (h : (x.length : Int) ≤ 140737488355328) : q94 N x = some x := by
 have h1 : grd (room (iadd (len ([] : List UInt8)) (len x)) 1) (some (lapp ([] : List UInt8) x)) = some x := by
  rw [grd_t (room_t (by simp [iadd, len]; omega))]
  rfl
 unfold q94
 cases x with
 | nil =>
  rw [cnd_f (by rfl)]
  exact univ_of rfl h1
 | cons a x =>
  rw [cnd_t (ine_t (by simp [len]; omega))]
  exact h1
theorem mul_tab : ((List.range 1025).all fun n => decide (q99 0 (1, (n : Int)) = some (0, (n : Int)))) = true := by kernel_rfl
theorem mul_one {N n : Nat} (h : n ≤ 1024) : bits_Mul N (1, (n : Int)) = some (0, (n : Int)) := by
 have := List.all_eq_true.1 mul_tab n (List.mem_range.2 (by omega))
 have e : q99 N (1, (n : Int)) = some (0, (n : Int)) := of_decide_eq_true this
 unfold bits_Mul
 rw [bnd_s e]
theorem repeat_eq {N : Nat} (hN : 1100 ≤ N) (b : UInt8) {n : Nat} (h0 : 0 < n) (hn : n ≤ 1024) : q100 N ([b], (n : Int)) = some (List.replicate n b) := by
 unfold q100
 simp only
 rw [cnd_f (ieq_f (by omega)), cnd_f (ilt_f (by omega))]
 have e1 : wr .u64 (len [b]) = 1 := by rw [wru64_id (by simp [len])]; rfl
 have e2 : wr .u64 (n : Int) = (n : Int) := wru64_id (by omega)
 rw [e1, e2, bnd_s (mul_one hn)]
 simp only
 have ew : w64 (n : Int) = (n : Int) := w64_id (by omega)
 rw [cnd_f (by rfl), cnd_f (ilt_f (by omega)), cnd_f (by rfl), ew]
 simp only [jn_e]
 rw [cnd_f (ilt_f (by omega)), grd_t (mkOk_t (by omega))]
 refine univL_of fun l hl => ?_
 have hl : l.length = n := by simpa [toN] using hl
 rw [grd_t (in3_t (by simp only [len]; omega))]
 have ht : ltake (toN (n : Int)) l = l := by simp only [ltake, toN, Int.toNat_natCast]; rw [List.take_of_length_le (by omega)]
 rw [ht]
 have hm : imin (len [b]) (len l) = ((1 : Nat) : Int) := by simp only [imin, len, List.length_singleton]; omega
 rw [hm]
 have hq : putl l 0 (ltake (nlen l) [b]) = b :: l.drop 1 := by
  simp only [putl, ltake, nlen, List.take_zero, List.nil_append]
  rw [List.take_of_length_le (by simp; omega)]
  rfl
 rw [hq]
 refine rep_loop hn N 1 _ (by omega) (Nat.le_refl _) h0 (by simp; omega) rfl
theorem kind_eq (N : Nat) (x : UInt8 × Bool) : q85 N x = r03_kind N x := by
 unfold q85 r03_kind
 rw [(rate_eq N x.1).1, (rate_eq N x.1).2.1]
theorem check_eq (N : Nat) (x : UInt8 × Int × Int × Int × Int × Bool) : q96 N x = q174 N x := by
 unfold q96 q174
 rw [kind_eq, (rate_eq N x.1).2.2]
 congr 1
 funext v0
 congr 2
 congr 1
 congr 1
 congr 1
 congr 1
 congr 1
 by_cases hF : ilt x.2.2.2.2.1 0 = true
 ·rw [cnd_t hF, cnd_t hF]
 ·have hF : ilt x.2.2.2.2.1 0 = false := by simpa using hF
  rw [cnd_f hF, cnd_f hF]
  have h0 : ¬ x.2.2.2.2.1 < 0 := of_decide_eq_false hF
  congr 1
  funext v1
  congr 1
  cases hd : x.2.2.2.2.2 with
  | true =>
   rw [cnd_t rfl]
   congr 2
  | false =>
   rw [cnd_f rfl]
   have e : q87 N (x.1, false) = some 0 := rfl
   rw [bnd_s e, cnd_f (ilt_f h0)]
   have c2 : ∀ b : Bool, cnd b (some (0 : Int)) (some 0) = some 0 := fun b => by cases b <;> rfl
   rw [c2, c2]
theorem within_eq (N : Nat) (n lo hi : Int) : q169 N (n, lo, hi) = some (decide (lo ≤ n ∧ n ≤ hi)) := by
 unfold q169
 simp only
 rw [cnd_ile]
 split
 ·simp only [ile, Option.some.injEq, decide_eq_decide]; omega
 ·simp only [Option.some.injEq]; exact (decide_eq_false (by omega)).symm
theorem checkHeader_eq (h : Hdr) (h2 : h.2.2.1.length ≤ 4000000) : q97 fuelH h = q175 fuelH h := by
 unfold q97 q175
 simp only [ch_valid _ h2, r08_valid _ h2, lines_name, r07_name, within_eq, bnd_some', rng_eq, check_eq]
 kernel_rfl
end
end Go.Mo
end

section
/-
  Plain facts: digits and the bytes of a header.
-/
namespace Go.Mo
open Go Go.W Go.Lib
set_option maxRecDepth 100000
noncomputable def dg (v : Int) : UInt8 := b8 (w64 (iadd 48 (imod v 10)))
noncomputable def dv (v : Int) : Int := w64 (idiv v 10)
theorem digits2 (v : Int) : q102 fuelH (v, 2) = some [dg (dv v), dg v] := by kernel_rfl
theorem digits3 (v : Int) : q102 fuelH (v, 3) = some [dg (dv (dv v)), dg (dv v), dg v] := by kernel_rfl
theorem digits5 (v : Int) : q102 fuelH (v, 5) = some [dg (dv (dv (dv (dv v)))), dg (dv (dv (dv v))), dg (dv (dv v)), dg (dv v), dg v] := by kernel_rfl
theorem r23_digits2 (v : Int) : q180 fuelH (v, 2) = some [dg (dv v), dg v] := by kernel_rfl
theorem r23_digits3 (v : Int) : q180 fuelH (v, 3) = some [dg (dv (dv v)), dg (dv v), dg v] := by kernel_rfl
theorem r23_digits5 (v : Int) : q180 fuelH (v, 5) = some [dg (dv (dv (dv (dv v)))), dg (dv (dv (dv v))), dg (dv (dv v)), dg (dv v), dg v] := by kernel_rfl
noncomputable def clk (l : Lbl) : List UInt8 := [dg (dv l.1), dg l.1, dg (dv l.2.1), dg l.2.1, dg (dv l.2.2.1), dg l.2.2.1, dg (dv l.2.2.2.1), dg l.2.2.2.1]
theorem clock_eq (l : Lbl) : q103 fuelH l = some (clk l) := by kernel_rfl
theorem label_eq (l : Lbl) : q181 fuelH l = some (clk l) := by kernel_rfl
noncomputable def hdg (h : Hdr) (n : Int) : List UInt8 :=
 [dg (dv (dv n)), dg (dv n), dg n] ++ [dg (dv (dv (dv (dv h.2.2.2.1)))), dg (dv (dv (dv h.2.2.2.1))), dg (dv (dv h.2.2.2.1)), dg (dv h.2.2.2.1), dg h.2.2.2.1] ++ [dg (dv (dv (dv (dv h.2.2.2.2.1)))), dg (dv (dv (dv h.2.2.2.2.1))), dg (dv (dv h.2.2.2.2.1)), dg (dv h.2.2.2.2.1), dg h.2.2.2.2.1] ++ clk h.2.2.2.2.2.1 ++ clk h.2.2.2.2.2.2.1 ++ [dg (dv h.2.2.2.2.2.2.2.1), dg h.2.2.2.2.2.2.2.1] ++ [dg (dv h.2.2.2.2.2.2.2.2), dg h.2.2.2.2.2.2.2.2]
noncomputable def sig (r : UInt8) : List UInt8 := if r = 5 then [83, 84, 76, 51, 48, 46, 48, 49] else [83, 84, 76, 50, 53, 46, 48, 49]
noncomputable def pad (l : List UInt8) (n : Nat) : List UInt8 := l ++ List.replicate (n - l.length) 32
noncomputable def hby (h : Hdr) : List UInt8 := sig h.1 ++ pad h.2.1 16 ++ pad (hdg h ((latE h.2.2.1).length : Int)) 40 ++ pad (latE h.2.2.1) 960
theorem sig_len (r : UInt8) : (sig r).length = 8 := by unfold sig; split <;> rfl
theorem hdg_len (h : Hdr) (n : Int) : (hdg h n).length = 33 := rfl
theorem pad_len {l : List UInt8} {n : Nat} (h : l.length ≤ n) : (pad l n).length = n := by simp [pad]; omega
theorem fill_eq {l : List UInt8} {n : Nat} (hn : n ≤ 1100) (hl : l.length ≤ n) : r23_fill fuelH (l, (n : Int), 32) = some (pad l n) := by
 unfold r23_fill
 rw [jn_e, grd_t (room_t (by simp [iadd, len]; omega))]
 have : ∀ (fuel : Nat) (m : List UInt8), n - m.length < fuel → m.length ≤ n → fixN (fun v2 (v3 : List UInt8) =>
  cnd (ilt (len v3) (n : Int))
   (grd (room (iadd (len v3) (len ([32] : List UInt8))) 1)
    (v2 (lapp v3 ([32] : List UInt8))))
   (some v3)) fuel m = some (pad m n) := by
  intro fuel
  induction fuel with
  | zero => intro m h; omega
  | succ fuel ih =>
   intro m h h2
   rw [fixN_s]
   by_cases hm : m.length < n
   ·rw [cnd_t (ilt_t (by simp only [len]; omega)), grd_t (room_t (by simp [iadd, len]; omega)), ih _ (by simp [lapp]; omega) (by simp [lapp]; omega)]
    congr 1
    unfold pad lapp
    obtain ⟨k, hk⟩ : ∃ k, n - m.length = k + 1 := ⟨n - m.length - 1, by omega⟩
    rw [hk, List.replicate_succ, List.length_append, List.append_assoc]
    simp only [List.length_singleton, show n - (m.length + 1) = k by omega]
    rfl
   ·rw [cnd_f (ilt_f (by simp only [len]; omega))]
    unfold pad
    rw [show n - m.length = 0 by omega]
    simp
 have := this fuelH (lapp [] l) (by have := fuelH_eq; simp [lapp]; omega) (by simp [lapp]; omega)
 simpa [lapp] using this
end Go.Mo
end

section
/-
  Plain facts: what the check of a header lets through; the bytes of a header.
-/
namespace Go.Mo
open Go Go.W Go.Lib
set_option maxRecDepth 100000
noncomputable section
noncomputable def lblOk (l : Lbl) : Prop := (0 ≤ l.1 ∧ l.1 ≤ 23) ∧ (0 ≤ l.2.1 ∧ l.2.1 ≤ 59) ∧ (0 ≤ l.2.2.1 ∧ l.2.2.1 ≤ 59) ∧ (0 ≤ l.2.2.2.1 ∧ l.2.2.2.1 ≤ 59)
structure HdrOk (h : Hdr) : Prop where
 rate : h.1 = 3 ∨ h.1 = 5
 lang : h.2.1 = [] ∨ nm h.2.1 = true
 ttl : vld h.2.2.1 = true
 ttlL : h.2.2.1.length ≤ 400
 blocks : 0 ≤ h.2.2.2.1 ∧ h.2.2.2.1 ≤ 99999
 groups : 0 ≤ h.2.2.2.2.1 ∧ h.2.2.2.2.1 ≤ 99999
 start : lblOk h.2.2.2.2.2.1
 first : lblOk h.2.2.2.2.2.2.1
 rows : 0 ≤ h.2.2.2.2.2.2.2.1 ∧ h.2.2.2.2.2.2.2.1 ≤ 99
 cols : 0 ≤ h.2.2.2.2.2.2.2.2 ∧ h.2.2.2.2.2.2.2.2 ≤ 99
 d1 : h.2.2.2.2.2.1.2.2.2.2 = false
 d2 : h.2.2.2.2.2.2.1.2.2.2.2 = false
theorem r03_ok (N : Nat) {r : UInt8} (l : Lbl) (hr : r = 3 ∨ r = 5) : ∃ e, q174 N (r, l) = some e ∧ (e = 0 → lblOk l) := by
 obtain ⟨H, M, S, F, D⟩ := l
 cases D with
 | true =>
  refine ⟨13, ?_, fun h => absurd h (by decide)⟩
  rcases hr with rfl | rfl <;> kernel_rfl
 | false =>
  have e : ∃ n : Int, (n = 25 ∨ n = 30) ∧ q174 N (r, H, M, S, F, false) = cnd (ilt H 0) (some 2) (cnd (ilt 23 H) (some 2) (cnd (ilt M 0) (some 2) (cnd (ilt 59 M) (some 2) (cnd (ilt S 0) (some 2) (cnd (ilt 59 S) (some 2) (cnd (ilt F 0) (some 2) (cnd (ile n F) (some 2) (some 0)))))))) := by
   rcases hr with rfl | rfl
   ·exact ⟨25, .inl rfl, by kernel_rfl⟩
   ·exact ⟨30, .inr rfl, by kernel_rfl⟩
  obtain ⟨n, hn, e⟩ := e
  rw [e]
  by_cases h1 : H < 0
  ·exact ⟨2, cnd_t (ilt_t h1), fun h => absurd h (by decide)⟩
  rw [cnd_f (ilt_f h1)]
  by_cases h2 : 23 < H
  ·exact ⟨2, cnd_t (ilt_t h2), fun h => absurd h (by decide)⟩
  rw [cnd_f (ilt_f h2)]
  by_cases h3 : M < 0
  ·exact ⟨2, cnd_t (ilt_t h3), fun h => absurd h (by decide)⟩
  rw [cnd_f (ilt_f h3)]
  by_cases h4 : 59 < M
  ·exact ⟨2, cnd_t (ilt_t h4), fun h => absurd h (by decide)⟩
  rw [cnd_f (ilt_f h4)]
  by_cases h5 : S < 0
  ·exact ⟨2, cnd_t (ilt_t h5), fun h => absurd h (by decide)⟩
  rw [cnd_f (ilt_f h5)]
  by_cases h6 : 59 < S
  ·exact ⟨2, cnd_t (ilt_t h6), fun h => absurd h (by decide)⟩
  rw [cnd_f (ilt_f h6)]
  by_cases h7 : F < 0
  ·exact ⟨2, cnd_t (ilt_t h7), fun h => absurd h (by decide)⟩
  rw [cnd_f (ilt_f h7)]
  by_cases h8 : n ≤ F
  ·exact ⟨2, cnd_t (ile_t h8), fun h => absurd h (by decide)⟩
  rw [cnd_f (ile_f h8)]
  exact ⟨0, rfl, fun _ => ⟨⟨by show 0 ≤ H; omega, by show H ≤ 23; omega⟩, ⟨by show 0 ≤ M; omega, by show M ≤ 59; omega⟩, ⟨by show 0 ≤ S; omega, by show S ≤ 59; omega⟩, ⟨by show 0 ≤ F; omega, by show F ≤ 59; omega⟩⟩⟩
noncomputable def ckC (h : Hdr) : Option Int :=
 bnd (q169 fuelH (h.2.2.2.1, (0 : Int), (99999 : Int))) fun v3 =>
 cnd (bnot v3) (some (2 : Int))
  (bnd (q169 fuelH (h.2.2.2.2.1, (0 : Int), (99999 : Int))) fun v4 =>
  cnd (bnot v4) (some (2 : Int))
   (bnd (q169 fuelH (h.2.2.2.2.2.2.2.1, (0 : Int), (99 : Int))) fun v5 =>
   cnd (bnot v5) (some (2 : Int))
    (bnd (q169 fuelH (h.2.2.2.2.2.2.2.2, (0 : Int), (99 : Int))) fun v6 =>
    cnd (bnot v6) (some (2 : Int))
     (cnd (ilt h.2.2.2.1 h.2.2.2.2.1) (some (8 : Int))
      (bnd (q174 fuelH (h.1, h.2.2.2.2.2.1)) fun v7 =>
      cnd (ine v7 (0 : Int)) (some v7)
       (bnd (q174 fuelH (h.1, h.2.2.2.2.2.2.1)) fun v8 =>
       cnd (ine v8 (0 : Int)) (some v8)
        (cnd h.2.2.2.2.2.1.2.2.2.2 (some (13 : Int))
         (cnd h.2.2.2.2.2.2.1.2.2.2.2 (some (13 : Int)) (some (0 : Int))))))))))
noncomputable def ckB (h : Hdr) (v1 : Bool) : Option Int :=
 cnd v1 (some (5 : Int))
  (bnd (q168 fuelH h.2.2.1) fun v2 => cnd (bnot v2) (some (10 : Int)) (cnd (ilt (400 : Int) (len h.2.2.1)) (some (9 : Int)) (ckC h)))
noncomputable def ckA (h : Hdr) (v0 : Bool) : Option Int :=
 cnd v0 (some (13 : Int)) (cnd (sne h.2.1 ([] : List UInt8)) (bnd (r07_Name fuelH h.2.1) fun v10 => ckB h (bnot v10)) (ckB h false))
theorem ck_eq (h : Hdr) : q175 fuelH h = cnd (ine (n8 h.1) (n8 (3 : UInt8))) (ckA h (ine (n8 h.1) (n8 (5 : UInt8)))) (ckA h false) := by kernel_rfl
theorem check_ok {h : Hdr} (h2 : h.2.2.1.length ≤ 4000000) : ∃ e, q175 fuelH h = some e ∧ (e = 0 → HdrOk h) := by
 rw [ck_eq]
 by_cases hr : h.1 = 3 ∨ h.1 = 5
 ·have ea : cnd (ine (n8 h.1) (n8 (3 : UInt8))) (ckA h (ine (n8 h.1) (n8 (5 : UInt8)))) (ckA h false) = ckA h false := by
   rcases hr with hr | hr
   ·rw [hr]; rfl
   ·rw [hr]; rfl
  rw [ea]
  have eb : ∃ b : Bool, ckA h false = ckB h b ∧ (b = false → h.2.1 = [] ∨ nm h.2.1 = true) := by
   unfold ckA
   rw [cnd_f rfl]
   by_cases hl : h.2.1 = []
   ·exact ⟨false, cnd_f (by simp [sne, hl]), fun _ => .inl hl⟩
   ·refine ⟨bnot (nm h.2.1), ?_, fun hb => .inr (by cases hq : nm h.2.1 <;> simp_all [bnot])⟩
    rw [cnd_t (by simp [sne, hl]), bnd_s (r07_name h.2.1)]
  obtain ⟨b, eb, hb⟩ := eb
  rw [eb]
  unfold ckB
  cases b with
  | true => exact ⟨5, rfl, fun h => absurd h (by decide)⟩
  | false =>
   rw [cnd_f rfl, bnd_s (r08_valid _ h2)]
   cases hv : vld h.2.2.1 with
   | false => exact ⟨10, rfl, fun h => absurd h (by decide)⟩
   | true =>
    rw [cnd_f (by rfl)]
    by_cases hL : (400 : Int) < len h.2.2.1
    ·exact ⟨9, cnd_t (ilt_t hL), fun h => absurd h (by decide)⟩
    rw [cnd_f (ilt_f hL)]
    unfold ckC
    rw [within_eq, bnd_some', cnd_bnot]
    by_cases q1 : 0 ≤ h.2.2.2.1 ∧ h.2.2.2.1 ≤ 99999
    case neg => exact ⟨2, if_neg q1, fun h => absurd h (by decide)⟩
    rw [if_pos q1, within_eq, bnd_some', cnd_bnot]
    by_cases q2 : 0 ≤ h.2.2.2.2.1 ∧ h.2.2.2.2.1 ≤ 99999
    case neg => exact ⟨2, if_neg q2, fun h => absurd h (by decide)⟩
    rw [if_pos q2, within_eq, bnd_some', cnd_bnot]
    by_cases q3 : 0 ≤ h.2.2.2.2.2.2.2.1 ∧ h.2.2.2.2.2.2.2.1 ≤ 99
    case neg => exact ⟨2, if_neg q3, fun h => absurd h (by decide)⟩
    rw [if_pos q3, within_eq, bnd_some', cnd_bnot]
    by_cases q4 : 0 ≤ h.2.2.2.2.2.2.2.2 ∧ h.2.2.2.2.2.2.2.2 ≤ 99
    case neg => exact ⟨2, if_neg q4, fun h => absurd h (by decide)⟩
    rw [if_pos q4, cnd_ilt]
    by_cases q5 : h.2.2.2.1 < h.2.2.2.2.1
    ·exact ⟨8, if_pos q5, fun h => absurd h (by decide)⟩
    rw [if_neg q5]
    obtain ⟨e1, f1, g1⟩ := r03_ok fuelH h.2.2.2.2.2.1 hr
    obtain ⟨e2, f2, g2⟩ := r03_ok fuelH h.2.2.2.2.2.2.1 hr
    rw [bnd_s f1, cnd_ine]
    by_cases z1 : e1 = 0
    case neg => exact ⟨e1, if_pos z1, fun h => absurd h z1⟩
    rw [if_neg (by simp [z1]), bnd_s f2, cnd_ine]
    by_cases z2 : e2 = 0
    case neg => exact ⟨e2, if_pos z2, fun h => absurd h z2⟩
    rw [if_neg (by simp [z2])]
    cases d1 : h.2.2.2.2.2.1.2.2.2.2 with
    | true => exact ⟨13, rfl, fun h => absurd h (by decide)⟩
    | false =>
     cases d2 : h.2.2.2.2.2.2.1.2.2.2.2 with
     | true => exact ⟨13, rfl, fun h => absurd h (by decide)⟩
     | false => exact ⟨0, rfl, fun _ => ⟨hr, hb rfl, hv, by simp only [len] at hL; omega, q1, q2, g1 z1, g2 z2, q3, q4, d1, d2⟩⟩
 ·have h3 : n8 h.1 ≠ n8 (3 : UInt8) := fun e => hr (.inl (n8_inj e))
  have h5 : n8 h.1 ≠ n8 (5 : UInt8) := fun e => hr (.inr (n8_inj e))
  refine ⟨13, ?_, fun h => absurd h (by decide)⟩
  rw [cnd_t (ine_t h3), ine_t h5]
  rfl
theorem lang_len {h : Hdr} (H : HdrOk h) : h.2.1.length ≤ 16 := by
 rcases H.lang with e | e
 ·rw [e]; decide
 ·simp only [nm, Bool.and_eq_true, decide_eq_true_eq] at e
  exact e.1.1.2
end
end Go.Mo
end

section
/-
  Plain facts: the bytes of a header, by the layer and by the specification.
-/
namespace Go.Mo
open Go Go.W Go.Lib
set_option maxRecDepth 100000
noncomputable section
theorem put_at {A B : List UInt8} {m : Nat} {k : Int} (hk : k = (A.length : Int)) (hB : B.length ≤ m) :
  putl (A ++ List.replicate m 32) (toN k) (ltake (nsub (nlen (A ++ List.replicate m 32)) (toN k)) B) = A ++ B ++ List.replicate (m - B.length) 32 := by
 subst hk
 have e1 : nsub (nlen (A ++ List.replicate m 32)) (toN (A.length : Int)) = m := by simp [nsub, nlen, toN]
 rw [e1]
 unfold ltake putl
 rw [List.take_of_length_le hB, show toN (A.length : Int) = A.length from by simp [toN], List.take_left' rfl]
 rw [List.drop_append, List.drop_eq_nil_of_le (by omega), List.nil_append, List.drop_replicate]
 congr 2
 omega
theorem rep_pad (l : List UInt8) {n m : Nat} (h : l.length ≤ n) (hm : n ≤ m) : l ++ List.replicate (m - l.length) 32 = pad l n ++ List.replicate (m - n) 32 := by
 unfold pad
 rw [List.append_assoc, List.replicate_append_replicate]
 congr 2
 omega
theorem sig_eq (N : Nat) (r : UInt8) : q101 N r = some (sig r) := by
 unfold q101 sig
 by_cases h : r = 5
 ·subst h; rfl
 ·rw [cnd_f (ieq_f fun e => h (n8_inj e)), if_neg h]
theorem tape_put {h : Hdr} (hc : q97 fuelH h = some 0) (H : HdrOk h) : q104 fuelH h = some (hby h, 0) := by
 have hL := lang_len H
 have hT := latE_len H.ttl
 have hT4 := H.ttlL
 have hs := sig_len h.1
 unfold q104
 rw [bnd_s hc, cnd_f (ine_f rfl), latin_encode (by omega), if_pos H.ttl, bnd_some', grd_t (by kernel_rfl)]
 rw [show ([32], (1024 : Int)) = (([32] : List UInt8), ((1024 : Nat) : Int)) from rfl, bnd_s (repeat_eq (by decide) 32 (by decide) (by decide)), sig_eq, bnd_some']
 have e1 : putl (List.replicate 1024 32) 0 (ltake (nlen (List.replicate 1024 (32 : UInt8))) (sig h.1)) = sig h.1 ++ List.replicate 1016 32 := by
  have := put_at (A := []) (B := sig h.1) (m := 1024) (k := 0) rfl (by omega)
  rw [hs] at this
  exact this
 have e2 : putl (sig h.1 ++ List.replicate 1016 32) (toN (8 : Int)) (ltake (nsub (nlen (sig h.1 ++ List.replicate 1016 (32 : UInt8))) (toN (8 : Int))) h.2.1) = (sig h.1 ++ pad h.2.1 16) ++ List.replicate 1000 32 := by
  rw [put_at (A := sig h.1) (by omega) (by omega), List.append_assoc, rep_pad h.2.1 hL (by decide), List.append_assoc]
 have l2 : (sig h.1 ++ pad h.2.1 16).length = 24 := by rw [List.length_append, hs, pad_len hL]
 have e3 : ∀ B : List UInt8, B.length = 33 → putl ((sig h.1 ++ pad h.2.1 16) ++ List.replicate 1000 32) (toN (24 : Int)) (ltake (nsub (nlen ((sig h.1 ++ pad h.2.1 16) ++ List.replicate 1000 (32 : UInt8))) (toN (24 : Int))) B) = (sig h.1 ++ pad h.2.1 16 ++ pad B 40) ++ List.replicate 960 32 := by
  intro B hB
  rw [put_at (A := sig h.1 ++ pad h.2.1 16) (by omega) (by omega), List.append_assoc _ B, rep_pad B (n := 40) (by omega) (by decide), List.append_assoc _ (pad B 40)]
 have e4 : ∀ B : List UInt8, B.length = 33 → putl ((sig h.1 ++ pad h.2.1 16 ++ pad B 40) ++ List.replicate 960 32) (toN (64 : Int)) (ltake (nsub (nlen ((sig h.1 ++ pad h.2.1 16 ++ pad B 40) ++ List.replicate 960 (32 : UInt8))) (toN (64 : Int))) (latE h.2.2.1)) = sig h.1 ++ pad h.2.1 16 ++ pad B 40 ++ pad (latE h.2.2.1) 960 := by
  intro B hB
  rw [put_at (A := sig h.1 ++ pad h.2.1 16 ++ pad B 40) (by rw [List.length_append, l2, pad_len (by omega)]; rfl) (by omega), List.append_assoc _ (latE h.2.2.1)]
  rfl
 have l1 : nlen (sig h.1 ++ List.replicate 1016 (32 : UInt8)) = 1024 := by simp [nlen, hs]
 have l2' : nlen (sig h.1 ++ pad h.2.1 16 ++ List.replicate 1000 (32 : UInt8)) = 1024 := by unfold nlen; rw [List.length_append, l2]; simp
 have l3 : ∀ B : List UInt8, B.length = 33 → nlen ((sig h.1 ++ pad h.2.1 16 ++ pad B 40) ++ List.replicate 960 (32 : UInt8)) = 1024 := by
  intro B hB
  unfold nlen
  rw [List.length_append, List.length_append, l2, pad_len (by omega)]; simp
 rw [l2'] at e3
 have e4 : ∀ B : List UInt8, B.length = 33 → putl ((sig h.1 ++ pad h.2.1 16 ++ pad B 40) ++ List.replicate 960 32) (toN (64 : Int)) (ltake (nsub 1024 (toN (64 : Int))) (latE h.2.2.1)) = sig h.1 ++ pad h.2.1 16 ++ pad B 40 ++ pad (latE h.2.2.1) 960 := fun B hB => by rw [← l3 B hB]; exact e4 B hB
 rw [e1, e2, l1, l2', grd_t (by kernel_rfl), grd_t (by kernel_rfl)]
 rw [digits3, bnd_some', digits5, bnd_some', grd_t (by kernel_rfl), digits5, bnd_some', grd_t (by kernel_rfl), clock_eq, bnd_some', grd_t (by kernel_rfl), clock_eq, bnd_some', grd_t (by kernel_rfl), digits2, bnd_some', grd_t (by kernel_rfl), digits2, bnd_some', grd_t (by kernel_rfl)]
 rw [e3 _ (by kernel_rfl), l3 _ (by kernel_rfl), grd_t (by kernel_rfl), e4 _ (by kernel_rfl)]
 show some _ = some _
 kernel_rfl
noncomputable def refPut (x : Hdr) (v1 : List UInt8) : Option (List UInt8 × Int) :=
   bnd (q179 fuelH x.2.2.1) fun v2 =>
   grd (catOk (len v1)) <|
   grd (catOk (len x.2.1)) <|
   bnd (r23_fill fuelH (x.2.1, (16 : Int), (32 : UInt8))) fun v3 =>
   grd (room (iadd (len v1) (len v3)) 1) <|
   bnd (q180 fuelH (len v2.1, (3 : Int))) fun v4 =>
   bnd (q180 fuelH (x.2.2.2.1, (5 : Int))) fun v5 =>
   grd (catOk (iadd (len v4) (len v5))) <|
   bnd (q180 fuelH (x.2.2.2.2.1, (5 : Int))) fun v6 =>
   grd (catOk (iadd (len (lapp v4 v5)) (len v6))) <|
   bnd (q181 fuelH x.2.2.2.2.2.1) fun v7 =>
   grd (catOk (iadd (len (lapp (lapp v4 v5) v6)) (len v7))) <|
   bnd (q181 fuelH x.2.2.2.2.2.2.1) fun v8 =>
   grd (catOk (iadd (len (lapp (lapp (lapp v4 v5) v6) v7)) (len v8))) <|
   bnd (q180 fuelH (x.2.2.2.2.2.2.2.1, (2 : Int))) fun v9 =>
   grd (catOk (iadd (len (lapp (lapp (lapp (lapp v4 v5) v6) v7) v8)) (len v9))) <|
   bnd (q180 fuelH (x.2.2.2.2.2.2.2.2, (2 : Int))) fun v10 =>
   grd (catOk (iadd (len (lapp (lapp (lapp (lapp (lapp v4 v5) v6) v7) v8) v9)) (len v10))) <|
   grd (catOk (len (lapp (lapp (lapp (lapp (lapp (lapp v4 v5) v6) v7) v8) v9) v10))) <|
   bnd (r23_fill fuelH (lapp (lapp (lapp (lapp (lapp (lapp v4 v5) v6) v7) v8) v9) v10, (40 : Int), (32 : UInt8))) fun v11 =>
   grd (room (iadd (len (lapp v1 v3)) (len v11)) 1) <|
   grd (room (iadd (len (lapp (lapp v1 v3) v11)) (len v2.1)) 1) <|
   bnd (r23_fill fuelH (lapp (lapp (lapp v1 v3) v11) v2.1, (1024 : Int), (32 : UInt8))) fun v12 =>
   some (v12, (0 : Int))
theorem ref_eq (h : Hdr) : q182 fuelH h = bnd (q175 fuelH h) fun v0 => cnd (ine v0 (0 : Int)) (some (([] : List UInt8), v0)) (cnd (ieq (n8 h.1) (n8 (5 : UInt8))) (refPut h [83, 84, 76, 51, 48, 46, 48, 49]) (refPut h [83, 84, 76, 50, 53, 46, 48, 49])) := by kernel_rfl
theorem ref_put {h : Hdr} (hc : q175 fuelH h = some 0) (H : HdrOk h) : q182 fuelH h = some (hby h, 0) := by
 have hL := lang_len H
 have hT := latE_len H.ttl
 have hT4 := H.ttlL
 have hs := sig_len h.1
 rw [ref_eq, bnd_s hc, cnd_f (ine_f rfl)]
 have e0 : cnd (ieq (n8 h.1) (n8 (5 : UInt8))) (refPut h [83, 84, 76, 51, 48, 46, 48, 49]) (refPut h [83, 84, 76, 50, 53, 46, 48, 49]) = refPut h (sig h.1) := by
  unfold sig
  by_cases h5 : h.1 = 5
  ·rw [h5]; rfl
  ·rw [cnd_f (ieq_f fun e => h5 (n8_inj e)), if_neg h5]
 rw [e0]
 unfold refPut
 have l1 : len (sig h.1) = 8 := by simp only [len]; omega
 have f1 : r23_fill fuelH (h.2.1, (16 : Int), (32 : UInt8)) = some (pad h.2.1 16) := fill_eq (n := 16) (by decide) hL
 have f2 : ∀ B : List UInt8, B.length = 33 → r23_fill fuelH (B, (40 : Int), (32 : UInt8)) = some (pad B 40) := fun B hB => fill_eq (n := 40) (by decide) (by omega)
 have l2 : len (lapp (sig h.1) (pad h.2.1 16)) = 24 := by unfold lapp len; rw [List.length_append, hs, pad_len hL]; rfl
 have l3 : ∀ B : List UInt8, B.length = 33 → (lapp (lapp (sig h.1) (pad h.2.1 16)) (pad B 40)).length = 64 := by
  intro B hB
  unfold lapp
  rw [List.length_append, List.length_append, hs, pad_len hL, pad_len (by omega)]
 have f3 : ∀ B : List UInt8, B.length = 33 → r23_fill fuelH (lapp (lapp (lapp (sig h.1) (pad h.2.1 16)) (pad B 40)) (latE h.2.2.1), (1024 : Int), (32 : UInt8)) = some (sig h.1 ++ pad h.2.1 16 ++ pad B 40 ++ pad (latE h.2.2.1) 960) := by
  intro B hB
  have := l3 B hB
  refine (fill_eq (n := 1024) (by decide) (by unfold lapp at this ⊢; rw [List.length_append, this]; omega)).trans ?_
  congr 1
  show lapp _ _ ++ _ = _
  unfold lapp at this ⊢
  rw [List.length_append, this, List.append_assoc _ (latE h.2.2.1)]
  show _ = _ ++ (latE h.2.2.1 ++ List.replicate (960 - (latE h.2.2.1).length) 32)
  congr 3
  omega
 rw [r22_encode (by omega), if_pos H.ttl, bnd_some', l1, grd_t (by kernel_rfl), grd_t (catOk_t (by simp only [len]; omega)), f1, bnd_some', grd_t (room_t (by simp only [iadd, len]; rw [pad_len hL]; decide))]
 rw [r23_digits3, bnd_some', r23_digits5, bnd_some', grd_t (by kernel_rfl), r23_digits5, bnd_some', grd_t (by kernel_rfl), label_eq, bnd_some', grd_t (by kernel_rfl), label_eq, bnd_some', grd_t (by kernel_rfl), r23_digits2, bnd_some', grd_t (by kernel_rfl), r23_digits2, bnd_some', grd_t (by kernel_rfl), grd_t (by kernel_rfl)]
 rw [f2 _ (by kernel_rfl), bnd_some', l2, grd_t (room_t (by simp only [iadd, len]; rw [pad_len (by exact Nat.le_of_ble_eq_true (by kernel_rfl))]; decide))]
 rw [grd_t (room_t (by simp only [iadd, len]; rw [l3 _ (by kernel_rfl)]; omega)), f3 _ (by kernel_rfl), bnd_some']
 show some _ = some _
 kernel_rfl
theorem put_both {h : Hdr} (h2 : h.2.2.1.length ≤ 4000000) : ∃ e, q97 fuelH h = some e ∧ q175 fuelH h = some e ∧ ((e ≠ 0 ∧ q104 fuelH h = some ([], e) ∧ q182 fuelH h = some ([], e)) ∨ (e = 0 ∧ HdrOk h ∧ q104 fuelH h = some (hby h, 0) ∧ q182 fuelH h = some (hby h, 0))) := by
 obtain ⟨e, h1, h3⟩ := check_ok h2
 have ht := (checkHeader_eq h h2).trans h1
 refine ⟨e, ht, h1, ?_⟩
 by_cases he : e = 0
 ·subst he
  exact .inr ⟨rfl, h3 rfl, tape_put ht (h3 rfl), ref_put h1 (h3 rfl)⟩
 ·refine .inl ⟨he, ?_, ?_⟩
  ·unfold q104
   rw [bnd_s ht, cnd_t (ine_t he)]
  ·rw [ref_eq, bnd_s h1, cnd_t (ine_t he)]
theorem hby_len {h : Hdr} (H : HdrOk h) : (hby h).length = 1024 := by
 have hT := latE_len H.ttl
 have hT4 := H.ttlL
 unfold hby
 rw [List.length_append, List.length_append, List.length_append, sig_len, pad_len (lang_len H), pad_len (by rw [hdg_len]; decide), pad_len (by omega)]
end
end Go.Mo
end

section
/-
  Plain facts: numbers and names read back.
-/
namespace Go.Mo
open Go Go.W Go.Lib
set_option maxRecDepth 100000
noncomputable section
theorem n8_b8 {x : Int} (h : 0 ≤ x ∧ x < 256) : n8 (b8 x) = x := by
 unfold n8 b8
 rw [UInt8.toNat_ofNat']
 omega
theorem dg_n8 {v : Int} (h : 0 ≤ v) : n8 (dg v) = 48 + v % 10 := by
 unfold dg iadd imod
 have e : v.tmod 10 = v % 10 := Int.tmod_eq_emod_of_nonneg h
 have h1 := Int.emod_nonneg v (show (10 : Int) ≠ 0 by decide)
 have h2 := Int.emod_lt_of_pos v (show (0 : Int) < 10 by decide)
 rw [e, w64_id (by omega), n8_b8 (by omega)]
theorem dv_eq {v : Int} (h : 0 ≤ v ∧ v ≤ 1000000) : dv v = v / 10 := by
 unfold dv idiv
 rw [Int.tdiv_eq_ediv_of_nonneg h.1, w64_id (by omega)]
noncomputable def numK (c : UInt8) (n : Int) (self : Int → Option Int) : Option Int :=
 cnd (ilt (n8 c) (n8 (48 : UInt8)))
     (some (0 : Int))
     (cnd (ilt (n8 (57 : UInt8)) (n8 c))
      (some (0 : Int))
      (self (w64 (iadd (w64 (imul (10 : Int) n)) (w64 (n8 (b8 (isub (n8 c) (n8 (48 : UInt8))))))))))
theorem number_fold {l : List UInt8} (hl : l.length ≤ 4000000) : q107 fuelH l = foldI (fun _ c n self => numK c n self) (fun n => some n) 0 l 0 := by
 unfold q107
 rw [jn_e, show ((0 : Int), (0 : Int)) = (fun (n : Int) (p : Nat) => (n, (p : Int))) 0 0 from rfl]
 refine Eq.trans (lst_loop (l := l) (fun (n : Int) (p : Nat) => (n, (p : Int))) (fun _ c n self => numK c n self) (fun n => some n) (fun self a i hi => ?_) (fun self a => ?_) fuelH 0 0 (Nat.zero_le _) (by have := fuelH_eq; omega)) ?_
 ·rw [cnd_t (ilt_t (by simp only [len]; omega)), grd_t (inb_t (by simp only [len]; omega)), lget_i hi, w64_succ hi (by omega)]
  rfl
 ·rw [cnd_f (ilt_f (by simp only [len]; omega))]
 ·rw [List.drop_zero]
theorem num_step {c : UInt8} {d n : Int} (hc : n8 c = 48 + d) (hd : 0 ≤ d ∧ d ≤ 9) (hn : 0 ≤ n ∧ n ≤ 1000000) (self : Int → Option Int) : numK c n self = self (10 * n + d) := by
 have e48 : n8 (48 : UInt8) = 48 := rfl
 have e57 : n8 (57 : UInt8) = 57 := rfl
 unfold numK
 rw [e48, e57, hc, cnd_f (ilt_f (by omega)), cnd_f (ilt_f (by omega))]
 have e1 : isub (48 + d) 48 = d := by simp only [isub]; omega
 rw [e1, n8_b8 (by omega), w64_id (x := d) (by omega)]
 simp only [imul, iadd]
 rw [w64_id (x := 10 * n) (by omega), w64_id (by omega)]
theorem num2 {v : Int} (h : 0 ≤ v ∧ v ≤ 99) : q107 fuelH [dg (dv v), dg v] = some v := by
 rw [number_fold (by simp)]
 simp only [foldI]
 have e1 := dv_eq (v := v) (by omega)
 rw [num_step (d := v / 10 % 10) (by rw [e1]; exact dg_n8 (by omega)) (by omega) (by omega), num_step (d := v % 10) (dg_n8 (by omega)) (by omega) (by omega)]
 congr 1
 omega
theorem num3 {v : Int} (h : 0 ≤ v ∧ v ≤ 999) : q107 fuelH [dg (dv (dv v)), dg (dv v), dg v] = some v := by
 rw [number_fold (by simp)]
 simp only [foldI]
 have e1 := dv_eq (v := v) (by omega)
 have e2 := dv_eq (v := v / 10) (by omega)
 rw [e1, e2]
 rw [num_step (d := v / 10 / 10 % 10) (dg_n8 (by omega)) (by omega) (by omega), num_step (d := v / 10 % 10) (dg_n8 (by omega)) (by omega) (by omega), num_step (d := v % 10) (dg_n8 (by omega)) (by omega) (by omega)]
 congr 1
 omega
theorem num5 {v : Int} (h : 0 ≤ v ∧ v ≤ 99999) : q107 fuelH [dg (dv (dv (dv (dv v)))), dg (dv (dv (dv v))), dg (dv (dv v)), dg (dv v), dg v] = some v := by
 rw [number_fold (by simp)]
 simp only [foldI]
 have e1 := dv_eq (v := v) (by omega)
 have e2 := dv_eq (v := v / 10) (by omega)
 have e3 := dv_eq (v := v / 10 / 10) (by omega)
 have e4 := dv_eq (v := v / 10 / 10 / 10) (by omega)
 rw [e1, e2, e3, e4]
 rw [num_step (d := v / 10 / 10 / 10 / 10 % 10) (dg_n8 (by omega)) (by omega) (by omega), num_step (d := v / 10 / 10 / 10 % 10) (dg_n8 (by omega)) (by omega) (by omega), num_step (d := v / 10 / 10 % 10) (dg_n8 (by omega)) (by omega) (by omega), num_step (d := v / 10 % 10) (dg_n8 (by omega)) (by omega) (by omega), num_step (d := v % 10) (dg_n8 (by omega)) (by omega) (by omega)]
 congr 1
 omega
theorem label_back {l : Lbl} (h : lblOk l) (hd : l.2.2.2.2 = false) : q108 fuelH (clk l) = some l := by
 obtain ⟨⟨a1, a2⟩, ⟨b1, b2⟩, ⟨c1, c2⟩, ⟨d1, d2⟩⟩ := h
 unfold q108
 rw [grd_t (by kernel_rfl)]
 have e1 : ltake (toN (2 : Int)) (clk l) = [dg (dv l.1), dg l.1] := rfl
 have e2 : ldrop (toN (2 : Int)) (ltake (toN (4 : Int)) (clk l)) = [dg (dv l.2.1), dg l.2.1] := rfl
 have e3 : ldrop (toN (4 : Int)) (ltake (toN (6 : Int)) (clk l)) = [dg (dv l.2.2.1), dg l.2.2.1] := rfl
 have e4 : ldrop (toN (6 : Int)) (ltake (toN (8 : Int)) (clk l)) = [dg (dv l.2.2.2.1), dg l.2.2.2.1] := rfl
 rw [e1, num2 (by omega), bnd_some', grd_t (by kernel_rfl), e2, num2 (by omega), bnd_some', grd_t (by kernel_rfl), e3, num2 (by omega), bnd_some', grd_t (by kernel_rfl), e4, num2 (by omega), bnd_some', ← hd]
theorem trim_loop {l : List UInt8} (hl : l = [] ∨ ∃ c m, l = m ++ [c] ∧ n8 c ≠ 32) : ∀ (fuel k : Nat), k < fuel → l.length + k ≤ 100000000 →
  fixN (fun v2 (v3 : List UInt8) =>
  cnd (ilt (0 : Int) (len v3))
   (grd (inb (w64 (isub (len v3) (1 : Int))) (len v3))
    (cnd (ieq (n8 (lget v3 (toN (w64 (isub (len v3) (1 : Int)))) (0 : UInt8))) (n8 (32 : UInt8)))
     (grd (in2 (w64 (isub (len v3) (1 : Int))) (len v3))
      (v2 (ltake (toN (w64 (isub (len v3) (1 : Int)))) v3)))
     (some v3)))
   (some v3)) fuel (l ++ List.replicate k 32) = some l
 | 0, k, h, _ => by omega
 | fuel + 1, k, h, hb => by
  rw [fixN_s]
  have hw : ∀ m : List UInt8, 0 < m.length → m.length ≤ 100000000 → w64 (isub (len m) 1) = ((m.length - 1 : Nat) : Int) := by
   intro m h1 h2
   simp only [isub, len]
   rw [w64_id (by omega)]
   omega
  cases k with
  | zero =>
   simp only [List.replicate_zero, List.append_nil]
   rcases hl with rfl | ⟨c, m, rfl, hc⟩
   ·rfl
   ·have h0 : 0 < (m ++ [c]).length := by simp
    rw [cnd_t (ilt_t (by simp only [len]; omega)), hw _ h0 (by omega), grd_t (inb_t (by simp only [len]; omega)), lget_i (show (m ++ [c]).length - 1 < (m ++ [c]).length by omega)]
    have hg : (m ++ [c])[(m ++ [c]).length - 1] = c := by simp
    rw [hg, cnd_f (ieq_f (show n8 c ≠ n8 32 from hc))]
  | succ k =>
   have e : l ++ List.replicate (k + 1) 32 = (l ++ List.replicate k 32) ++ [32] := by rw [List.replicate_succ', List.append_assoc]
   rw [e]
   generalize hm : l ++ List.replicate k 32 = m
   have hml : m.length = l.length + k := by rw [← hm]; simp
   have h0 : 0 < (m ++ [(32 : UInt8)]).length := by simp
   have h1 : (m ++ [(32 : UInt8)]).length = m.length + 1 := by simp
   rw [cnd_t (ilt_t (by simp only [len]; omega)), hw _ h0 (by omega), grd_t (inb_t (by simp only [len]; omega)), lget_i (show (m ++ [(32 : UInt8)]).length - 1 < (m ++ [(32 : UInt8)]).length by omega)]
   have hg : (m ++ [(32 : UInt8)])[(m ++ [(32 : UInt8)]).length - 1] = 32 := by simp
   have ht : ltake (toN (((m ++ [(32 : UInt8)]).length - 1 : Nat) : Int)) (m ++ [32]) = m := by
    rw [h1]
    simp [ltake, toN]
   rw [hg, cnd_t (ieq_t rfl), grd_t (in2_t (by simp only [len]; omega)), ht, ← hm]
   exact trim_loop hl fuel k (by omega) (by omega)
theorem name_end {l : List UInt8} (h : l = [] ∨ nm l = true) : l = [] ∨ ∃ c m, l = m ++ [c] ∧ n8 c ≠ 32 := by
 rcases h with h | h
 ·exact .inl h
 ·by_cases hl : l = []
  ·exact .inl hl
  ·refine .inr ⟨l.getLast hl, l.dropLast, (List.dropLast_concat_getLast hl).symm, ?_⟩
   simp only [nm, Bool.and_eq_true] at h
   have := List.all_eq_true.1 h.2 _ (List.getLast_mem hl)
   have := of_decide_eq_true this
   omega
theorem trim_pad {l : List UInt8} (h : l = [] ∨ nm l = true) (hl : l.length ≤ 16) : q117 fuelH (pad l 16, [32]) = some l := by
 have hp : (pad l 16).length = 16 := pad_len hl
 unfold q117
 rw [cnd_f (ieq_f (by simp only [len]; omega)), cnd_f (by rfl), cnd_t (by rfl), grd_t (by kernel_rfl), cnd_t (by rfl), grd_t (by kernel_rfl)]
 have : q109 fuelH (pad l 16, lget [32] (toN 0) 0) = some l := by
  unfold q109
  rw [jn_e]
  exact trim_loop (name_end h) fuelH (16 - l.length) (by have := fuelH_eq; omega) (by omega)
 rw [bnd_s this]
end
end Go.Mo
end

section
/-
  Plain facts: texts of the tape form read back.
-/
namespace Go.Mo
open Go Go.W Go.Lib
set_option maxRecDepth 100000
noncomputable section
theorem cnd_imp {α : Type} {b : Bool} {x y x' y' : Option α} {L L' : α} (h1 : x = some L → x' = some L') (h2 : y = some L → y' = some L') (h : cnd b x y = some L) : cnd b x' y' = some L' := by
 cases b
 ·exact h2 h
 ·exact h1 h
theorem app_leaf {out l L : List UInt8} (hb : out.length ≤ 100000000) (hl : l.length ≤ 4) (h : grd (room (iadd (len ([] : List UInt8)) (len l)) 1) (some (lapp [] l)) = some L) : grd (room (iadd (len out) (len l)) 1) (some (lapp out l)) = some (out ++ L) := by
 rw [grd_t (room_t (by simp only [iadd, len, List.length_nil]; omega))] at h
 injection h with h
 subst h
 rw [grd_t (room_t (by simp only [iadd, len]; omega))]
 rfl
theorem app_shift {N : Nat} {out L : List UInt8} {r : Int} (hb : out.length ≤ 100000000) (h : q121 N ([], r) = some L) : q121 N (out, r) = some (out ++ L) := by
 unfold q121 q120 at h ⊢
 rw [bnd_id, jn_e] at h
 rw [bnd_id, jn_e]
 refine cnd_imp (app_leaf hb (by simp)) (cnd_imp (app_leaf hb (by simp)) ?_) h
 refine cnd_imp ?_ (cnd_imp ?_ ?_)
 all_goals exact cnd_imp (app_leaf hb (by simp)) (cnd_imp (cnd_imp (app_leaf hb (by simp)) (app_leaf hb (by simp))) (app_leaf hb (by simp)))
theorem app_nil {r : Int} (N : Nat) (hr : inRep r = true) : q121 N ([], r) = some (enc r) := by
 have h : ((loRunes ++ hiRunes).all fun r => decide (q121 0 ([], r) = some (enc r))) = true := by kernel_rfl
 exact of_decide_eq_true (all_rep (P := fun r => decide (q121 0 ([], r) = some (enc r))) h hr)
theorem app_rune {N : Nat} {out : List UInt8} {r : Int} (hb : out.length ≤ 100000000) (hr : inRep r = true) : q121 N (out, r) = some (out ++ enc r) :=
 app_shift hb (app_nil N hr)
theorem write_rune {N : Nat} {out : List UInt8} {r : Int} (hb : out.length ≤ 100000000) (hr : inRep r = true) : ∃ n, q122 N (((), out), r) = some (n, (), (), out ++ enc r) := by
 refine ⟨w64 (isub (len (out ++ enc r)) (len out)), ?_⟩
 unfold q122
 rw [show strings_Builder_copyCheck N ((), ((((), out), r) : (Unit × List UInt8) × Int).1.2) = some ((), out) from rfl, bnd_some']
 simp only
 rw [app_rune hb hr, bnd_some']
theorem dec_loop : ∀ (l : List Int) (fuel : Nat) (out : List UInt8), l.length < fuel → l.all inRep = true → out.length + 4 * l.length ≤ 100000000 →
  fixN (fun v2 (v3 : (List UInt8) × Unit × List UInt8) =>
  cnd (ilt (0 : Int) (len v3.1))
   (bnd (q119 fuelH v3.1) fun v4 =>
   cnd (ieq v4.2 (0 : Int))
    (some (([] : List UInt8), (4 : Int)))
    (bnd (q122 fuelH (((), v3.2.2), v4.1)) fun v5 =>
    grd (in2 v4.2 (len v3.1)) <|
    v2 (ldrop (toN v4.2) v3.1, (), v5.2.2.2)))
   (some (v3.2.2, (0 : Int)))) fuel (l.flatMap lat, (), out) = some (out ++ ofR l, 0)
 | _, 0, _, h, _, _ => by omega
 | [], fuel + 1, out, _, _, _ => by
  rw [fixN_s]
  show some (out, (0 : Int)) = some (out ++ [], 0)
  rw [List.append_nil]
 | r :: l, fuel + 1, out, h, ha, hb => by
  rw [List.all_cons, Bool.and_eq_true] at ha
  simp only [List.length_cons] at h hb
  have hl := (lat_ok ha.1).2.2.1
  have he := enc_len ha.1
  rw [fixN_s, List.flatMap_cons]
  simp only
  rw [cnd_t (ilt_t (by simp only [len, List.length_append]; omega)), latin_get_lat ha.1, bnd_some', cnd_f (ieq_f (by simp only; omega))]
  obtain ⟨n, hw⟩ := write_rune (N := fuelH) (out := out) (r := r) (by omega) ha.1
  rw [hw, bnd_some', grd_t (in2_t (by simp only [len, List.length_append]; omega))]
  have hd : ldrop (toN ((lat r).length : Int)) (lat r ++ l.flatMap lat) = l.flatMap lat := by simp [ldrop, toN]
  simp only
  rw [hd, dec_loop l fuel (out ++ enc r) (by omega) ha.2 (by rw [List.length_append]; omega)]
  unfold ofR
  rw [List.flatMap_cons, List.append_assoc]
theorem decode_back {s : List UInt8} (hs : s.length ≤ 4000000) (hv : vld s = true) : q123 fuelH (latE s) = some (s, 0) := by
 have hl := rns_len _ s (Nat.le_refl _)
 unfold q123
 rw [jn_e]
 have := dec_loop (rns s) fuelH [] (by have := fuelH_eq; omega) (rns_ok hv) (by simp only [List.length_nil]; omega)
 rw [ofR_rns hv] at this
 exact this
end
end Go.Mo
end

section
/-
  Plain facts: a header read back; TapeHeaders.
-/
namespace Go.Mo
open Go Go.W Go.Lib
set_option maxRecDepth 100000
noncomputable section
noncomputable def hz : Hdr := ((0 : UInt8), ([] : List UInt8), ([] : List UInt8), (0 : Int), (0 : Int), ((0 : Int), (0 : Int), (0 : Int), (0 : Int), false), ((0 : Int), (0 : Int), (0 : Int), (0 : Int), false), (0 : Int), (0 : Int))
noncomputable def ghB (x : List UInt8) (v6 : Hdr) : Option (Hdr × Int) :=
    grd (in3 (8 : Int) (24 : Int) (len x)) <|
    bnd (q117 fuelH (ldrop (toN (8 : Int)) (ltake (toN (24 : Int)) x), ([32] : List UInt8))) fun v7 =>
    grd (in3 (24 : Int) (27 : Int) (len x)) <|
    bnd (q107 fuelH (ldrop (toN (24 : Int)) (ltake (toN (27 : Int)) x))) fun v8 =>
    grd (in3 (64 : Int) (imin (w64 (iadd (64 : Int) v8)) (1024 : Int)) (len x)) <|
    bnd (q123 fuelH (ldrop (toN (64 : Int)) (ltake (toN (imin (w64 (iadd (64 : Int) v8)) (1024 : Int))) x))) fun v9 =>
    cnd (ine v9.2 (0 : Int)) (some (hz, (4 : Int)))
     (bnd (q104 fuelH (v6.1, v7, v9.1, v6.2.2.2)) fun v10 =>
     cnd (ine v10.2 (0 : Int)) (some (hz, (4 : Int)))
      (bnd (q124 fuelH (x, v10.1)) fun v11 =>
      cnd (bnot v11) (some (hz, (4 : Int))) (some ((v6.1, v7, v9.1, v6.2.2.2), (0 : Int)))))
noncomputable def ghA (x : List UInt8) : Option (Hdr × Int) :=
  (grd (in3 (27 : Int) (32 : Int) (len x))
   (bnd (q107 fuelH (ldrop (toN (27 : Int)) (ltake (toN (32 : Int)) x))) fun v0 =>
   grd (in3 (32 : Int) (37 : Int) (len x)) <|
   bnd (q107 fuelH (ldrop (toN (32 : Int)) (ltake (toN (37 : Int)) x))) fun v1 =>
   grd (in3 (37 : Int) (45 : Int) (len x)) <|
   bnd (q108 fuelH (ldrop (toN (37 : Int)) (ltake (toN (45 : Int)) x))) fun v2 =>
   grd (in3 (45 : Int) (53 : Int) (len x)) <|
   bnd (q108 fuelH (ldrop (toN (45 : Int)) (ltake (toN (53 : Int)) x))) fun v3 =>
   grd (in3 (53 : Int) (55 : Int) (len x)) <|
   bnd (q107 fuelH (ldrop (toN (53 : Int)) (ltake (toN (55 : Int)) x))) fun v4 =>
   grd (in3 (55 : Int) (57 : Int) (len x)) <|
   bnd (q107 fuelH (ldrop (toN (55 : Int)) (ltake (toN (57 : Int)) x))) fun v5 =>
   grd (in2 (8 : Int) (len x)) <|
   bnd (q101 fuelH (5 : UInt8)) fun v13 =>
   cnd (seq (ltake (toN (8 : Int)) x) v13)
    (ghB x ((5 : UInt8), ([] : List UInt8), ([] : List UInt8), v0, v1, v2, v3, v4, v5))
    (ghB x ((3 : UInt8), ([] : List UInt8), ([] : List UInt8), v0, v1, v2, v3, v4, v5))))
theorem gh_eq (x : List UInt8) : q125 fuelH x = cnd (ine (len x) (1024 : Int)) (some (hz, (4 : Int))) (ghA x) := by kernel_rfl
theorem slc {P D T : List UInt8} {k a b : Nat} (hk : P.length = k) (hb : b ≤ D.length) : ldrop (k + a) (ltake (k + b) (P ++ D ++ T)) = ldrop a (ltake b D) := by
 subst hk
 unfold ldrop ltake
 rw [List.append_assoc, List.take_append, List.take_of_length_le (l := P) (by omega), List.drop_append, List.drop_eq_nil_of_le (by omega : P.length ≤ P.length + a), List.nil_append]
 rw [show P.length + b - P.length = b by omega, show P.length + a - P.length = a by omega, List.take_append_of_le_length hb]
theorem get_back {h : Hdr} (hp : q104 fuelH h = some (hby h, 0)) (H : HdrOk h) : q125 fuelH (hby h) = some (h, 0) := by
 have hL := lang_len H
 have hT := latE_len H.ttl
 have hT4 := H.ttlL
 have hs := sig_len h.1
 have hlen := hby_len H
 have i3 : ∀ l u : Int, 0 ≤ l ∧ l ≤ u ∧ u ≤ 1024 → in3 l u (len (hby h)) = true := fun l u q => in3_t (by simp only [len]; omega)
 have i2 : in2 (8 : Int) (len (hby h)) = true := in2_t (by simp only [len]; omega)
 generalize hx : hby h = x at hlen i3 i2 hp
 have hP : (sig h.1 ++ pad h.2.1 16).length = 24 := by rw [List.length_append, hs, pad_len hL]
 have hx' : x = (sig h.1 ++ pad h.2.1 16) ++ pad (hdg h ((latE h.2.2.1).length : Int)) 40 ++ pad (latE h.2.2.1) 960 := hx.symm
 have hx2 : x = sig h.1 ++ pad h.2.1 16 ++ (pad (hdg h ((latE h.2.2.1).length : Int)) 40 ++ pad (latE h.2.2.1) 960) := by rw [hx']; simp only [List.append_assoc]
 generalize hD : pad (hdg h ((latE h.2.2.1).length : Int)) 40 = D at hx' hx2
 have hDl : D.length = 40 := by rw [← hD, pad_len (by rw [hdg_len]; decide)]
 have sl : ∀ a b : Nat, b ≤ 40 → ldrop (24 + a) (ltake (24 + b) x) = ldrop a (ltake b D) := fun a b hb => by rw [hx']; exact slc hP (by omega)
 have s1 : ldrop (toN (27 : Int)) (ltake (toN (32 : Int)) x) = [dg (dv (dv (dv (dv h.2.2.2.1)))), dg (dv (dv (dv h.2.2.2.1))), dg (dv (dv h.2.2.2.1)), dg (dv h.2.2.2.1), dg h.2.2.2.1] := (sl 3 8 (by decide)).trans (by rw [← hD]; kernel_rfl)
 have s2 : ldrop (toN (32 : Int)) (ltake (toN (37 : Int)) x) = [dg (dv (dv (dv (dv h.2.2.2.2.1)))), dg (dv (dv (dv h.2.2.2.2.1))), dg (dv (dv h.2.2.2.2.1)), dg (dv h.2.2.2.2.1), dg h.2.2.2.2.1] := (sl 8 13 (by decide)).trans (by rw [← hD]; kernel_rfl)
 have s3 : ldrop (toN (37 : Int)) (ltake (toN (45 : Int)) x) = clk h.2.2.2.2.2.1 := (sl 13 21 (by decide)).trans (by rw [← hD]; kernel_rfl)
 have s4 : ldrop (toN (45 : Int)) (ltake (toN (53 : Int)) x) = clk h.2.2.2.2.2.2.1 := (sl 21 29 (by decide)).trans (by rw [← hD]; kernel_rfl)
 have s5 : ldrop (toN (53 : Int)) (ltake (toN (55 : Int)) x) = [dg (dv h.2.2.2.2.2.2.2.1), dg h.2.2.2.2.2.2.2.1] := (sl 29 31 (by decide)).trans (by rw [← hD]; kernel_rfl)
 have s6 : ldrop (toN (55 : Int)) (ltake (toN (57 : Int)) x) = [dg (dv h.2.2.2.2.2.2.2.2), dg h.2.2.2.2.2.2.2.2] := (sl 31 33 (by decide)).trans (by rw [← hD]; kernel_rfl)
 have s7 : ldrop (toN (24 : Int)) (ltake (toN (27 : Int)) x) = [dg (dv (dv ((latE h.2.2.1).length : Int))), dg (dv ((latE h.2.2.1).length : Int)), dg ((latE h.2.2.1).length : Int)] := (sl 0 3 (by decide)).trans (by rw [← hD]; kernel_rfl)
 have s8 : ldrop (toN (8 : Int)) (ltake (toN (24 : Int)) x) = pad h.2.1 16 := by
  rw [hx2]
  refine (slc (P := sig h.1) (k := 8) (a := 0) (b := 16) hs (by rw [pad_len hL]; exact Nat.le_refl _)).trans ?_
  show (pad h.2.1 16).take 16 = _
  rw [List.take_of_length_le (by rw [pad_len hL]; exact Nat.le_refl _)]
 have s9 : ltake (toN (8 : Int)) x = sig h.1 := by
  rw [hx2, List.append_assoc]
  exact List.take_left' hs
 have hn : imin (w64 (iadd (64 : Int) ((latE h.2.2.1).length : Int))) (1024 : Int) = ((64 + (latE h.2.2.1).length : Nat) : Int) := by
  simp only [iadd, imin]
  rw [w64_id (by omega)]
  omega
 have s10 : ldrop (toN (64 : Int)) (ltake (toN ((64 + (latE h.2.2.1).length : Nat) : Int)) x) = latE h.2.2.1 := by
  have hPD : (sig h.1 ++ pad h.2.1 16 ++ D).length = 64 := by rw [List.length_append, hP, hDl]
  have e : x = (sig h.1 ++ pad h.2.1 16 ++ D) ++ latE h.2.2.1 ++ List.replicate (960 - (latE h.2.2.1).length) 32 := by rw [hx', List.append_assoc _ (latE h.2.2.1)]; rfl
  rw [e]
  refine (slc (P := sig h.1 ++ pad h.2.1 16 ++ D) (k := 64) (a := 0) (b := (latE h.2.2.1).length) hPD (Nat.le_refl _)).trans ?_
  show (latE h.2.2.1).take _ = _
  rw [List.take_length]
 have e0 : ∀ r : UInt8, r = h.1 → ghB x (r, [], [], h.2.2.2.1, h.2.2.2.2.1, h.2.2.2.2.2.1, h.2.2.2.2.2.2.1, h.2.2.2.2.2.2.2.1, h.2.2.2.2.2.2.2.2) = some (h, 0) := by
  rintro r rfl
  unfold ghB
  rw [grd_t (i3 8 24 (by decide)), s8, trim_pad H.lang hL, bnd_some', grd_t (i3 24 27 (by decide)), s7, num3 (by omega), bnd_some', hn, grd_t (i3 _ _ (by omega)), s10, decode_back (by omega) H.ttl, bnd_some', cnd_f (ine_f rfl), hp, bnd_some', cnd_f (ine_f rfl)]
  have : q124 fuelH (x, x) = some true := by
   unfold q124 seq
   simp
  rw [this]
  rfl
 rw [gh_eq, cnd_f (ine_f (by simp only [len]; omega))]
 unfold ghA
 rw [grd_t (i3 27 32 (by decide)), s1, num5 H.blocks, bnd_some', grd_t (i3 32 37 (by decide)), s2, num5 H.groups, bnd_some', grd_t (i3 37 45 (by decide)), s3, label_back H.start H.d1, bnd_some', grd_t (i3 45 53 (by decide)), s4, label_back H.first H.d2, bnd_some', grd_t (i3 53 55 (by decide)), s5, num2 H.rows, bnd_some', grd_t (i3 55 57 (by decide)), s6, num2 H.cols, bnd_some', grd_t i2, sig_eq, bnd_some', s9]
 rcases H.rate with hr | hr
 ·rw [cnd_f (by rw [hr]; rfl)]
  exact e0 3 hr.symm
 ·rw [cnd_t (by rw [hr]; rfl)]
  exact e0 5 hr.symm
end
end Go.Mo
end

section
/-
  Plain facts: what is read of any bytes; the layer's reader of headers.
-/
namespace Go.Mo
open Go Go.W Go.Lib
set_option maxRecDepth 100000
noncomputable section
end
end Go.Mo
end

section
/-
  Plain facts: the specification's reader of headers.
-/
namespace Go.Mo
open Go Go.W Go.Lib
set_option maxRecDepth 100000
noncomputable section
theorem dec22_back : ∀ (l : List Int) (fuel : Nat) (out : List Int), l.length < fuel → l.all inRep = true → out.all inRep = true → out.length + l.length ≤ 4000000 → fixN dec22F fuel (l.flatMap lat, out) = some (ofR (out ++ l), 0)
 | _, 0, _, h, _, _, _ => by omega
 | [], fuel + 1, out, _, _, ho, hb => by
  rw [fixN_s]
  show (bnd (r08_Of fuelH out) fun v1 => some (v1, (0 : Int))) = _
  rw [of_eq (by simp only [List.length_nil] at hb; omega) ho, bnd_some', List.append_nil]
 | r :: l, fuel + 1, out, h, ha, ho, hb => by
  rw [List.all_cons, Bool.and_eq_true] at ha
  simp only [List.length_cons] at h hb
  have hl := (lat_ok ha.1).2.2.1
  rw [fixN_s, List.flatMap_cons]
  unfold dec22F
  simp only
  rw [cnd_t (ilt_t (by simp only [len, List.length_append]; omega)), get_same, latin_get_lat ha.1, bnd_some', cnd_f (ieq_f (by simp only; omega)), grd_t (room_t (by simp only [iadd, len, List.length_singleton]; omega)), grd_t (in2_t (by simp only [len, List.length_append]; omega))]
  have hd : ldrop (toN ((lat r).length : Int)) (lat r ++ l.flatMap lat) = l.flatMap lat := by simp [ldrop, toN]
  simp only
  rw [hd]
  have := dec22_back l fuel (out ++ [r]) (by omega) ha.2 (by simp only [List.all_append, ho, List.all_cons, ha.1, List.all_nil, Bool.and_true]) (by rw [List.length_append, List.length_singleton]; omega)
  rw [List.append_assoc] at this
  exact this
theorem r22_decode_back {s : List UInt8} (hs : s.length ≤ 1000) (hv : vld s = true) : q166 fuelH (latE s) = some (s, 0) := by
 have hl := rns_len _ s (Nat.le_refl _)
 rw [dec22_form]
 have := dec22_back (rns s) fuelH [] (by have := fuelH_eq; omega) (rns_ok hv) rfl (by simp only [List.length_nil]; omega)
 rw [List.nil_append, ofR_rns hv] at this
 exact this
end
end Go.Mo
end

section
/-
  Plain facts: the specification's reader of headers; TapeReadsHeaders.
-/
namespace Go.Mo
open Go Go.W Go.Lib
set_option maxRecDepth 100000
noncomputable section
noncomputable def numM (c : UInt8) (n : Int) (self : Int → Option Int) : Option Int :=
 cnd (ilt (n8 c) (n8 (48 : UInt8)))
     (some (-1 : Int))
     (cnd (ilt (n8 (57 : UInt8)) (n8 c))
      (some (-1 : Int))
      (self (w64 (iadd (w64 (imul (10 : Int) n)) (w64 (n8 (b8 (isub (n8 c) (n8 (48 : UInt8))))))))))
theorem r23_number_fold {l : List UInt8} (hl : l.length ≤ 4000000) : q160 fuelH l = foldI (fun _ c n self => numM c n self) (fun n => some n) 0 l 0 := by
 unfold q160
 rw [jn_e, show ((0 : Int), (0 : Int)) = (fun (n : Int) (p : Nat) => (n, (p : Int))) 0 0 from rfl]
 refine Eq.trans (lst_loop (l := l) (fun (n : Int) (p : Nat) => (n, (p : Int))) (fun _ c n self => numM c n self) (fun n => some n) (fun self a i hi => ?_) (fun self a => ?_) fuelH 0 0 (Nat.zero_le _) (by have := fuelH_eq; omega)) ?_
 ·rw [cnd_t (ilt_t (by simp only [len]; omega)), grd_t (inb_t (by simp only [len]; omega)), lget_i hi, w64_succ hi (by omega)]
  rfl
 ·rw [cnd_f (ilt_f (by simp only [len]; omega))]
 ·rw [List.drop_zero]
theorem numMK : ∀ (l : List UInt8) (i : Nat) (n : Int), (∀ c ∈ l, 48 ≤ n8 c ∧ n8 c ≤ 57) → foldI (fun _ c n self => numM c n self) (fun n => some n) i l n = foldI (fun _ c n self => numK c n self) (fun n => some n) i l n
 | [], _, _, _ => rfl
 | c :: l, i, n, h => by
  have hc := h c (by simp)
  have h1 : ¬ n8 c < n8 48 := by show ¬ n8 c < 48; omega
  have h2 : ¬ n8 57 < n8 c := by show ¬ 57 < n8 c; omega
  rw [foldI, foldI]
  unfold numM numK
  rw [cnd_f (ilt_f h1), cnd_f (ilt_f h2), cnd_f (ilt_f h1), cnd_f (ilt_f h2)]
  exact numMK l (i + 1) _ fun c hc => h c (by simp [hc])
theorem number_same {l : List UInt8} (hl : l.length ≤ 4000000) (h : ∀ c ∈ l, 48 ≤ n8 c ∧ n8 c ≤ 57) : q160 fuelH l = q107 fuelH l := by
 rw [r23_number_fold hl, number_fold hl, numMK l 0 0 h]
theorem dg_rng {v : Int} (h : 0 ≤ v) : 48 ≤ n8 (dg v) ∧ n8 (dg v) ≤ 57 := by
 rw [dg_n8 h]
 omega
theorem dv_pos {v : Int} (h : 0 ≤ v ∧ v ≤ 1000000) : 0 ≤ dv v ∧ dv v ≤ 1000000 := by
 rw [dv_eq h]
 omega
theorem r23_num2 {v : Int} (h : 0 ≤ v ∧ v ≤ 99) : q160 fuelH [dg (dv v), dg v] = some v := by
 have h1 := dv_pos (v := v) (by omega)
 rw [number_same (by simp) ?_, num2 h]
 intro c hc
 simp only [List.mem_cons, List.not_mem_nil, or_false] at hc
 rcases hc with rfl | rfl <;> exact dg_rng (by omega)
theorem r23_num3 {v : Int} (h : 0 ≤ v ∧ v ≤ 999) : q160 fuelH [dg (dv (dv v)), dg (dv v), dg v] = some v := by
 have h1 := dv_pos (v := v) (by omega)
 have h2 := dv_pos h1
 rw [number_same (by simp) ?_, num3 h]
 intro c hc
 simp only [List.mem_cons, List.not_mem_nil, or_false] at hc
 rcases hc with rfl | rfl | rfl <;> exact dg_rng (by omega)
theorem r23_num5 {v : Int} (h : 0 ≤ v ∧ v ≤ 99999) : q160 fuelH [dg (dv (dv (dv (dv v)))), dg (dv (dv (dv v))), dg (dv (dv v)), dg (dv v), dg v] = some v := by
 have h1 := dv_pos (v := v) (by omega)
 have h2 := dv_pos h1
 have h3 := dv_pos h2
 have h4 := dv_pos h3
 rw [number_same (by simp) ?_, num5 h]
 intro c hc
 simp only [List.mem_cons, List.not_mem_nil, or_false] at hc
 rcases hc with rfl | rfl | rfl | rfl | rfl <;> exact dg_rng (by omega)
theorem times_back {l : Lbl} (h : lblOk l) (hd : l.2.2.2.2 = false) : q161 fuelH (clk l) = some l := by
 obtain ⟨⟨a1, a2⟩, ⟨b1, b2⟩, ⟨c1, c2⟩, ⟨d1, d2⟩⟩ := h
 unfold q161
 rw [grd_t (by kernel_rfl)]
 have e1 : ltake (toN (2 : Int)) (clk l) = [dg (dv l.1), dg l.1] := rfl
 have e2 : ldrop (toN (2 : Int)) (ltake (toN (4 : Int)) (clk l)) = [dg (dv l.2.1), dg l.2.1] := rfl
 have e3 : ldrop (toN (4 : Int)) (ltake (toN (6 : Int)) (clk l)) = [dg (dv l.2.2.1), dg l.2.2.1] := rfl
 have e4 : ldrop (toN (6 : Int)) (clk l) = [dg (dv l.2.2.2.1), dg l.2.2.2.1] := rfl
 rw [e1, r23_num2 (by omega), bnd_some', grd_t (by kernel_rfl), e2, r23_num2 (by omega), bnd_some', grd_t (by kernel_rfl), e3, r23_num2 (by omega), bnd_some', grd_t (by kernel_rfl), e4, r23_num2 (by omega), bnd_some', ← hd]
noncomputable def rgC (x : List UInt8) (v8 : Hdr) : Option (Hdr × Int) :=
      bnd (q182 fuelH v8) fun v9 =>
      cnd (ine v9.2 (0 : Int)) (some (hz, (4 : Int)))
       (bnd (q183 fuelH (x, v9.1)) fun v10 =>
       cnd (bnot v10) (some (hz, (4 : Int))) (some (v8, (0 : Int))))
noncomputable def rgB (x : List UInt8) (v6 : Hdr) (v7 : Int) : Option (Hdr × Int) :=
     grd (in3 (8 : Int) (w64 (iadd (8 : Int) v7)) (len x)) <|
     grd (in3 (24 : Int) (27 : Int) (len x)) <|
     bnd (q160 fuelH (ldrop (toN (24 : Int)) (ltake (toN (27 : Int)) x))) fun v12 =>
     cnd (ile (0 : Int) v12)
      (cnd (ile v12 (960 : Int))
       (grd (in3 (64 : Int) (w64 (iadd (64 : Int) v12)) (len x))
        (bnd (q166 fuelH (ldrop (toN (64 : Int)) (ltake (toN (w64 (iadd (64 : Int) v12))) x))) fun v13 =>
        rgC x (v6.1, ldrop (toN (8 : Int)) (ltake (toN (w64 (iadd (8 : Int) v7))) x), v13.1, v6.2.2.2)))
       (rgC x (v6.1, ldrop (toN (8 : Int)) (ltake (toN (w64 (iadd (8 : Int) v7))) x), v6.2.2)))
      (rgC x (v6.1, ldrop (toN (8 : Int)) (ltake (toN (w64 (iadd (8 : Int) v7))) x), v6.2.2))
noncomputable def rgF (x : List UInt8) (v6 : Hdr) : (Int → Option (Hdr × Int)) → Int → Option (Hdr × Int) := fun v15 (v16 : Int) =>
     cnd (ilt (0 : Int) v16)
      (grd (inb (w64 (isub (w64 (iadd (8 : Int) v16)) (1 : Int))) (len x))
       (cnd (ieq (n8 (lget x (toN (w64 (isub (w64 (iadd (8 : Int) v16)) (1 : Int)))) (0 : UInt8))) (n8 (32 : UInt8)))
        (v15 (w64 (isub v16 (1 : Int))))
        (rgB x v6 v16)))
      (rgB x v6 v16)
noncomputable def rgBj (x : List UInt8) (v6 : Hdr) (v7 : Int) : Option (Hdr × Int) :=
     grd (in3 (8 : Int) (w64 (iadd (8 : Int) v7)) (len x)) <|
     jn (fun (v8 : Hdr) => rgC x v8)
     fun v11 =>
     grd (in3 (24 : Int) (27 : Int) (len x)) <|
     bnd (q160 fuelH (ldrop (toN (24 : Int)) (ltake (toN (27 : Int)) x))) fun v12 =>
     cnd (ile (0 : Int) v12)
      (cnd (ile v12 (960 : Int))
       (grd (in3 (64 : Int) (w64 (iadd (64 : Int) v12)) (len x))
        (bnd (q166 fuelH (ldrop (toN (64 : Int)) (ltake (toN (w64 (iadd (64 : Int) v12))) x))) fun v13 =>
        v11 (v6.1, ldrop (toN (8 : Int)) (ltake (toN (w64 (iadd (8 : Int) v7))) x), v13.1, v6.2.2.2)))
       (v11 (v6.1, ldrop (toN (8 : Int)) (ltake (toN (w64 (iadd (8 : Int) v7))) x), v6.2.2)))
      (v11 (v6.1, ldrop (toN (8 : Int)) (ltake (toN (w64 (iadd (8 : Int) v7))) x), v6.2.2))
theorem rgBj_eq (x : List UInt8) (v6 : Hdr) (v7 : Int) : rgBj x v6 v7 = rgB x v6 v7 := by
 unfold rgBj rgB
 exact congrArg (grd _) jn_e
noncomputable def rgTj (x : List UInt8) (v6 : Hdr) : Option (Hdr × Int) :=
    jn (fun (v7 : Int) => rgBj x v6 v7)
    fun v14 =>
    fixN (fun v15 (v16 : Int) =>
     cnd (ilt (0 : Int) v16)
      (grd (inb (w64 (isub (w64 (iadd (8 : Int) v16)) (1 : Int))) (len x))
       (cnd (ieq (n8 (lget x (toN (w64 (isub (w64 (iadd (8 : Int) v16)) (1 : Int)))) (0 : UInt8))) (n8 (32 : UInt8)))
        (v15 (w64 (isub v16 (1 : Int))))
        (v14 v16)))
      (v14 v16)) fuelH (16 : Int)
theorem rgTj_eq (x : List UInt8) (v6 : Hdr) : rgTj x v6 = fixN (rgF x v6) fuelH (16 : Int) := by
 unfold rgTj
 rw [jn_e]
 refine congrArg (fun F => fixN F fuelH (16 : Int)) ?_
 funext self v
 unfold rgF
 show cnd _ (grd _ (cnd _ _ (rgBj x v6 v))) (rgBj x v6 v) = _
 rw [rgBj_eq]
noncomputable def rgA (x : List UInt8) : Option (Hdr × Int) :=
  grd (in3 (27 : Int) (32 : Int) (len x))
   (bnd (q160 fuelH (ldrop (toN (27 : Int)) (ltake (toN (32 : Int)) x))) fun v0 =>
   grd (in3 (32 : Int) (37 : Int) (len x)) <|
   bnd (q160 fuelH (ldrop (toN (32 : Int)) (ltake (toN (37 : Int)) x))) fun v1 =>
   grd (in3 (37 : Int) (45 : Int) (len x)) <|
   bnd (q161 fuelH (ldrop (toN (37 : Int)) (ltake (toN (45 : Int)) x))) fun v2 =>
   grd (in3 (45 : Int) (53 : Int) (len x)) <|
   bnd (q161 fuelH (ldrop (toN (45 : Int)) (ltake (toN (53 : Int)) x))) fun v3 =>
   grd (in3 (53 : Int) (55 : Int) (len x)) <|
   bnd (q160 fuelH (ldrop (toN (53 : Int)) (ltake (toN (55 : Int)) x))) fun v4 =>
   grd (in3 (55 : Int) (57 : Int) (len x)) <|
   bnd (q160 fuelH (ldrop (toN (55 : Int)) (ltake (toN (57 : Int)) x))) fun v5 =>
   jn (fun (v6 : Hdr) => rgTj x v6)
   fun v17 =>
   grd (inb (3 : Int) (len x)) <|
   cnd (ieq (n8 (lget x (toN (3 : Int)) (0 : UInt8))) (n8 (51 : UInt8)))
    (v17 ((5 : UInt8), ([] : List UInt8), ([] : List UInt8), v0, v1, v2, v3, v4, v5))
    (v17 ((3 : UInt8), ([] : List UInt8), ([] : List UInt8), v0, v1, v2, v3, v4, v5)))
theorem rg_eq (x : List UInt8) : q184 fuelH x = cnd (ine (len x) (1024 : Int)) (some (hz, (4 : Int))) (rgA x) := by kernel_rfl
theorem requal_eq (N : Nat) (x y : List UInt8) : q183 N (x, y) = some (decide (x = y)) := by
 rw [← seq_dec]
 rfl
theorem pad_get {l : List UInt8} {j n : Nat} (hj : j < n) : (pad l n).getD j 0 = if j < l.length then l.getD j 0 else 32 := by
 unfold pad
 split
 ·rename_i h
  simp [List.getD, List.getElem?_append_left h]
 ·rename_i h
  simp only [List.getD]
  rw [List.getElem?_append_right (by omega), List.getElem?_replicate, if_pos (by omega)]
  rfl
theorem rgF_back {x : List UInt8} {l S R : List UInt8} (hx : x = S ++ pad l 16 ++ R) (hS : S.length = 8) (hl : l.length ≤ 16) (hxl : x.length = 1024) (he : l = [] ∨ ∃ c m, l = m ++ [c] ∧ n8 c ≠ 32) (v6 : Hdr) : ∀ (fuel k : Nat), k < fuel → l.length ≤ k → k ≤ 16 → fixN (rgF x v6) fuel (k : Int) = rgB x v6 (l.length : Int)
 | 0, k, h, _, _ => by omega
 | fuel + 1, k, h, hk, hk2 => by
  rw [fixN_s]
  unfold rgF
  rw [cnd_ilt]
  split
  ·have hw : w64 (isub (w64 (iadd (8 : Int) (k : Int))) (1 : Int)) = ((8 + (k - 1) : Nat) : Int) := by
    simp only [iadd, isub]
    rw [w64_id (x := 8 + (k : Int)) (by omega), w64_id (by omega)]
    omega
   have hw2 : w64 (isub (k : Int) 1) = ((k - 1 : Nat) : Int) := by
    simp only [isub]
    rw [w64_id (by omega)]
    omega
   have hg : lget x (toN ((8 + (k - 1) : Nat) : Int)) 0 = (pad l 16).getD (k - 1) 0 := by
    rw [hx]
    unfold lget toN
    rw [List.append_assoc, Int.toNat_natCast]
    simp only [List.getD]
    rw [List.getElem?_append_right (by omega), List.getElem?_append_left (by rw [pad_len hl]; omega), hS]
    congr 2
    omega
   rw [hw, grd_t (inb_t (by simp only [len]; omega)), hg, pad_get (by omega), cnd_ieq, hw2]
   by_cases hkl : k = l.length
   ·rw [if_pos (show k - 1 < l.length by omega)]
    rcases he with rfl | ⟨c, m, rfl, hc⟩
    ·simp only [List.length_nil] at hkl
     omega
    ·have hge : (m ++ [c]).getD (k - 1) 0 = c := by
      simp only [List.length_append, List.length_singleton] at hkl
      simp only [List.getD]
      rw [show k - 1 = m.length by omega]
      simp
     rw [hge, if_neg (show ¬ n8 c = n8 32 from hc), hkl]
   ·rw [if_neg (show ¬ k - 1 < l.length by omega), if_pos rfl]
    exact rgF_back hx hS hl hxl he v6 fuel (k - 1) (by omega) (by omega) (by omega)
  ·have : k = l.length := by omega
   rw [this]
theorem rg_back {h : Hdr} (hp : q182 fuelH h = some (hby h, 0)) (H : HdrOk h) : q184 fuelH (hby h) = some (h, 0) := by
 have hL := lang_len H
 have hT := latE_len H.ttl
 have hT4 := H.ttlL
 have hs := sig_len h.1
 have hlen := hby_len H
 have i3 : ∀ l u : Int, 0 ≤ l ∧ l ≤ u ∧ u ≤ 1024 → in3 l u (len (hby h)) = true := fun l u q => in3_t (by simp only [len]; omega)
 have i1 : inb (3 : Int) (len (hby h)) = true := inb_t (by simp only [len]; omega)
 have g3 : n8 (lget (hby h) (toN (3 : Int)) 0) = if h.1 = 5 then 51 else 50 := by
  rcases H.rate with hr | hr
  ·unfold hby
   rw [hr]
   kernel_rfl
  ·unfold hby
   rw [hr]
   kernel_rfl
 generalize hx : hby h = x at hlen i3 i1 hp g3
 have hP : (sig h.1 ++ pad h.2.1 16).length = 24 := by rw [List.length_append, hs, pad_len hL]
 have hx' : x = (sig h.1 ++ pad h.2.1 16) ++ pad (hdg h ((latE h.2.2.1).length : Int)) 40 ++ pad (latE h.2.2.1) 960 := hx.symm
 have hx2 : x = sig h.1 ++ pad h.2.1 16 ++ (pad (hdg h ((latE h.2.2.1).length : Int)) 40 ++ pad (latE h.2.2.1) 960) := by rw [hx']; simp only [List.append_assoc]
 generalize hD : pad (hdg h ((latE h.2.2.1).length : Int)) 40 = D at hx' hx2
 have hDl : D.length = 40 := by rw [← hD, pad_len (by rw [hdg_len]; decide)]
 have sl : ∀ a b : Nat, b ≤ 40 → ldrop (24 + a) (ltake (24 + b) x) = ldrop a (ltake b D) := fun a b hb => by rw [hx']; exact slc hP (by omega)
 have s1 : ldrop (toN (27 : Int)) (ltake (toN (32 : Int)) x) = [dg (dv (dv (dv (dv h.2.2.2.1)))), dg (dv (dv (dv h.2.2.2.1))), dg (dv (dv h.2.2.2.1)), dg (dv h.2.2.2.1), dg h.2.2.2.1] := (sl 3 8 (by decide)).trans (by rw [← hD]; kernel_rfl)
 have s2 : ldrop (toN (32 : Int)) (ltake (toN (37 : Int)) x) = [dg (dv (dv (dv (dv h.2.2.2.2.1)))), dg (dv (dv (dv h.2.2.2.2.1))), dg (dv (dv h.2.2.2.2.1)), dg (dv h.2.2.2.2.1), dg h.2.2.2.2.1] := (sl 8 13 (by decide)).trans (by rw [← hD]; kernel_rfl)
 have s3 : ldrop (toN (37 : Int)) (ltake (toN (45 : Int)) x) = clk h.2.2.2.2.2.1 := (sl 13 21 (by decide)).trans (by rw [← hD]; kernel_rfl)
 have s4 : ldrop (toN (45 : Int)) (ltake (toN (53 : Int)) x) = clk h.2.2.2.2.2.2.1 := (sl 21 29 (by decide)).trans (by rw [← hD]; kernel_rfl)
 have s5 : ldrop (toN (53 : Int)) (ltake (toN (55 : Int)) x) = [dg (dv h.2.2.2.2.2.2.2.1), dg h.2.2.2.2.2.2.2.1] := (sl 29 31 (by decide)).trans (by rw [← hD]; kernel_rfl)
 have s6 : ldrop (toN (55 : Int)) (ltake (toN (57 : Int)) x) = [dg (dv h.2.2.2.2.2.2.2.2), dg h.2.2.2.2.2.2.2.2] := (sl 31 33 (by decide)).trans (by rw [← hD]; kernel_rfl)
 have s7 : ldrop (toN (24 : Int)) (ltake (toN (27 : Int)) x) = [dg (dv (dv ((latE h.2.2.1).length : Int))), dg (dv ((latE h.2.2.1).length : Int)), dg ((latE h.2.2.1).length : Int)] := (sl 0 3 (by decide)).trans (by rw [← hD]; kernel_rfl)
 have s8 : ldrop (toN (8 : Int)) (ltake (toN (8 + (h.2.1.length : Int))) x) = h.2.1 := by
  have e : x = sig h.1 ++ h.2.1 ++ (List.replicate (16 - h.2.1.length) 32 ++ (D ++ pad (latE h.2.2.1) 960)) := by rw [hx2]; unfold pad; simp only [List.append_assoc]
  rw [e, show toN (8 + (h.2.1.length : Int)) = 8 + h.2.1.length from by simp only [toN]; omega]
  refine (slc (P := sig h.1) (k := 8) (a := 0) (b := h.2.1.length) hs (Nat.le_refl _)).trans ?_
  show h.2.1.take _ = _
  rw [List.take_length]
 have hn : w64 (iadd (64 : Int) ((latE h.2.2.1).length : Int)) = ((64 + (latE h.2.2.1).length : Nat) : Int) := by
  simp only [iadd]
  rw [w64_id (by omega)]
  omega
 have s10 : ldrop (toN (64 : Int)) (ltake (toN ((64 + (latE h.2.2.1).length : Nat) : Int)) x) = latE h.2.2.1 := by
  have hPD : (sig h.1 ++ pad h.2.1 16 ++ D).length = 64 := by rw [List.length_append, hP, hDl]
  have e : x = (sig h.1 ++ pad h.2.1 16 ++ D) ++ latE h.2.2.1 ++ List.replicate (960 - (latE h.2.2.1).length) 32 := by rw [hx', List.append_assoc _ (latE h.2.2.1)]; rfl
  rw [e]
  refine (slc (P := sig h.1 ++ pad h.2.1 16 ++ D) (k := 64) (a := 0) (b := (latE h.2.2.1).length) hPD (Nat.le_refl _)).trans ?_
  show (latE h.2.2.1).take _ = _
  rw [List.take_length]
 have e0 : ∀ r : UInt8, r = h.1 → fixN (rgF x (r, [], [], h.2.2.2.1, h.2.2.2.2.1, h.2.2.2.2.2.1, h.2.2.2.2.2.2.1, h.2.2.2.2.2.2.2.1, h.2.2.2.2.2.2.2.2)) fuelH (16 : Int) = some (h, 0) := by
  rintro r rfl
  refine (rgF_back hx2 hs hL hlen (name_end H.lang) _ fuelH 16 (by decide) hL (Nat.le_refl _)).trans ?_
  unfold rgB
  have hw : w64 (iadd (8 : Int) (h.2.1.length : Int)) = 8 + (h.2.1.length : Int) := w64_id (by simp only [iadd]; omega)
  rw [hw, grd_t (i3 _ _ (by omega)), grd_t (i3 24 27 (by decide)), s7, r23_num3 (by omega), bnd_some', cnd_t (ile_t (by omega)), cnd_t (ile_t (by omega)), hn, grd_t (i3 _ _ (by omega)), s10, r22_decode_back (by omega) H.ttl, bnd_some', s8]
  unfold rgC
  rw [hp, bnd_some', cnd_f (ine_f rfl), requal_eq, decide_eq_true rfl]
  rfl
 rw [rg_eq, cnd_f (ine_f (by simp only [len]; omega))]
 unfold rgA
 rw [grd_t (i3 27 32 (by decide)), s1, r23_num5 H.blocks, bnd_some', grd_t (i3 32 37 (by decide)), s2, r23_num5 H.groups, bnd_some', grd_t (i3 37 45 (by decide)), s3, times_back H.start H.d1, bnd_some', grd_t (i3 45 53 (by decide)), s4, times_back H.first H.d2, bnd_some', grd_t (i3 53 55 (by decide)), s5, r23_num2 H.rows, bnd_some', grd_t (i3 55 57 (by decide)), s6, r23_num2 H.cols, bnd_some', jn_e, grd_t i1, g3]
 rcases H.rate with hr | hr
 ·rw [cnd_f (by rw [hr]; rfl)]
  exact (rgTj_eq x _).trans (e0 3 hr.symm)
 ·rw [cnd_t (by rw [hr]; rfl)]
  exact (rgTj_eq x _).trans (e0 5 hr.symm)
end
end Go.Mo
end

section
/-
  Plain facts: the check and the bytes of a block, by the layer and by the specification.
-/
namespace Go.Mo
open Go Go.W Go.Lib
set_option maxRecDepth 100000
noncomputable section
abbrev Blk := Int × Int × UInt8 × UInt8 × Lbl × Lbl × Int × UInt8 × Bool × List UInt8
noncomputable def lblIn (l : Lbl) : Prop := (0 ≤ l.1 ∧ l.1 ≤ 23) ∧ (0 ≤ l.2.1 ∧ l.2.1 ≤ 59) ∧ (0 ≤ l.2.2.1 ∧ l.2.2.1 ≤ 59) ∧ (0 ≤ l.2.2.2.1 ∧ l.2.2.2.1 ≤ 29)
instance (l : Lbl) : Decidable (lblIn l) := by unfold lblIn; infer_instance
theorem timed_eq (N : Nat) (l : Lbl) : q91 N l = some (if lblIn l then 0 else 2) := by
 by_cases h : lblIn l
 ·rw [if_pos h]
  obtain ⟨⟨a1, a2⟩, ⟨b1, b2⟩, ⟨c1, c2⟩, ⟨d1, d2⟩⟩ := h
  unfold q91
  rw [cnd_f (ilt_f (by omega)), cnd_f (ilt_f (by omega)), cnd_f (ilt_f (by omega)), cnd_f (ilt_f (by omega)), cnd_f (ilt_f (by omega)), cnd_f (ilt_f (by omega)), cnd_f (ilt_f (by omega)), cnd_f (ilt_f (by omega))]
 ·rw [if_neg h]
  unfold q91
  simp only [cnd_ilt]
  repeat' split
  all_goals first | rfl | (exfalso; apply h; unfold lblIn; omega)
theorem clockB_eq (N : Nat) (l : Lbl) : q186 N l = some (decide (lblIn l)) := by
 unfold q186
 rw [within_eq, bnd_some', cnd_dec]
 by_cases h1 : 0 ≤ l.1 ∧ l.1 ≤ 23
 case neg => rw [if_neg h1, decide_eq_false (fun h => h1 h.1)]
 rw [if_pos h1, within_eq, bnd_some', cnd_dec]
 by_cases h2 : 0 ≤ l.2.1 ∧ l.2.1 ≤ 59
 case neg => rw [if_neg h2, decide_eq_false (fun h => h2 h.2.1)]
 rw [if_pos h2, within_eq, bnd_some', cnd_dec]
 by_cases h3 : 0 ≤ l.2.2.1 ∧ l.2.2.1 ≤ 59
 case neg => rw [if_neg h3, decide_eq_false (fun h => h3 h.2.2.1)]
 rw [if_pos h3, within_eq, bnd_some']
 congr 1
 rw [decide_eq_decide]
 exact ⟨fun h => ⟨h1, h2, h3, h⟩, fun h => h.2.2.2⟩
structure BlkOk (b : Blk) : Prop where
 grp : 0 ≤ b.1 ∧ b.1 ≤ 255
 num : 0 ≤ b.2.1 ∧ b.2.1 ≤ 65535
 ain : lblIn b.2.2.2.2.1
 aout : lblIn b.2.2.2.2.2.1
 d1 : b.2.2.2.2.1.2.2.2.2 = false
 d2 : b.2.2.2.2.2.1.2.2.2.2 = false
 row : 0 ≤ b.2.2.2.2.2.2.1 ∧ b.2.2.2.2.2.2.1 ≤ 14
 txt : b.2.2.2.2.2.2.2.2.2.length ≤ 112
 fil : (143 : UInt8) ∉ b.2.2.2.2.2.2.2.2.2
 al : 1 ≤ n8 b.2.2.2.2.2.2.2.1 ∧ n8 b.2.2.2.2.2.2.2.1 ≤ 3
theorem index_ge (l : List UInt8) (c : UInt8) : 0 ≤ indexByte l c ↔ c ∈ l := by
 induction l with
 | nil => simp [indexByte]
 | cons b l ih =>
  unfold indexByte
  have := indexByte_ge l c
  by_cases h : b = c
  ·simp [h]
  ·have hb : (b == c) = false := by simpa using h
   rw [hb]
   simp only [Bool.false_eq_true, if_false, List.mem_cons]
   have hne : ¬ c = b := fun e => h e.symm
   simp only [hne, false_or, ← ih]
   by_cases h1 : indexByte l c = -1
   ·simp [h1]
   ·have h2 : (indexByte l c == -1) = false := by simpa using h1
    rw [h2]
    simp only [Bool.false_eq_true, if_false]
    omega
theorem indexB_eq (N : Nat) (l : List UInt8) (c : UInt8) : q92 N (l, c) = some (indexByte l c) := by kernel_rfl
theorem filled_eq {l : List UInt8} (h : l.length ≤ 4000000) : q187 fuelH l = some (decide ((143 : UInt8) ∈ l)) := by
 unfold q187
 rw [jn_e]
 refine Eq.trans (lst_loop (l := l) (fun (_ : Unit) (p : Nat) => (p : Int)) (fun _ c (_ : Unit) self => cnd (ieq (n8 c) (n8 (143 : UInt8))) (some true) (self ())) (fun _ => some false) (fun self a i hi => ?_) (fun self a => ?_) fuelH 0 () (Nat.zero_le _) (by have := fuelH_eq; omega)) ?_
 ·rw [cnd_t (ilt_t (by simp only [len]; omega)), grd_t (inb_t (by simp only [len]; omega)), lget_i hi, w64_succ hi (by omega)]
 ·rw [cnd_f (ilt_f (by simp only [len]; omega))]
 ·rw [List.drop_zero]
  have : ∀ (l : List UInt8) (i : Nat), foldI (fun _ c (_ : Unit) self => cnd (ieq (n8 c) (n8 (143 : UInt8))) (some true) (self ())) (fun _ => some false) i l () = some (decide ((143 : UInt8) ∈ l)) := by
   intro l
   induction l with
   | nil => intro i; rfl
   | cons c l ih =>
    intro i
    rw [foldI]
    by_cases hc : c = 143
    ·rw [cnd_t (ieq_t (by rw [hc]))]
     simp [hc]
    ·rw [cnd_f (ieq_f fun e => hc (n8_inj e))]
     show foldI _ _ _ l () = _
     rw [ih (i + 1)]
     congr 1
     have hne : ¬ 143 = c := fun e => hc e.symm
     simp [hne]
  exact this l 0
noncomputable def tcB (x : Blk) (v0 : Bool) : Option Int :=
      cnd v0
       (some (3 : Int))
       (bnd (q91 fuelH x.2.2.2.2.1) fun v1 =>
       cnd (ine v1 (0 : Int))
        (some (2 : Int))
        (bnd (q91 fuelH x.2.2.2.2.2.1) fun v2 =>
        cnd (ine v2 (0 : Int))
         (some (2 : Int))
         (cnd x.2.2.2.2.1.2.2.2.2
          (some (13 : Int))
          (cnd x.2.2.2.2.2.1.2.2.2.2
           (some (13 : Int))
           (cnd (ilt x.2.2.2.2.2.2.1 (0 : Int))
            (some (2 : Int))
            (cnd (ile (15 : Int) x.2.2.2.2.2.2.1)
             (some (2 : Int))
             (cnd (ilt (n8 x.2.2.2.2.2.2.2.1) (n8 (1 : UInt8)))
              (some (3 : Int))
              (cnd (ilt (n8 (3 : UInt8)) (n8 x.2.2.2.2.2.2.2.1))
               (some (3 : Int))
               (cnd (ilt (112 : Int) (len x.2.2.2.2.2.2.2.2.2))
                (some (9 : Int))
                (bnd (q92 fuelH (x.2.2.2.2.2.2.2.2.2, (143 : UInt8))) fun v3 =>
                cnd (ile (0 : Int) v3)
                 (some (4 : Int))
                 (some (0 : Int))))))))))))
noncomputable def tcA (x : Blk) : Option Int :=
     cnd (ile (n8 (240 : UInt8)) (n8 x.2.2.1))
      (cnd (ilt (n8 x.2.2.1) (n8 (255 : UInt8)))
       (tcB x true)
       (tcB x (ilt (n8 (3 : UInt8)) (n8 x.2.2.2.1))))
      (tcB x (ilt (n8 (3 : UInt8)) (n8 x.2.2.2.1)))
theorem tc_eq (x : Blk) : q93 fuelH x = cnd (ilt x.1 (0 : Int)) (some (2 : Int)) (cnd (ilt (255 : Int) x.1) (some (2 : Int)) (cnd (ilt x.2.1 (0 : Int)) (some (2 : Int)) (cnd (ilt (65535 : Int) x.2.1) (some (2 : Int)) (tcA x)))) := by kernel_rfl
noncomputable def rcB (x : Blk) (v2 : Bool) : Option Int :=
    cnd v2
     (some (3 : Int))
     (bnd (q186 fuelH x.2.2.2.2.1) fun v3 =>
     cnd (bnot v3)
      (some (2 : Int))
      (bnd (q186 fuelH x.2.2.2.2.2.1) fun v4 =>
      cnd (bnot v4)
       (some (2 : Int))
       (cnd x.2.2.2.2.1.2.2.2.2
        (some (13 : Int))
        (cnd x.2.2.2.2.2.1.2.2.2.2
         (some (13 : Int))
         (bnd (q169 fuelH (x.2.2.2.2.2.2.1, (0 : Int), (14 : Int))) fun v5 =>
         cnd (bnot v5)
          (some (2 : Int))
          (cnd (ilt (n8 x.2.2.2.2.2.2.2.1) (n8 (1 : UInt8)))
           (some (3 : Int))
           (cnd (ilt (n8 (3 : UInt8)) (n8 x.2.2.2.2.2.2.2.1))
            (some (3 : Int))
            (cnd (ilt (112 : Int) (len x.2.2.2.2.2.2.2.2.2))
             (some (9 : Int))
             (bnd (q187 fuelH x.2.2.2.2.2.2.2.2.2) fun v6 =>
             cnd v6
              (some (4 : Int))
              (some (0 : Int)))))))))))
noncomputable def rcA (x : Blk) : Option Int :=
   cnd (ile (n8 (240 : UInt8)) (n8 x.2.2.1))
    (cnd (ile (n8 x.2.2.1) (n8 (254 : UInt8)))
     (rcB x true)
     (rcB x (ilt (n8 (3 : UInt8)) (n8 x.2.2.2.1))))
    (rcB x (ilt (n8 (3 : UInt8)) (n8 x.2.2.2.1)))
theorem rc_eq (x : Blk) : q188 fuelH x = bnd (q169 fuelH (x.1, (0 : Int), (255 : Int))) fun v0 => cnd (bnot v0) (some (2 : Int)) (bnd (q169 fuelH (x.2.1, (0 : Int), (65535 : Int))) fun v1 => cnd (bnot v1) (some (2 : Int)) (rcA x)) := by kernel_rfl
theorem bcheck_ok (b : Blk) : ∃ e, q93 fuelH b = some e ∧ q188 fuelH b = some e ∧ (e = 0 → BlkOk b) := by
 rw [tc_eq, rc_eq, within_eq, bnd_some', cnd_bnot, within_eq, bnd_some', cnd_bnot]
 by_cases q1 : 0 ≤ b.1 ∧ b.1 ≤ 255
 case neg =>
  refine ⟨2, ?_, if_neg q1, fun h => absurd h (by decide)⟩
  rw [cnd_ilt, cnd_ilt]
  by_cases h : b.1 < 0
  ·rw [if_pos h]
  ·rw [if_neg h, if_pos (by omega)]
 rw [if_pos q1, cnd_f (ilt_f (by omega)), cnd_f (ilt_f (by omega))]
 by_cases q2 : 0 ≤ b.2.1 ∧ b.2.1 ≤ 65535
 case neg =>
  refine ⟨2, ?_, if_neg q2, fun h => absurd h (by decide)⟩
  rw [cnd_ilt, cnd_ilt]
  by_cases h : b.2.1 < 0
  ·rw [if_pos h]
  ·rw [if_neg h, if_pos (by omega)]
 rw [if_pos q2, cnd_f (ilt_f (by omega)), cnd_f (ilt_f (by omega))]
 have hx : ∃ v : Bool, tcA b = tcB b v ∧ rcA b = rcB b v := by
  unfold tcA rcA
  have e240 : n8 (240 : UInt8) = 240 := rfl
  have e255 : n8 (255 : UInt8) = 255 := rfl
  have e254 : n8 (254 : UInt8) = 254 := rfl
  rw [e240, e255, e254, cnd_ile, cnd_ilt, cnd_ile, cnd_ile]
  by_cases h1 : 240 ≤ n8 b.2.2.1
  ·rw [if_pos h1, if_pos h1]
   by_cases h2 : n8 b.2.2.1 < 255
   ·rw [if_pos h2, if_pos (by omega)]
    exact ⟨_, rfl, rfl⟩
   ·rw [if_neg h2, if_neg (by omega)]
    exact ⟨_, rfl, rfl⟩
  ·rw [if_neg h1, if_neg h1]
   exact ⟨_, rfl, rfl⟩
 obtain ⟨v, e1, e2⟩ := hx
 rw [e1, e2]
 unfold tcB rcB
 cases v with
 | true => exact ⟨3, rfl, rfl, fun h => absurd h (by decide)⟩
 | false =>
  rw [cnd_f rfl, cnd_f rfl, timed_eq, bnd_some', clockB_eq, bnd_some', cnd_bnot, cnd_ine]
  by_cases q3 : lblIn b.2.2.2.2.1
  case neg =>
   rw [if_neg q3, if_neg q3]
   exact ⟨2, rfl, rfl, fun h => absurd h (by decide)⟩
  rw [if_pos q3, if_pos q3, if_neg (by simp), timed_eq, bnd_some', clockB_eq, bnd_some', cnd_bnot, cnd_ine]
  by_cases q4 : lblIn b.2.2.2.2.2.1
  case neg =>
   rw [if_neg q4, if_neg q4]
   exact ⟨2, rfl, rfl, fun h => absurd h (by decide)⟩
  rw [if_pos q4, if_pos q4, if_neg (by simp)]
  cases d1 : b.2.2.2.2.1.2.2.2.2 with
  | true => exact ⟨13, rfl, rfl, fun h => absurd h (by decide)⟩
  | false =>
   rw [cnd_f rfl, cnd_f rfl]
   cases d2 : b.2.2.2.2.2.1.2.2.2.2 with
   | true => exact ⟨13, rfl, rfl, fun h => absurd h (by decide)⟩
   | false =>
    rw [cnd_f rfl, cnd_f rfl, within_eq, bnd_some', cnd_bnot]
    by_cases q5 : 0 ≤ b.2.2.2.2.2.2.1 ∧ b.2.2.2.2.2.2.1 ≤ 14
    case neg =>
     refine ⟨2, ?_, if_neg q5, fun h => absurd h (by decide)⟩
     rw [cnd_ilt, cnd_ile]
     by_cases h : b.2.2.2.2.2.2.1 < 0
     ·rw [if_pos h]
     ·rw [if_neg h, if_pos (by omega)]
    rw [if_pos q5, cnd_f (ilt_f (by omega)), cnd_f (ile_f (by omega))]
    by_cases q6 : n8 b.2.2.2.2.2.2.2.1 < n8 (1 : UInt8)
    ·exact ⟨3, cnd_t (ilt_t q6), cnd_t (ilt_t q6), fun h => absurd h (by decide)⟩
    rw [cnd_f (ilt_f q6), cnd_f (ilt_f q6)]
    by_cases q7 : n8 (3 : UInt8) < n8 b.2.2.2.2.2.2.2.1
    ·exact ⟨3, cnd_t (ilt_t q7), cnd_t (ilt_t q7), fun h => absurd h (by decide)⟩
    rw [cnd_f (ilt_f q7), cnd_f (ilt_f q7)]
    by_cases q8 : (112 : Int) < len b.2.2.2.2.2.2.2.2.2
    ·exact ⟨9, cnd_t (ilt_t q8), cnd_t (ilt_t q8), fun h => absurd h (by decide)⟩
    have q8' : b.2.2.2.2.2.2.2.2.2.length ≤ 112 := by simp only [len] at q8; omega
    rw [cnd_f (ilt_f q8), cnd_f (ilt_f q8), indexB_eq, bnd_some', filled_eq (by omega), bnd_some', cnd_ile, cnd_dec]
    by_cases q9 : (143 : UInt8) ∈ b.2.2.2.2.2.2.2.2.2
    ·rw [if_pos ((index_ge _ _).2 q9), if_pos q9]
     exact ⟨4, rfl, rfl, fun h => absurd h (by decide)⟩
    ·rw [if_neg (fun h => q9 ((index_ge _ _).1 h)), if_neg q9]
     have e1 : n8 (1 : UInt8) = 1 := rfl
     have e3 : n8 (3 : UInt8) = 3 := rfl
     exact ⟨0, rfl, rfl, fun _ => ⟨q1, q2, q3, q4, d1, d2, q5, q8', q9, by omega⟩⟩
noncomputable def bhd (b : Blk) : List UInt8 := [b8 b.1, b8 b.2.1, b8 (b.2.1 / 256), b.2.2.1, b.2.2.2.1, b8 b.2.2.2.2.1.1, b8 b.2.2.2.2.1.2.1, b8 b.2.2.2.2.1.2.2.1, b8 b.2.2.2.2.1.2.2.2.1, b8 b.2.2.2.2.2.1.1, b8 b.2.2.2.2.2.1.2.1, b8 b.2.2.2.2.2.1.2.2.1, b8 b.2.2.2.2.2.1.2.2.2.1, b8 b.2.2.2.2.2.2.1, b.2.2.2.2.2.2.2.1, bif b.2.2.2.2.2.2.2.2.1 then 1 else 0]
noncomputable def bby (b : Blk) : List UInt8 := bhd b ++ (b.2.2.2.2.2.2.2.2.2 ++ List.replicate (112 - b.2.2.2.2.2.2.2.2.2.length) 143)
theorem bby_len {b : Blk} (h : BlkOk b) : (bby b).length = 128 := by
 have := h.txt
 unfold bby
 rw [List.length_append, List.length_append, List.length_replicate, show (bhd b).length = 16 from rfl]
 omega
noncomputable def tpK (x : Blk) (v1 : UInt8) : Option (List UInt8 × Int) :=
 grd (room (iadd (len ([b8 x.1, b8 x.2.1, b8 (shrk .i64 x.2.1 (8 : Int)), x.2.2.1, x.2.2.2.1, b8 x.2.2.2.2.1.1, b8 x.2.2.2.2.1.2.1, b8 x.2.2.2.2.1.2.2.1, b8 x.2.2.2.2.1.2.2.2.1, b8 x.2.2.2.2.2.1.1, b8 x.2.2.2.2.2.1.2.1, b8 x.2.2.2.2.2.1.2.2.1, b8 x.2.2.2.2.2.1.2.2.2.1, b8 x.2.2.2.2.2.2.1, x.2.2.2.2.2.2.2.1, v1] : List UInt8)) (len x.2.2.2.2.2.2.2.2.2)) 1)
  (let h : List UInt8 := lapp [b8 x.1, b8 x.2.1, b8 (shrk .i64 x.2.1 (8 : Int)), x.2.2.1, x.2.2.2.1, b8 x.2.2.2.2.1.1, b8 x.2.2.2.2.1.2.1, b8 x.2.2.2.2.1.2.2.1, b8 x.2.2.2.2.1.2.2.2.1, b8 x.2.2.2.2.2.1.1, b8 x.2.2.2.2.2.1.2.1, b8 x.2.2.2.2.2.1.2.2.1, b8 x.2.2.2.2.2.1.2.2.2.1, b8 x.2.2.2.2.2.2.1, x.2.2.2.2.2.2.2.1, v1] x.2.2.2.2.2.2.2.2.2
  bnd (q100 fuelH (([143] : List UInt8), w64 (isub (128 : Int) (len h)))) fun v2 =>
  grd (room (iadd (len h) (len v2)) 1) (some (lapp h v2, (0 : Int))))
theorem tp_eq (x : Blk) : tape_Put fuelH x = bnd (q93 fuelH x) fun v0 => cnd (ine v0 (0 : Int)) (some (([] : List UInt8), v0)) (cnd x.2.2.2.2.2.2.2.2.1 (tpK x 1) (tpK x 0)) := by kernel_rfl
noncomputable def rpK (x : Blk) (v1 : UInt8) : Option (List UInt8 × Int) :=
  let h0 : List UInt8 := lapp [b8 x.1, b8 (imod x.2.1 (256 : Int)), b8 (w64 (idiv x.2.1 (256 : Int))), x.2.2.1, x.2.2.2.1] [b8 x.2.2.2.2.1.1, b8 x.2.2.2.2.1.2.1, b8 x.2.2.2.2.1.2.2.1, b8 x.2.2.2.2.1.2.2.2.1, b8 x.2.2.2.2.2.1.1, b8 x.2.2.2.2.2.1.2.1, b8 x.2.2.2.2.2.1.2.2.1, b8 x.2.2.2.2.2.1.2.2.2.1]
  let h1 : List UInt8 := [b8 x.2.2.2.2.2.2.1, x.2.2.2.2.2.2.2.1, v1]
  grd (room (iadd (len h0) (len h1)) 1)
  (bnd (r23_fill fuelH (x.2.2.2.2.2.2.2.2.2, (112 : Int), (143 : UInt8))) fun v2 =>
  grd (room (iadd (len (lapp h0 h1)) (len v2)) 1) (some (lapp (lapp h0 h1) v2, (0 : Int))))
theorem rp_eq (x : Blk) : r23_Put fuelH x = bnd (q188 fuelH x) fun v0 => cnd (ine v0 (0 : Int)) (some (([] : List UInt8), v0)) (cnd x.2.2.2.2.2.2.2.2.1 (rpK x 1) (rpK x 0)) := by kernel_rfl
theorem fillc_eq {l : List UInt8} {n : Nat} (c : UInt8) (hn : n ≤ 1100) (hl : l.length ≤ n) : r23_fill fuelH (l, (n : Int), c) = some (l ++ List.replicate (n - l.length) c) := by
 unfold r23_fill
 rw [jn_e, grd_t (room_t (by simp [iadd, len]; omega))]
 have : ∀ (fuel : Nat) (m : List UInt8), n - m.length < fuel → m.length ≤ n → fixN (fun v2 (v3 : List UInt8) =>
  cnd (ilt (len v3) (n : Int))
   (grd (room (iadd (len v3) (len ([c] : List UInt8))) 1)
    (v2 (lapp v3 ([c] : List UInt8))))
   (some v3)) fuel m = some (m ++ List.replicate (n - m.length) c) := by
  intro fuel
  induction fuel with
  | zero => intro m h; omega
  | succ fuel ih =>
   intro m h h2
   rw [fixN_s]
   by_cases hm : m.length < n
   ·rw [cnd_t (ilt_t (by simp only [len]; omega)), grd_t (room_t (by simp [iadd, len]; omega)), ih _ (by simp [lapp]; omega) (by simp [lapp]; omega)]
    congr 1
    unfold lapp
    obtain ⟨k, hk⟩ : ∃ k, n - m.length = k + 1 := ⟨n - m.length - 1, by omega⟩
    rw [hk, List.replicate_succ, List.length_append, List.append_assoc]
    simp only [List.length_singleton, show n - (m.length + 1) = k by omega]
    rfl
   ·rw [cnd_f (ilt_f (by simp only [len]; omega))]
    rw [show n - m.length = 0 by omega]
    simp
 have := this fuelH (lapp [] l) (by have := fuelH_eq; simp [lapp]; omega) (by simp [lapp]; omega)
 simpa [lapp] using this
theorem rep0_eq (N : Nat) (b : UInt8) : q100 N ([b], (0 : Int)) = some [] := by
 unfold q100
 rw [cnd_t (ieq_t rfl)]
theorem repeat_le {n : Nat} (hn : n ≤ 1024) (b : UInt8) : q100 fuelH ([b], (n : Int)) = some (List.replicate n b) := by
 by_cases h : n = 0
 ·subst h
  exact rep0_eq _ _
 ·exact repeat_eq (by decide) b (by omega) hn
noncomputable def bhv (b : Blk) (v : UInt8) : List UInt8 := [b8 b.1, b8 b.2.1, b8 (b.2.1 / 256), b.2.2.1, b.2.2.2.1, b8 b.2.2.2.2.1.1, b8 b.2.2.2.2.1.2.1, b8 b.2.2.2.2.1.2.2.1, b8 b.2.2.2.2.1.2.2.2.1, b8 b.2.2.2.2.2.1.1, b8 b.2.2.2.2.2.1.2.1, b8 b.2.2.2.2.2.1.2.2.1, b8 b.2.2.2.2.2.1.2.2.2.1, b8 b.2.2.2.2.2.2.1, b.2.2.2.2.2.2.2.1, v]
theorem tpK_eq {b : Blk} (h : BlkOk b) (v : UInt8) : tpK b v = some (bhv b v ++ (b.2.2.2.2.2.2.2.2.2 ++ List.replicate (112 - b.2.2.2.2.2.2.2.2.2.length) 143), 0) := by
 have ht := h.txt
 have hs : shrk .i64 b.2.1 (8 : Int) = b.2.1 / 256 := by
  show b.2.1.fdiv 256 = _
  exact Int.fdiv_eq_ediv_of_nonneg _ (by decide)
 unfold tpK
 rw [hs]
 have hb : ([b8 b.1, b8 b.2.1, b8 (b.2.1 / 256), b.2.2.1, b.2.2.2.1, b8 b.2.2.2.2.1.1, b8 b.2.2.2.2.1.2.1, b8 b.2.2.2.2.1.2.2.1, b8 b.2.2.2.2.1.2.2.2.1, b8 b.2.2.2.2.2.1.1, b8 b.2.2.2.2.2.1.2.1, b8 b.2.2.2.2.2.1.2.2.1, b8 b.2.2.2.2.2.1.2.2.2.1, b8 b.2.2.2.2.2.2.1, b.2.2.2.2.2.2.2.1, v] : List UInt8) = bhv b v := rfl
 rw [hb]
 have hl : (bhv b v).length = 16 := rfl
 generalize bhv b v = H at hl
 generalize b.2.2.2.2.2.2.2.2.2 = t at ht
 simp only
 have e1 : w64 (isub (128 : Int) (len (lapp H t))) = ((112 - t.length : Nat) : Int) := by
  simp only [isub, len, lapp, List.length_append, hl]
  rw [w64_id (by omega)]
  omega
 rw [grd_t (room_t (by simp only [iadd, len, hl]; omega)), e1, repeat_le (by omega), bnd_some', grd_t (room_t (by simp only [iadd, len, lapp, List.length_append, List.length_replicate, hl]; omega))]
 unfold lapp
 rw [List.append_assoc]
theorem rpK_eq {b : Blk} (h : BlkOk b) (v : UInt8) : rpK b v = some (bhv b v ++ (b.2.2.2.2.2.2.2.2.2 ++ List.replicate (112 - b.2.2.2.2.2.2.2.2.2.length) 143), 0) := by
 have ht := h.txt
 have hn := h.num
 have e1 : b8 (imod b.2.1 (256 : Int)) = b8 b.2.1 := by
  unfold b8 imod
  rw [Int.tmod_eq_emod_of_nonneg hn.1]
  congr 2
  omega
 have e2 : b8 (w64 (idiv b.2.1 (256 : Int))) = b8 (b.2.1 / 256) := by
  unfold idiv
  rw [Int.tdiv_eq_ediv_of_nonneg hn.1, w64_id (by omega)]
 unfold rpK
 rw [e1, e2]
 have f1 : r23_fill fuelH (b.2.2.2.2.2.2.2.2.2, (112 : Int), (143 : UInt8)) = some (b.2.2.2.2.2.2.2.2.2 ++ List.replicate (112 - b.2.2.2.2.2.2.2.2.2.length) 143) := fillc_eq (n := 112) 143 (by decide) ht
 simp only
 rw [f1, bnd_some', grd_t (by kernel_rfl), grd_t (room_t (by
  simp only [iadd, len, lapp, List.length_append, List.length_replicate, List.length_cons, List.length_nil]
  omega))]
 rfl
theorem bhd_v (b : Blk) : bhd b = bhv b (bif b.2.2.2.2.2.2.2.2.1 then 1 else 0) := rfl
theorem bput_both (b : Blk) : ∃ e, q93 fuelH b = some e ∧ q188 fuelH b = some e ∧ ((e ≠ 0 ∧ tape_Put fuelH b = some ([], e) ∧ r23_Put fuelH b = some ([], e)) ∨ (e = 0 ∧ BlkOk b ∧ tape_Put fuelH b = some (bby b, 0) ∧ r23_Put fuelH b = some (bby b, 0))) := by
 obtain ⟨e, h1, h2, h3⟩ := bcheck_ok b
 refine ⟨e, h1, h2, ?_⟩
 by_cases he : e = 0
 ·subst he
  have H := h3 rfl
  refine .inr ⟨rfl, H, ?_, ?_⟩
  ·rw [tp_eq, bnd_s h1, cnd_f (ine_f rfl), tpK_eq H, tpK_eq H]
   unfold bby
   rw [bhd_v]
   cases b.2.2.2.2.2.2.2.2.1 <;> rfl
  ·rw [rp_eq, bnd_s h2, cnd_f (ine_f rfl), rpK_eq H, rpK_eq H]
   unfold bby
   rw [bhd_v]
   cases b.2.2.2.2.2.2.2.2.1 <;> rfl
 ·refine .inl ⟨he, ?_, ?_⟩
  ·rw [tp_eq, bnd_s h1, cnd_t (ine_t he)]
  ·rw [rp_eq, bnd_s h2, cnd_t (ine_t he)]
end
end Go.Mo
end

section
/-
  Plain facts: blocks read from bytes, by the layer and by the specification.
-/
namespace Go.Mo
open Go Go.W Go.Lib
set_option maxRecDepth 100000
noncomputable section
noncomputable def bz : Blk := ((0 : Int), (0 : Int), (0 : UInt8), (0 : UInt8), ((0 : Int), (0 : Int), (0 : Int), (0 : Int), false), ((0 : Int), (0 : Int), (0 : Int), (0 : Int), false), (0 : Int), (0 : UInt8), false, ([] : List UInt8))
noncomputable def tw (t : List UInt8) : List UInt8 := t.takeWhile fun c => c != 143
theorem w64n8 (c : UInt8) : w64 (n8 c) = n8 c := by
 have := n8_rng c
 exact w64_id (by omega)
theorem times_eq (N : Nat) (a b c d : UInt8) (t : List UInt8) : q126 N (a :: b :: c :: d :: t) = some (n8 a, n8 b, n8 c, n8 d, false) := by
 unfold q126
 rw [grd_t (inb_t (by simp only [len, List.length_cons]; omega)), grd_t (inb_t (by simp only [len, List.length_cons]; omega)), grd_t (inb_t (by simp only [len, List.length_cons]; omega)), grd_t (inb_t (by simp only [len, List.length_cons]; omega))]
 show some (w64 (n8 a), w64 (n8 b), w64 (n8 c), w64 (n8 d), false) = _
 rw [w64n8, w64n8, w64n8, w64n8]
theorem ix_tw : ∀ t : List UInt8, (0 ≤ indexByte t 143 → (indexByte t 143).toNat < t.length ∧ t.take (indexByte t 143).toNat = tw t) ∧ (indexByte t 143 < 0 → tw t = t)
 | [] => ⟨fun h => absurd h (by decide), fun _ => rfl⟩
 | b :: t => by
  obtain ⟨h1, h2⟩ := ix_tw t
  have hge := indexByte_ge t 143
  unfold indexByte
  by_cases hb : b = 143
  ·subst hb
   simp [tw]
  ·have hb' : (b == 143) = false := by simpa using hb
   have hb2 : (b != 143) = true := by simpa using hb
   rw [hb']
   simp only [Bool.false_eq_true, if_false]
   have htw : tw (b :: t) = b :: tw t := by
    unfold tw
    rw [List.takeWhile_cons, hb2]
    rfl
   by_cases hi : indexByte t 143 = -1
   ·rw [hi]
    simp only [beq_self_eq_true, if_true]
    refine ⟨fun h => absurd h (by decide), fun _ => ?_⟩
    rw [htw, h2 (by omega)]
   ·have hi' : (indexByte t 143 == -1) = false := by simpa using hi
    rw [hi']
    simp only [Bool.false_eq_true, if_false]
    refine ⟨fun _ => ?_, fun h => by omega⟩
    obtain ⟨h3, h4⟩ := h1 (by omega)
    have e : (indexByte t 143 + 1).toNat = (indexByte t 143).toNat + 1 := by omega
    rw [e, List.length_cons, List.take_succ_cons, h4, htw]
    exact ⟨by omega, rfl⟩
theorem cut_eq {t : List UInt8} (ht : t.length ≤ 4000000) : ∃ r b, q130 fuelH (t, [143]) = some (tw t, r, b) := by
 have hi : q129 fuelH (t, [143]) = some (indexByte t 143) := by
  unfold q129
  rw [cnd_f (by rfl), cnd_t (by rfl), grd_t (by kernel_rfl)]
  show bnd (q92 fuelH (t, 143)) _ = _
  rw [indexB_eq, bnd_some']
 obtain ⟨h1, h2⟩ := ix_tw t
 unfold q130
 rw [hi, bnd_some', cnd_ile]
 split
 ·rename_i h
  obtain ⟨h3, h4⟩ := h1 h
  have hw : w64 (iadd (indexByte t 143) (len [(143 : UInt8)])) = indexByte t 143 + 1 := w64_id (by simp only [iadd, len, List.length_singleton]; omega)
  rw [hw, grd_t (in2_t (by simp only [len]; omega)), grd_t (in2_t (by simp only [len]; omega))]
  refine ⟨ldrop (toN (indexByte t 143 + 1)) t, true, ?_⟩
  show some ((t.take (indexByte t 143).toNat), _, _) = _
  rw [h4]
 ·rename_i h
  rw [h2 (by omega)]
  exact ⟨[], false, rfl⟩
theorem or_num (a b : UInt8) : bitb .or .i64 (n8 a) (w64 (shlk .i64 (n8 b) (8 : Int))) = n8 a + 256 * n8 b := by
 have ha : a.toNat < 256 := a.toNat_lt
 have hb : b.toNat < 256 := b.toNat_lt
 have e0 : w64 (shlk .i64 (n8 b) (8 : Int)) = ((b.toNat * 256 : Nat) : Int) := by
  show w64 ((b.toNat : Int) * 256) = _
  rw [w64_id (by omega)]
  omega
 rw [e0]
 have e : (BitVec.ofInt 64 (a.toNat : Int) ||| BitVec.ofInt 64 ((b.toNat * 256 : Nat) : Int)).toNat = a.toNat + b.toNat * 256 := by
  simp only [BitVec.ofInt_natCast, BitVec.toNat_or, BitVec.toNat_ofNat]
  rw [Nat.mod_eq_of_lt (by omega), Nat.mod_eq_of_lt (by omega)]
  have := Nat.shiftLeft_add_eq_or_of_lt (show a.toNat < 2 ^ 8 by omega) b.toNat
  rw [Nat.shiftLeft_eq, show (2 : Nat) ^ 8 = 256 from rfl] at this
  rw [Nat.or_comm, ← this]
  omega
 refine Eq.trans (b := w64 ((a.toNat + b.toNat * 256 : Nat) : Int)) (congrArg (fun m : Nat => IntKind.wrap .i64 (m : Int)) e) ?_
 rw [w64_id (by omega)]
 show _ = (a.toNat : Int) + 256 * (b.toNat : Int)
 omega
noncomputable def gbl : List UInt8 → Blk
 | x0 :: x1 :: x2 :: x3 :: x4 :: x5 :: x6 :: x7 :: x8 :: x9 :: x10 :: x11 :: x12 :: x13 :: x14 :: x15 :: t => (n8 x0, n8 x1 + 256 * n8 x2, x3, x4, (n8 x5, n8 x6, n8 x7, n8 x8, false), (n8 x9, n8 x10, n8 x11, n8 x12, false), n8 x13, x14, ieq (n8 x15) (n8 (1 : UInt8)), tw t)
 | _ => bz
noncomputable def gfin (x : List UInt8) (b : Blk) (p : Option (List UInt8 × Int)) : Option (Blk × Int) :=
 bnd p fun v4 => cnd (ine v4.2 (0 : Int)) (some (bz, (4 : Int))) (cnd (bnot (seq x v4.1)) (some (bz, (4 : Int))) (some (b, (0 : Int))))
theorem len16 {x : List UInt8} (h : x.length = 128) : ∃ x0 x1 x2 x3 x4 x5 x6 x7 x8 x9 x10 x11 x12 x13 x14 x15 t, x = x0 :: x1 :: x2 :: x3 :: x4 :: x5 :: x6 :: x7 :: x8 :: x9 :: x10 :: x11 :: x12 :: x13 :: x14 :: x15 :: t ∧ t.length = 112 := by
 match x, h with
 | x0 :: x1 :: x2 :: x3 :: x4 :: x5 :: x6 :: x7 :: x8 :: x9 :: x10 :: x11 :: x12 :: x13 :: x14 :: x15 :: t, h => exact ⟨x0, x1, x2, x3, x4, x5, x6, x7, x8, x9, x10, x11, x12, x13, x14, x15, t, rfl, by simpa using h⟩
theorem tget_eq {x : List UInt8} (h : x.length = 128) : tape_Get fuelH x = gfin x (gbl x) (tape_Put fuelH (gbl x)) := by
 obtain ⟨x0, x1, x2, x3, x4, x5, x6, x7, x8, x9, x10, x11, x12, x13, x14, x15, t, rfl, ht⟩ := len16 h
 generalize hx : x0 :: x1 :: x2 :: x3 :: x4 :: x5 :: x6 :: x7 :: x8 :: x9 :: x10 :: x11 :: x12 :: x13 :: x14 :: x15 :: t = x at h
 have hl : len x = 128 := by simp only [len]; omega
 obtain ⟨r, b, hc⟩ := cut_eq (t := t) (by omega)
 have htl : (tw t).length ≤ 112 := by
  have : (tw t).length ≤ t.length := by
   unfold tw
   exact (List.takeWhile_sublist _).length_le
  omega
 have hg : gbl x = (n8 x0, n8 x1 + 256 * n8 x2, x3, x4, (n8 x5, n8 x6, n8 x7, n8 x8, false), (n8 x9, n8 x10, n8 x11, n8 x12, false), n8 x13, x14, ieq (n8 x15) (n8 (1 : UInt8)), tw t) := by rw [← hx]; rfl
 have t1 : q126 fuelH (ldrop (toN (5 : Int)) x) = some (n8 x5, n8 x6, n8 x7, n8 x8, false) := by rw [← hx]; exact times_eq fuelH x5 x6 x7 x8 _
 have t2 : q126 fuelH (ldrop (toN (9 : Int)) x) = some (n8 x9, n8 x10, n8 x11, n8 x12, false) := by rw [← hx]; exact times_eq fuelH x9 x10 x11 x12 _
 have d : ldrop (toN (16 : Int)) x = t := by rw [← hx]; rfl
 have g : lget x (toN (0 : Int)) 0 = x0 ∧ lget x (toN (1 : Int)) 0 = x1 ∧ lget x (toN (2 : Int)) 0 = x2 ∧ lget x (toN (3 : Int)) 0 = x3 ∧ lget x (toN (4 : Int)) 0 = x4 ∧ lget x (toN (13 : Int)) 0 = x13 ∧ lget x (toN (14 : Int)) 0 = x14 ∧ lget x (toN (15 : Int)) 0 = x15 := by rw [← hx]; exact ⟨rfl, rfl, rfl, rfl, rfl, rfl, rfl, rfl⟩
 obtain ⟨g0, g1, g2, g3, g4, g13, g14, g15⟩ := g
 have hb : ∀ i : Int, 0 ≤ i ∧ i < 128 → inb i 128 = true := fun i hi => inb_t hi
 have h2 : ∀ i : Int, 0 ≤ i ∧ i ≤ 128 → in2 i 128 = true := fun i hi => in2_t hi
 unfold tape_Get
 rw [hl, cnd_f (by rfl), grd_t (hb 0 (by decide)), grd_t (hb 1 (by decide)), grd_t (hb 2 (by decide)), grd_t (hb 3 (by decide)), grd_t (hb 4 (by decide)), grd_t (h2 5 (by decide)), t1, bnd_some', grd_t (h2 9 (by decide)), t2, bnd_some', grd_t (hb 13 (by decide)), grd_t (hb 14 (by decide)), grd_t (hb 15 (by decide)), grd_t (h2 16 (by decide)), d, hc, bnd_some', clone_eq fuelH (tw t) (by omega), bnd_some', g0, g1, g2, g3, g4, g13, g14, g15, w64n8, w64n8, w64n8, w64n8, or_num, hg]
 rfl
theorem fields_eq {x : List UInt8} (h : x.length = 128) (x0 x1 x2 x3 x4 x5 x6 x7 x8 x9 x10 x11 x12 x13 x14 x15 : UInt8) (t : List UInt8) (hx : x0 :: x1 :: x2 :: x3 :: x4 :: x5 :: x6 :: x7 :: x8 :: x9 :: x10 :: x11 :: x12 :: x13 :: x14 :: x15 :: t = x) : q185 fuelH x = some (n8 x0, n8 x1 + 256 * n8 x2, x3, x4, (n8 x5, n8 x6, n8 x7, n8 x8, false), (n8 x9, n8 x10, n8 x11, n8 x12, false), n8 x13, x14, ieq (n8 x15) (n8 (1 : UInt8)), ([] : List UInt8)) := by
 have hl : len x = 128 := by simp only [len]; omega
 have g : lget x (toN (0 : Int)) 0 = x0 ∧ lget x (toN (1 : Int)) 0 = x1 ∧ lget x (toN (2 : Int)) 0 = x2 ∧ lget x (toN (3 : Int)) 0 = x3 ∧ lget x (toN (4 : Int)) 0 = x4 ∧ lget x (toN (5 : Int)) 0 = x5 ∧ lget x (toN (6 : Int)) 0 = x6 ∧ lget x (toN (7 : Int)) 0 = x7 ∧ lget x (toN (8 : Int)) 0 = x8 ∧ lget x (toN (9 : Int)) 0 = x9 ∧ lget x (toN (10 : Int)) 0 = x10 ∧ lget x (toN (11 : Int)) 0 = x11 ∧ lget x (toN (12 : Int)) 0 = x12 ∧ lget x (toN (13 : Int)) 0 = x13 ∧ lget x (toN (14 : Int)) 0 = x14 ∧ lget x (toN (15 : Int)) 0 = x15 := by rw [← hx]; exact ⟨rfl, rfl, rfl, rfl, rfl, rfl, rfl, rfl, rfl, rfl, rfl, rfl, rfl, rfl, rfl, rfl⟩
 obtain ⟨g0, g1, g2, g3, g4, g5, g6, g7, g8, g9, g10, g11, g12, g13, g14, g15⟩ := g
 have hb : ∀ i : Int, 0 ≤ i ∧ i < 128 → inb i 128 = true := fun i hi => inb_t hi
 have r1 := n8_rng x1
 have r2 := n8_rng x2
 have hn : w64 (iadd (n8 x1) (w64 (imul (256 : Int) (n8 x2)))) = n8 x1 + 256 * n8 x2 := by
  simp only [iadd, imul]
  rw [w64_id (x := 256 * n8 x2) (by omega), w64_id (by omega)]
 unfold q185
 rw [hl, grd_t (hb 0 (by decide)), grd_t (hb 1 (by decide)), grd_t (hb 2 (by decide)), grd_t (hb 3 (by decide)), grd_t (hb 4 (by decide)), grd_t (hb 13 (by decide)), grd_t (hb 14 (by decide)), grd_t (hb 15 (by decide)), grd_t (hb 5 (by decide)), grd_t (hb 6 (by decide)), grd_t (hb 7 (by decide)), grd_t (hb 8 (by decide)), grd_t (hb 9 (by decide)), grd_t (hb 10 (by decide)), grd_t (hb 11 (by decide)), grd_t (hb 12 (by decide))]
 rw [g0, g1, g2, g3, g4, g5, g6, g7, g8, g9, g10, g11, g12, g13, g14, g15]
 simp only [w64n8]
 rw [hn]
theorem foldI_tw {R : Type} (K : List UInt8 → Option R) : ∀ (t : List UInt8) (i : Nat) (s : List UInt8), s.length + t.length ≤ 100000000 → foldI (fun _ c s self => cnd (ieq (n8 c) (n8 (143 : UInt8))) (K s) (grd (room (iadd (len s) (len [c])) 1) (self (lapp s [c])))) (fun s => K s) i t s = K (s ++ tw t)
 | [], i, s, _ => by simp [foldI, tw]
 | c :: t, i, s, h => by
  simp only [List.length_cons] at h
  rw [foldI]
  by_cases hc : c = 143
  ·subst hc
   rw [cnd_t (ieq_t rfl)]
   simp [tw]
  ·have hc2 : (c != 143) = true := by simpa using hc
   have htw : tw (c :: t) = c :: tw t := by
    unfold tw
    rw [List.takeWhile_cons, hc2]
    rfl
   rw [cnd_f (ieq_f fun e => hc (n8_inj e)), grd_t (room_t (by simp only [iadd, len, List.length_singleton]; omega))]
   show foldI _ _ _ t (s ++ [c]) = _
   rw [foldI_tw K t (i + 1) (s ++ [c]) (by rw [List.length_append, List.length_singleton]; omega), htw, List.append_assoc]
   rfl
theorem rget_eq {x : List UInt8} (h : x.length = 128) : r23_Get fuelH x = gfin x (gbl x) (r23_Put fuelH (gbl x)) := by
 obtain ⟨x0, x1, x2, x3, x4, x5, x6, x7, x8, x9, x10, x11, x12, x13, x14, x15, t, rfl, ht⟩ := len16 h
 generalize hx : x0 :: x1 :: x2 :: x3 :: x4 :: x5 :: x6 :: x7 :: x8 :: x9 :: x10 :: x11 :: x12 :: x13 :: x14 :: x15 :: t = x at h
 have hl : len x = 128 := by simp only [len]; omega
 have hg : gbl x = (n8 x0, n8 x1 + 256 * n8 x2, x3, x4, (n8 x5, n8 x6, n8 x7, n8 x8, false), (n8 x9, n8 x10, n8 x11, n8 x12, false), n8 x13, x14, ieq (n8 x15) (n8 (1 : UInt8)), tw t) := by rw [← hx]; rfl
 have hf := fields_eq h x0 x1 x2 x3 x4 x5 x6 x7 x8 x9 x10 x11 x12 x13 x14 x15 t hx
 have d : ldrop (toN (16 : Int)) x = t := by rw [← hx]; rfl
 unfold r23_Get
 rw [hl, cnd_f (by rfl), hf, bnd_some', jn_e, grd_t (in2_t (by decide)), d]
 refine Eq.trans (lst_loop (l := t) (fun (s : List UInt8) (p : Nat) => ((p : Int), (n8 x0, n8 x1 + 256 * n8 x2, x3, x4, (n8 x5, n8 x6, n8 x7, n8 x8, false), (n8 x9, n8 x10, n8 x11, n8 x12, false), n8 x13, x14, ieq (n8 x15) (n8 (1 : UInt8)), s))) (fun _ c s self => cnd (ieq (n8 c) (n8 (143 : UInt8))) (gfin x (n8 x0, n8 x1 + 256 * n8 x2, x3, x4, (n8 x5, n8 x6, n8 x7, n8 x8, false), (n8 x9, n8 x10, n8 x11, n8 x12, false), n8 x13, x14, ieq (n8 x15) (n8 (1 : UInt8)), s) (r23_Put fuelH (n8 x0, n8 x1 + 256 * n8 x2, x3, x4, (n8 x5, n8 x6, n8 x7, n8 x8, false), (n8 x9, n8 x10, n8 x11, n8 x12, false), n8 x13, x14, ieq (n8 x15) (n8 (1 : UInt8)), s))) (grd (room (iadd (len s) (len [c])) 1) (self (lapp s [c])))) (fun s => gfin x (n8 x0, n8 x1 + 256 * n8 x2, x3, x4, (n8 x5, n8 x6, n8 x7, n8 x8, false), (n8 x9, n8 x10, n8 x11, n8 x12, false), n8 x13, x14, ieq (n8 x15) (n8 (1 : UInt8)), s) (r23_Put fuelH (n8 x0, n8 x1 + 256 * n8 x2, x3, x4, (n8 x5, n8 x6, n8 x7, n8 x8, false), (n8 x9, n8 x10, n8 x11, n8 x12, false), n8 x13, x14, ieq (n8 x15) (n8 (1 : UInt8)), s))) (fun self s i hi => ?_) (fun self s => ?_) fuelH 0 [] (Nat.zero_le _) (by have := fuelH_eq; omega)) ?_
 ·rw [cnd_t (ilt_t (by simp only [len]; omega)), grd_t (inb_t (by simp only [len]; omega)), lget_i hi, w64_succ hi (by omega)]
  rfl
 ·rw [cnd_f (ilt_f (by simp only [len]; omega))]
  rfl
 ·rw [List.drop_zero, foldI_tw (fun s => gfin x (n8 x0, n8 x1 + 256 * n8 x2, x3, x4, (n8 x5, n8 x6, n8 x7, n8 x8, false), (n8 x9, n8 x10, n8 x11, n8 x12, false), n8 x13, x14, ieq (n8 x15) (n8 (1 : UInt8)), s) (r23_Put fuelH (n8 x0, n8 x1 + 256 * n8 x2, x3, x4, (n8 x5, n8 x6, n8 x7, n8 x8, false), (n8 x9, n8 x10, n8 x11, n8 x12, false), n8 x13, x14, ieq (n8 x15) (n8 (1 : UInt8)), s))) t 0 [] (by simp only [List.length_nil]; omega), List.nil_append, hg]
end
end Go.Mo
end

section
/-
  Plain facts: a block read back; files written.
-/
namespace Go.Mo
open Go Go.W Go.Lib
set_option maxRecDepth 100000
noncomputable section
theorem n8_b8m (x : Int) : n8 (b8 x) = x % 256 := by
 unfold n8 b8
 rw [UInt8.toNat_ofNat']
 omega
theorem tw_app {t : List UInt8} (h : (143 : UInt8) ∉ t) (k : Nat) : tw (t ++ List.replicate k 143) = t := by
 induction t with
 | nil =>
  cases k with
  | zero => rfl
  | succ k => simp [tw, List.replicate_succ]
 | cons c t ih =>
  simp only [List.mem_cons, not_or] at h
  have hc : (c != 143) = true := by simpa using fun e => h.1 e.symm
  unfold tw at ih ⊢
  rw [List.cons_append, List.takeWhile_cons, hc]
  simp only [if_true]
  rw [ih h.2]
theorem gbl_back {b : Blk} (h : BlkOk b) : gbl (bby b) = b := by
 obtain ⟨⟨h1, h2⟩, ⟨h3, h4⟩, ⟨⟨a1, a2⟩, ⟨a3, a4⟩, ⟨a5, a6⟩, ⟨a7, a8⟩⟩, ⟨⟨c1, c2⟩, ⟨c3, c4⟩, ⟨c5, c6⟩, ⟨c7, c8⟩⟩, d1, d2, ⟨r1, r2⟩, ht, hf⟩ := h
 obtain ⟨g, n, e, s, ⟨H, M, S, F, D⟩, ⟨H', M', S', F', D'⟩, row, al, c, t⟩ := b
 simp only at *
 subst d1 d2
 have hc : ieq (n8 (bif c then (1 : UInt8) else 0)) (n8 (1 : UInt8)) = c := by cases c <;> rfl
 show ((n8 (b8 g), n8 (b8 n) + 256 * n8 (b8 (n / 256)), e, s, (n8 (b8 H), n8 (b8 M), n8 (b8 S), n8 (b8 F), false), (n8 (b8 H'), n8 (b8 M'), n8 (b8 S'), n8 (b8 F'), false), n8 (b8 row), al, ieq (n8 (bif c then (1 : UInt8) else 0)) (n8 (1 : UInt8)), tw (t ++ List.replicate (112 - t.length) 143)) : Blk) = _
 rw [hc, tw_app hf]
 simp only [n8_b8m]
 rw [show g % 256 = g by omega, show n % 256 + 256 * (n / 256 % 256) = n by omega, show H % 256 = H by omega, show M % 256 = M by omega, show S % 256 = S by omega, show F % 256 = F by omega, show H' % 256 = H' by omega, show M' % 256 = M' by omega, show S' % 256 = S' by omega, show F' % 256 = F' by omega, show row % 256 = row by omega]
theorem bput_same (b : Blk) : r23_Put fuelH b = tape_Put fuelH b := by
 obtain ⟨e, _, _, h⟩ := bput_both b
 rcases h with ⟨_, h1, h2⟩ | ⟨_, _, h1, h2⟩
 ·rw [h1, h2]
 ·rw [h1, h2]
noncomputable def GoodB (x : List UInt8) (r : Blk × Int) : Prop := r = (bz, 4) ∨ (r.2 = 0 ∧ BlkOk r.1 ∧ x = bby r.1 ∧ tape_Put fuelH r.1 = some (bby r.1, 0))
theorem bget_ok (x : List UInt8) : ∃ r, tape_Get fuelH x = some r ∧ r23_Get fuelH x = some r ∧ GoodB x r := by
 by_cases hl : x.length = 128
 case neg =>
  refine ⟨(bz, 4), ?_, ?_, .inl rfl⟩
  ·unfold tape_Get
   rw [cnd_t (ine_t (by simp only [len]; omega))]
   rfl
  ·unfold r23_Get
   rw [cnd_t (ine_t (by simp only [len]; omega))]
   rfl
 rw [tget_eq hl, rget_eq hl, bput_same]
 generalize gbl x = b
 have : ∃ r, gfin x b (tape_Put fuelH b) = some r ∧ GoodB x r := by
  obtain ⟨e, _, _, h⟩ := bput_both b
  unfold gfin
  rcases h with ⟨he, h1, _⟩ | ⟨_, H, h1, _⟩
  ·rw [h1, bnd_some', cnd_t (ine_t he)]
   exact ⟨_, rfl, .inl rfl⟩
  ·rw [h1, bnd_some', cnd_f (ine_f rfl), seq_dec, cnd_bnot]
   split
   ·rename_i hx
    exact ⟨_, rfl, .inr ⟨rfl, H, hx, h1⟩⟩
   ·exact ⟨_, rfl, .inl rfl⟩
 obtain ⟨r, h1, h2⟩ := this
 exact ⟨r, h1, h1, h2⟩
theorem bget_back {b : Blk} (h : BlkOk b) (hp : tape_Put fuelH b = some (bby b, 0)) : tape_Get fuelH (bby b) = some (b, 0) := by
 rw [tget_eq (bby_len h), gbl_back h, hp]
 unfold gfin
 rw [bnd_some', cnd_f (ine_f rfl), seq_dec, decide_eq_true rfl]
 rfl
noncomputable def wrK {R : Type} (Put : Blk → Option (List UInt8 × Int)) (b : Blk) (s : List UInt8) (self : List UInt8 → Option (List R × Int)) : Option (List R × Int) :=
 bnd (Put b) fun v5 => cnd (ine v5.2 (0 : Int)) (some (([] : List R), v5.2)) (grd (room (iadd (len s) (len v5.1)) 1) (self (lapp s v5.1)))
theorem wr_fold : ∀ (l : List Blk) (i : Nat) (s : List UInt8), s.length + 128 * l.length ≤ 100000000 → ∃ p e, foldI (fun _ b s self => wrK (R := UInt8) (tape_Put fuelH) b s self) (fun s => some (s, 0)) i l s = some (p, e) ∧
  ((e ≠ 0 ∧ p = []) ∨ (e = 0 ∧ p = s ++ l.flatMap bby ∧ ∀ b ∈ l, BlkOk b ∧ tape_Put fuelH b = some (bby b, 0)))
 | [], i, s, _ => ⟨s, 0, rfl, .inr ⟨rfl, by simp, fun b hb => by cases hb⟩⟩
 | b :: l, i, s, h => by
  simp only [List.length_cons] at h
  rw [foldI]
  unfold wrK
  obtain ⟨e, _, _, hp⟩ := bput_both b
  rcases hp with ⟨he, h1, _⟩ | ⟨_, H, h1, _⟩
  ·rw [h1, bnd_some', cnd_t (ine_t he)]
   exact ⟨[], e, rfl, .inl ⟨he, rfl⟩⟩
  ·have hl := bby_len H
   rw [h1, bnd_some', cnd_f (ine_f rfl), grd_t (room_t (by simp only [iadd, len]; omega))]
   obtain ⟨p, e', g1, g2⟩ := wr_fold l (i + 1) (s ++ bby b) (by rw [List.length_append]; omega)
   refine ⟨p, e', g1, ?_⟩
   rcases g2 with g2 | ⟨g2, g3, g4⟩
   ·exact .inl g2
   ·refine .inr ⟨g2, by rw [g3, List.flatMap_cons, List.append_assoc], ?_⟩
    intro c hc
    rcases List.mem_cons.1 hc with rfl | hc
    ·exact ⟨H, h1⟩
    ·exact g4 c hc
noncomputable def WrOk (h : Hdr) (l : List Blk) (p : List UInt8) (e : Int) : Prop := (e ≠ 0 ∧ p = []) ∨ (e = 0 ∧ HdrOk h ∧ q104 fuelH h = some (hby h, 0) ∧ q182 fuelH h = some (hby h, 0) ∧ (l.length : Int) = h.2.2.2.1 ∧ (∀ b ∈ l, BlkOk b ∧ tape_Put fuelH b = some (bby b, 0)) ∧ p = hby h ++ l.flatMap bby)
theorem write_ok {h : Hdr} {l : List Blk} (h2 : h.2.2.1.length ≤ 4000000) (hl : l.length ≤ 4000) : ∃ p e, q105 fuelH (h, l) = some (p, e) ∧ q189 fuelH (h, l) = some (p, e) ∧ WrOk h l p e := by
 obtain ⟨c, _, _, hp⟩ := put_both h2
 rcases hp with ⟨he, p1, p2⟩ | ⟨_, H, p1, p2⟩
 ·refine ⟨[], c, ?_, ?_, .inl ⟨he, rfl⟩⟩
  ·unfold q105
   rw [p1, bnd_some', cnd_t (ine_t he)]
  ·unfold q189
   rw [p2, bnd_some', cnd_t (ine_t he)]
 ·by_cases hn : (l.length : Int) = h.2.2.2.1
  case neg =>
   refine ⟨[], 1, ?_, ?_, .inl ⟨by decide, rfl⟩⟩
   ·unfold q105
    rw [p1, bnd_some', cnd_f (ine_f rfl), cnd_t (ine_t (by simpa only [len] using hn))]
   ·unfold q189
    rw [p2, bnd_some', cnd_f (ine_f rfl), cnd_t (ine_t (by simpa only [len] using hn))]
  have hb := hby_len H
  obtain ⟨p, e, g1, g2⟩ := wr_fold l 0 (hby h) (by omega)
  have t1 : q105 fuelH (h, l) = some (p, e) := by
   unfold q105
   rw [p1, bnd_some', cnd_f (ine_f rfl), cnd_f (ine_f (by simpa only [len] using hn)), jn_e]
   refine Eq.trans (lst_loop (l := l) (fun (s : List UInt8) (p : Nat) => (s, (p : Int))) (fun _ b s self => wrK (R := UInt8) (tape_Put fuelH) b s self) (fun s => some (s, 0)) (fun self s i hi => ?_) (fun self s => ?_) fuelH 0 (hby h) (Nat.zero_le _) (by have := fuelH_eq; omega)) g1
   ·rw [cnd_t (ilt_t (by simp only [len]; omega)), grd_t (inb_t (by simp only [len]; omega)), lget_i hi, w64_succ hi (by omega)]
    rfl
   ·rw [cnd_f (ilt_f (by simp only [len]; omega))]
  have t2 : q189 fuelH (h, l) = some (p, e) := by
   unfold q189
   rw [p2, bnd_some', cnd_f (ine_f rfl), cnd_f (ine_f (by simpa only [len] using hn)), jn_e]
   refine Eq.trans (lst_loop (l := l) (fun (s : List UInt8) (p : Nat) => (s, (p : Int))) (fun _ b s self => wrK (R := UInt8) (tape_Put fuelH) b s self) (fun s => some (s, 0)) (fun self s i hi => ?_) (fun self s => ?_) fuelH 0 (hby h) (Nat.zero_le _) (by have := fuelH_eq; omega)) g1
   ·rw [cnd_t (ilt_t (by simp only [len]; omega)), grd_t (inb_t (by simp only [len]; omega)), lget_i hi, w64_succ hi (by omega), bput_same]
    rfl
   ·rw [cnd_f (ilt_f (by simp only [len]; omega))]
  refine ⟨p, e, t1, t2, ?_⟩
  rcases g2 with g2 | ⟨g2, g3, g4⟩
  ·exact .inl g2
  ·exact .inr ⟨g2, H, p1, p2, hn, g4, g3⟩
end
end Go.Mo
end

section
/-
  Plain facts: labels, both sides; blocks of a subtitle, both sides.
-/
namespace Go.Mo
open Go Go.W Go.Lib
set_option maxRecDepth 100000
noncomputable section
def nomOf (r : UInt8) : Int := if r = 3 then 25 else 30
def noL : Lbl := ((0 : Int), (0 : Int), (0 : Int), (0 : Int), false)
def labOf (n f : Int) : Lbl := (w64 (idiv (w64 (idiv f n)) (3600 : Int)), imod (w64 (idiv (w64 (idiv f n)) (60 : Int))) (60 : Int), imod (w64 (idiv f n)) (60 : Int), imod f n, false)
def labS (r : UInt8) (f : Int) : Lbl × Int := if f < 0 then (noL, 2) else if dayOf r ≤ f then (noL, 2) else (labOf (nomOf r) f, 0)
theorem lab_facts {r : UInt8} (h : r = 3 ∨ r = 5) : q85 fuelH (r, false) = some 0 ∧ q86 fuelH r = some (nomOf r) ∧ q87 fuelH (r, false) = some 0 ∧ r03_kind fuelH (r, false) = some 0 ∧ q172 fuelH r = some (nomOf r) := by
 rcases h with rfl | rfl
 ·exact ⟨by kernel_rfl, by kernel_rfl, by kernel_rfl, by kernel_rfl, by kernel_rfl⟩
 ·exact ⟨by kernel_rfl, by kernel_rfl, by kernel_rfl, by kernel_rfl, by kernel_rfl⟩
theorem day_bd (r : UInt8) : dayOf r ≤ 2592000 := by unfold dayOf; split <;> omega
theorem mul0 (x : Int) : w64 (imul 0 x) = 0 := by unfold imul; rw [Int.zero_mul]; rfl
theorem add0 {f : Int} (h0 : 0 ≤ f) (h1 : f ≤ 9000000) : w64 (iadd f 0) = f := by unfold iadd; rw [w64_id (by omega)]; omega
theorem time_label {r : UInt8} (h : r = 3 ∨ r = 5) (f : Int) : q90 fuelH (r, false, f) = some (labS r f) := by
 obtain ⟨e1, e2, e3, _, _⟩ := lab_facts h
 have hd := day_bd r
 unfold q90 labS
 simp only
 rw [e1, bnd_some', cnd_f (ine_f rfl), cnd_ilt]
 by_cases h0 : f < 0
 ·rw [if_pos h0, if_pos h0]; rfl
 rw [if_neg h0, if_neg h0, bnd_s (day_stl h), cnd_ile]
 by_cases h1 : dayOf r ≤ f
 ·rw [if_pos h1, if_pos h1]; rfl
 rw [if_neg h1, if_neg h1, e2, bnd_some', e3, bnd_some']
 have hn : nomOf r = 25 ∨ nomOf r = 30 := by unfold nomOf; split <;> simp
 have c9 : w64 (imul (9 : Int) 0) = 0 := by kernel_rfl
 have k : ∀ n : Int, n = 25 ∨ n = 30 → (grd (ine (w64 (isub (w64 (imul (600 : Int) n)) (0 : Int))) (0 : Int)) (some ()) = some ()) ∧ ine (w64 (isub (w64 (imul (60 : Int) n)) (0 : Int))) (0 : Int) = true ∧ ine n 0 = true := by
  intro n hn
  rcases hn with rfl | rfl
  ·exact ⟨by kernel_rfl, by kernel_rfl, by kernel_rfl⟩
  ·exact ⟨by kernel_rfl, by kernel_rfl, by kernel_rfl⟩
 have k1 : ∀ n : Int, n = 25 ∨ n = 30 → ine (w64 (isub (w64 (imul (600 : Int) n)) (0 : Int))) (0 : Int) = true := by
  intro n hn
  rcases hn with rfl | rfl
  ·kernel_rfl
  ·kernel_rfl
 rw [c9, grd_t (k1 _ hn), grd_t (k1 _ hn), jn_e]
 dsimp only
 rw [mul0, mul0, add0 (f := f) (by omega) (by omega), add0 (f := f) (by omega) (by omega), grd_t (k _ hn).2.2, grd_t (k _ hn).2.2, grd_t (k _ hn).2.1]
 exact cnd_same rfl rfl
def setB (b : Blk) (e : UInt8) (t : List UInt8) : Blk := (b.1, b.2.1, e, b.2.2.2.1, b.2.2.2.2.1, b.2.2.2.2.2.1, b.2.2.2.2.2.2.1, b.2.2.2.2.2.2.2.1, b.2.2.2.2.2.2.2.2.1, t)
def pieceB (b : Blk) (t : List UInt8) (i : Nat) : Blk := setB b (if t.length ≤ 112 * (i + 1) then 255 else b8 (i : Int)) ((t.drop (112 * i)).take 112)
def nPc (t : List UInt8) : Nat := max 1 ((t.length + 111) / 112)
theorem nPc_eq {t : List UInt8} (ht : t.length ≤ 4000000) : imax (1 : Int) (w64 (idiv (w64 (isub (w64 (iadd (len t) (112 : Int))) (1 : Int))) (112 : Int))) = (nPc t : Int) := by
 unfold nPc iadd isub idiv imax len
 rw [w64_id (x := (t.length : Int) + 112) (by omega), w64_id (x := (t.length : Int) + 112 - 1) (by omega), Int.tdiv_eq_ediv_of_nonneg (by omega), w64_id (by omega)]
 omega
theorem cut_eq2 (t : List UInt8) (i : Nat) : ((t.take (min t.length (112 * (i + 1)))).drop (112 * i)) = (t.drop (112 * i)).take 112 := by
 rw [List.drop_take]
 by_cases h : t.length ≤ 112 * (i + 1)
 ·rw [Nat.min_eq_left h, List.take_of_length_le (by rw [List.length_drop]; omega), List.take_of_length_le (by rw [List.length_drop]; omega)]
 ·rw [Nat.min_eq_right (by omega)]
  congr 1
  omega
theorem split_tape {b : Blk} {t : List UInt8} {e : Int} (ht : t.length ≤ 4000000) (hc : q93 fuelH (setB b 0 []) = some e) :
  q95 fuelH (b, t) = some (if e ≠ 0 then ([], e) else if 26992 < t.length then ([], 9) else if (143 : UInt8) ∈ t then ([], 4) else ((List.range (nPc t)).map (pieceB b t), 0)) := by
 unfold q95
 have hc : q93 fuelH (b.1, b.2.1, (0 : UInt8), b.2.2.2.1, b.2.2.2.2.1, b.2.2.2.2.2.1, b.2.2.2.2.2.2.1, b.2.2.2.2.2.2.2.1, b.2.2.2.2.2.2.2.2.1, ([] : List UInt8)) = some e := hc
 simp only
 rw [hc, bnd_some']
 by_cases h0 : e ≠ 0
 ·rw [cnd_t (ine_t h0), if_pos h0]
 rw [cnd_f (ine_f (by simpa using h0)), if_neg h0, nPc_eq ht, cnd_ilt]
 by_cases h1 : 26992 < t.length
 ·rw [if_pos h1, if_pos (by unfold nPc; omega)]
 rw [if_neg h1, if_neg (by unfold nPc; omega), indexB_eq, bnd_some', cnd_ile]
 by_cases h2 : (143 : UInt8) ∈ t
 ·rw [if_pos h2, if_pos ((index_ge t 143).2 h2)]
 rw [if_neg h2, if_neg fun k => h2 ((index_ge t 143).1 k), jn_e]
 have hP : nPc t ≤ 241 := by unfold nPc; omega
 refine loop_inv (n := nPc t) (fun (a : List Blk) (i : Nat) => (a, (i : Int))) (fun i a => a = (List.range i).map (pieceB b t)) _ (fun self a i hi hI => ?_) (fun self a hI => ?_) fuelH 0 [] (Nat.zero_le _) (by have := fuelH_eq; omega) rfl
 ·refine ⟨a ++ [pieceB b t i], ?_, ?_⟩
  ·have ha : a.length = i := by rw [hI, List.length_map, List.length_range]
   have hin : 112 * i ≤ t.length := by unfold nPc at hi; omega
   have w1 : w64 (imul (i : Int) (112 : Int)) = ((112 * i : Nat) : Int) := by unfold imul; rw [w64_id (by omega)]; omega
   have w2 : w64 (imul ((i + 1 : Nat) : Int) (112 : Int)) = ((112 * (i + 1) : Nat) : Int) := by unfold imul; rw [w64_id (by omega)]; omega
   have w3 : imin (len t) ((112 * (i + 1) : Nat) : Int) = ((min t.length (112 * (i + 1)) : Nat) : Int) := by unfold imin len; omega
   have w4 : w64 (isub (nPc t : Int) (1 : Int)) = ((nPc t - 1 : Nat) : Int) := w64_pred (by unfold nPc; omega) (by omega)
   have hcut : ldrop (toN ((112 * i : Nat) : Int)) (ltake (toN ((min t.length (112 * (i + 1)) : Nat) : Int)) t) = (t.drop (112 * i)).take 112 := by
    have t1 : ∀ n : Nat, toN (n : Int) = n := fun n => by simp [toN]
    rw [t1, t1]
    exact cut_eq2 t i
   simp only
   rw [cnd_t (ilt_t (by omega)), jn_cnd, w64_succ hi (by omega), w1, w2, w3, w4, grd_t (in3_t (by simp only [len]; omega)), hcut, clone_eq _ _ (by rw [List.length_take]; omega), bnd_some', grd_t (room_t (by simp only [iadd, len, List.length_singleton]; omega))]
   congr 2
   unfold pieceB setB lapp
   congr 2
   by_cases hl : t.length ≤ 112 * (i + 1)
   ·rw [if_pos hl, if_pos (by rw [ieq_tt]; unfold nPc; unfold nPc at hi; omega)]
   ·rw [if_neg hl, if_neg (by rw [ieq_tt]; unfold nPc; unfold nPc at hi; omega)]
  ·rw [hI, List.range_succ, List.map_append]; rfl
 ·simp only
  rw [cnd_f (ilt_f (by omega)), hI]
end
end Go.Mo
end

section
/-
  Plain facts: the file of a document, both sides; StlEncodes returns true.
-/
namespace Go.Mo
open Go Go.W Go.Lib
set_option maxRecDepth 100000
noncomputable section
def splV (b : Blk) (t : List UInt8) : List Blk × Int := (q95 fuelH (b, t)).getD ([], 0)
theorem splV_stl (b : Blk) {t : List UInt8} (ht : t.length ≤ 4000000) : q95 fuelH (b, t) = some (splV b t) ∧ (splV b t).1.length ≤ 241 := by
 obtain ⟨e, h1, _⟩ := bput_both (setB b 0 [])
 have hs := split_tape ht h1
 have key : ∀ r, q95 fuelH (b, t) = some r → r.1.length ≤ 241 → q95 fuelH (b, t) = some (splV b t) ∧ (splV b t).1.length ≤ 241 := fun r hr hl => by
  have : splV b t = r := by unfold splV; rw [hr]; rfl
  rw [this]
  exact ⟨hr, hl⟩
 refine key _ hs ?_
 by_cases h0 : e ≠ 0
 ·rw [if_pos h0]; simp
 rw [if_neg h0]
 by_cases h1 : 26992 < t.length
 ·rw [if_pos h1]; simp
 rw [if_neg h1]
 by_cases h2 : (143 : UInt8) ∈ t
 ·rw [if_pos h2]; simp
 rw [if_neg h2, List.length_map, List.length_range]
 unfold nPc
 omega
theorem flat_len2 : ∀ l : List Blk, (∀ b ∈ l, BlkOk b ∧ tape_Put fuelH b = some (bby b, 0)) → (l.flatMap bby).length = 128 * l.length
 | [], _ => rfl
 | b :: l, hb => by
  rw [List.flatMap_cons, List.length_append, bby_len (hb b (by simp)).1, flat_len2 l fun c hc => hb c (by simp [hc]), List.length_cons]
  omega
def wrV (h : Hdr) (l : List Blk) : List UInt8 × Int := (q105 fuelH (h, l)).getD ([], 0)
theorem wrV_ok {h : Hdr} {l : List Blk} (h2 : h.2.2.1.length ≤ 4000000) (hl : l.length ≤ 4000) : q105 fuelH (h, l) = some (wrV h l) ∧ q189 fuelH (h, l) = some (wrV h l) ∧ (wrV h l).1.length ≤ 4000000 := by
 obtain ⟨p, e, g1, g2, g3⟩ := write_ok (h := h) h2 hl
 have : wrV h l = (p, e) := by unfold wrV; rw [g1]; rfl
 rw [this]
 refine ⟨g1, g2, ?_⟩
 rcases g3 with ⟨_, rfl⟩ | ⟨_, H, _, _, _, hb, hp⟩
 ·simp
 ·rw [hp, List.length_append, hby_len H, flat_len2 l hb]
  omega
def encB (d : Doc) (i : Nat) (x : Ev) : Blk := ((0 : Int), (i : Int), (0 : UInt8), (0 : UInt8), (labS d.2.2.1 x.2.1.1).1, (labS d.2.2.1 x.2.1.2).1, (placeE x d.2.2.2.2.2.1).1, (placeE x d.2.2.2.2.2.1).2, false, ([] : List UInt8))
def setF (h : Hdr) (l : Lbl) : Hdr := (h.1, h.2.1, h.2.2.1, h.2.2.2.1, h.2.2.2.2.1, h.2.2.2.2.2.1, l, h.2.2.2.2.2.2.2)
def encS (d : Doc) (i : Nat) (x : Ev) : List Blk × Int := splV (encB d i x) (textL true x.2.2.2.2.2 []).1
def encRnd (d : Doc) (i : Nat) (x : Ev) (a : List Blk × Hdr) : Option (List UInt8 × Int) ⊕ List Blk × Hdr :=
 if (encS d i x).2 ≠ 0 then .inl (some ([], (encS d i x).2)) else .inr (a.1 ++ (encS d i x).1, if i = 0 then setF a.2 (labS d.2.2.1 x.2.1.1).1 else a.2)
def encE (a : List Blk × Hdr) : Option (List UInt8 × Int) := some (wrV (a.2.1, a.2.2.1, a.2.2.2.1, len a.1, a.2.2.2.2.2) a.1)
def encH (d : Doc) : Hdr := (d.2.2.1, d.2.1, d.1, (0 : Int), len d.2.2.2.2.2.2.1, noL, noL, (15 : Int), (32 : Int))
def encL (d : Doc) : Option (List UInt8 × Int) := itI (encRnd d) encE 0 d.2.2.2.2.2.2.1 ([], encH d)
def encOk (d : Doc) : Prop := smallD d ∧ d.2.2.2.2.2.2.1.length ≤ 16 ∧ ∀ x ∈ d.2.2.2.2.2.2.1, costL x.2.2.2.2.2 ≤ 4000000
def encI (d : Doc) (i : Nat) (a : List Blk × Hdr) : Prop := a.1.length ≤ 241 * i ∧ a.2.2.2.1 = d.1
theorem encI_step {d : Doc} {i : Nat} {x : Ev} {a : List Blk × Hdr} (h : encI d i a) (hl : (encS d i x).1.length ≤ 241) (l : Lbl) : encI d (i + 1) (a.1 ++ (encS d i x).1, if i = 0 then setF a.2 l else a.2) := by
 refine ⟨?_, ?_⟩
 ·have := h.1
  simp only [List.length_append]
  omega
 ·show (if i = 0 then setF a.2 l else a.2).2.2.1 = _
  split
  ·exact h.2
  ·exact h.2
theorem text_stl {d : Doc} (h : encOk d) {x : Ev} (hx : x ∈ d.2.2.2.2.2.2.1) (hr : x.2.2.2.2.2.length ≤ 4) : stl_Text fuelH x.2.2.2.2.2 = some (textL true x.2.2.2.2.2 []) ∧ (textL true x.2.2.2.2.2 []).1.length ≤ 4000000 := by
 have hc := h.2.2 x hx
 have hs : shortL x.2.2.2.2.2 := fun r hr => (h.1.2.2.1 x hx r hr).1
 have ht := textL_len x.2.2.2.2.2 true []
 simp only [List.length_nil, Nat.zero_add] at ht
 exact ⟨stl_text hs (by omega) (by omega), by omega⟩
theorem stl_encode {d : Doc} (h : encOk d) : q106 fuelH d = bnd (acceptS d) fun v => cnd (ine v.2 (0 : Int)) (some ([], v.2)) (encL d) := by
 have hs := h.1
 unfold q106
 rw [stl_accept hs]
 obtain ⟨⟨v, w⟩, hv⟩ := accept_some d
 rw [hv, bnd_some', bnd_some']
 by_cases hw : w = 0
 ·subst hw
  obtain ⟨h1, h2, _, _⟩ := acceptS_zero hv
  obtain ⟨_, hev⟩ := chk_evs h1
  rw [cnd_f (ine_f rfl), cnd_f (ine_f rfl), jn_e]
  have hn := h.2.1
  have hpl := fun x hx => placed_stl (d := d) (x := x) (hs.2.2.1 x hx) hs.2.1 (hev x hx)
  have htx := fun x hx => text_stl h (x := x) hx (ev_ok (hev x hx)).2.2.2.2.1
  have hsp := fun x hx i => splV_stl (encB d i x) (htx x hx).2
  unfold encL
  have hH : encI d 0 ([], encH d) := ⟨Nat.le_refl _, rfl⟩
  unfold encH at hH ⊢
  generalize hl : d.2.2.2.2.2.2.1 = l at hn hpl htx hsp hH ⊢
  refine Eq.trans (lst_it (l := l) (fun (a : List Blk × Hdr) (p : Nat) => (a.1, (p : Int), a.2)) (encRnd d) encE (fun i a => encI d i a ∧ i ≤ l.length) (fun self a i hi hI => ?_) (fun self a hI => ?_) fuelH 0 _ (Nat.zero_le _) (by have := fuelH_eq; omega) ⟨hH, Nat.zero_le _⟩) ?_
  ·have hx := List.getElem_mem hi
   have hla := hI.1.1
   have hs3 := (hsp _ hx i).2
   simp only
   rw [cnd_t (ilt_t (by simp only [len]; omega)), grd_t (inb_t (by simp only [len]; omega)), lget_i hi, bnd_s (hpl _ hx), time_label h2, bnd_some', time_label h2, bnd_some', jn_cnd, bnd_s (htx _ hx).1, w64_succ hi (by omega)]
   have e1 : q95 fuelH (((0 : Int), (i : Int), (0 : UInt8), (0 : UInt8), (labS d.2.2.1 l[i].2.1.1).1, (labS d.2.2.1 l[i].2.1.2).1, (placeE l[i] d.2.2.2.2.2.1).1, (placeE l[i] d.2.2.2.2.2.1).2, false, ([] : List UInt8)), (textL true l[i].2.2.2.2.2 []).1) = some (encS d i l[i]) := (hsp _ hx i).1
   rw [e1, bnd_some']
   unfold encRnd
   by_cases h0 : (encS d i l[i]).2 ≠ 0
   ·rw [cnd_t (ine_t h0), if_pos h0]; rfl
   ·rw [cnd_f (ine_f (by simpa using h0)), if_neg h0, grd_t (room_t (by simp only [iadd, len]; unfold encS; omega))]
    refine ⟨?_, encI_step hI.1 hs3 _, hi⟩
    congr 2
    congr 1
    by_cases hz : i = 0
    ·rw [if_pos hz, if_pos (by rw [ieq_tt]; omega)]; rfl
    ·rw [if_neg hz, if_neg (by rw [ieq_tt]; omega)]
  ·simp only
   rw [cnd_f (ilt_f (by simp only [len]; omega))]
   have h1 := hI.1.1
   have h3 := hI.2
   have hw := (wrV_ok (h := (a.2.1, a.2.2.1, a.2.2.2.1, len a.1, a.2.2.2.2.2)) (l := a.1) (by show a.2.2.2.1.length ≤ _; rw [hI.1.2]; exact hs.1) (by omega)).1
   rw [hw]
   rfl
  ·rw [List.drop_zero]
 ·rw [cnd_t (ine_t hw), cnd_t (ine_t hw)]
theorem few_enc {d : Doc} (hb : wtD d ≤ 1048576) : encOk (fewD d) := by
 refine ⟨few_small hb, by show (d.2.2.2.2.2.2.1.take 5).length ≤ _; rw [List.length_take]; omega, fun x hx => ?_⟩
 unfold wtD at hb
 have hx : x ∈ d.2.2.2.2.2.2.1 := List.mem_of_mem_take (show x ∈ d.2.2.2.2.2.2.1.take 5 from hx)
 have h1 : 1 + (1 + 1 + (x.2.2.1.length + 1 + (1 + (x.2.2.2.2.1.length + 1 + (bkL wtR x.2.2.2.2.2 + 1))))) ≤ bkL wtX d.2.2.2.2.2.2.1 := bk_mem (f := wtX) hx
 have h2 := costL_wt x.2.2.2.2.2
 omega
end
end Go.Mo
end

section
/-
  Plain facts: files read.
-/
namespace Go.Mo
open Go Go.W Go.Lib
set_option maxRecDepth 100000
noncomputable section
abbrev Rd := Hdr × List Blk × Int × Int
noncomputable def rdN (h : Hdr) : Nat → List UInt8 → Nat → List Blk → Option Rd
 | 0, _, _, l => some (h, l, 0, 0)
 | m + 1, y, i, l => bnd (tape_Get fuelH (ltake (toN (128 : Int)) y)) fun v5 => cnd (ine v5.2 (0 : Int)) (some (hz, ([] : List Blk), w64 (iadd (i : Int) (1 : Int)), v5.2)) (rdN h m (ldrop (toN (128 : Int)) y) (i + 1) (lapp l [v5.1]))
theorem tread_loop {h : Hdr} {y : List UInt8} {B : Nat} (hB : h.2.2.2.1 = (B : Int)) (hy : y.length = 128 * B) (hB2 : B ≤ 1000) : ∀ (m fuel i : Nat) (l : List Blk), m = B - i → i ≤ B → m < fuel → l.length = i →
  fixN (fun v3 (v4 : (List Blk) × Int) =>
        cnd (ilt v4.2 h.2.2.2.1)
         (grd (in3 (w64 (imul v4.2 (128 : Int))) (w64 (imul (w64 (iadd v4.2 (1 : Int))) (128 : Int))) (len y))
          (bnd (tape_Get fuelH (ldrop (toN (w64 (imul v4.2 (128 : Int)))) (ltake (toN (w64 (imul (w64 (iadd v4.2 (1 : Int))) (128 : Int)))) y))) fun v5 =>
          cnd (ine v5.2 (0 : Int))
           (some (hz, ([] : List Blk), w64 (iadd v4.2 (1 : Int)), v5.2))
           (grd (room (iadd (len v4.1) (len ([v5.1] : List Blk))) 144)
            (v3 (lapp v4.1 ([v5.1] : List Blk), w64 (iadd v4.2 (1 : Int)))))))
         (some (h, v4.1, (0 : Int), (0 : Int)))) fuel (l, (i : Int)) = rdN h m (y.drop (128 * i)) i l
 | _, 0, _, _, _, _, h, _ => by omega
 | 0, fuel + 1, i, l, hm, hi, _, _ => by
  rw [fixN_s, hB]
  simp only
  rw [cnd_f (ilt_f (by omega))]
  rfl
 | m + 1, fuel + 1, i, l, hm, hi, hf, hl => by
  rw [fixN_s, hB]
  simp only
  have w1 : w64 (imul (i : Int) (128 : Int)) = ((128 * i : Nat) : Int) := by
   simp only [imul]
   rw [w64_id (by omega)]
   omega
  have w2 : w64 (iadd (i : Int) (1 : Int)) = ((i + 1 : Nat) : Int) := w64_succ (n := B) (by omega) (by omega)
  have w3 : w64 (imul ((i + 1 : Nat) : Int) (128 : Int)) = ((128 * (i + 1) : Nat) : Int) := by
   simp only [imul]
   rw [w64_id (by omega)]
   omega
  have hs : ldrop (toN ((128 * i : Nat) : Int)) (ltake (toN ((128 * (i + 1) : Nat) : Int)) y) = ltake (toN (128 : Int)) (y.drop (128 * i)) := by
   unfold ldrop ltake toN
   rw [Int.toNat_natCast, Int.toNat_natCast, List.drop_take]
   congr 1
   omega
  rw [cnd_t (ilt_t (by omega)), w1, w2, w3, grd_t (in3_t (by simp only [len]; omega)), hs]
  have hr : ∀ b : Blk, room (iadd (len l) (len ([b] : List Blk))) 144 = true := fun b => room_t (by simp only [iadd, len, List.length_singleton]; omega)
  obtain ⟨r, g1, _, _⟩ := bget_ok (ltake (toN (128 : Int)) (y.drop (128 * i)))
  rw [rdN, g1, bnd_some', bnd_some', hr, w2]
  rw [show ∀ k : Option Rd, grd true k = k from fun _ => rfl]
  have := tread_loop hB hy hB2 m fuel (i + 1) (lapp l [r.1]) (by omega) (by omega) (by omega) (by simp only [lapp, List.length_append, List.length_singleton]; omega)
  rw [hB] at this
  rw [this]
  have hd : ldrop (toN (128 : Int)) (y.drop (128 * i)) = y.drop (128 * (i + 1)) := by
   unfold ldrop
   rw [List.drop_drop]
   congr 1
  rw [hd]
theorem rread_loop {h : Hdr} : ∀ (m fuel : Nat) (y : List UInt8) (l : List Blk), y.length = 128 * m → m < fuel → l.length + m ≤ 1000 →
  fixN (fun v3 (v4 : (List UInt8) × List Blk) =>
        cnd (ilt (0 : Int) (len v4.1))
         (grd (in2 (128 : Int) (len v4.1))
          (bnd (r23_Get fuelH (ltake (toN (128 : Int)) v4.1)) fun v5 =>
          cnd (ine v5.2 (0 : Int))
           (some (hz, ([] : List Blk), w64 (iadd (len v4.2) (1 : Int)), v5.2))
           (grd (room (iadd (len v4.2) (len ([v5.1] : List Blk))) 144)
            (grd (in2 (128 : Int) (len v4.1))
             (v3 (ldrop (toN (128 : Int)) v4.1, lapp v4.2 ([v5.1] : List Blk)))))))
         (some (h, v4.2, (0 : Int), (0 : Int)))) fuel (y, l) = rdN h m y l.length l
 | _, 0, _, _, _, h, _ => by omega
 | 0, fuel + 1, y, l, hy, _, _ => by
  rw [fixN_s]
  simp only
  rw [cnd_f (ilt_f (by simp only [len]; omega))]
  rfl
 | m + 1, fuel + 1, y, l, hy, hf, hl => by
  rw [fixN_s]
  simp only
  have hr : ∀ b : Blk, room (iadd (len l) (len ([b] : List Blk))) 144 = true := fun b => room_t (by simp only [iadd, len, List.length_singleton]; omega)
  have h2 : in2 (128 : Int) (len y) = true := in2_t (by simp only [len]; omega)
  obtain ⟨r, g1, g2, _⟩ := bget_ok (ltake (toN (128 : Int)) y)
  rw [cnd_t (ilt_t (by simp only [len]; omega)), h2, g2, rdN, g1, bnd_some', bnd_some', hr]
  have hd : (ldrop (toN (128 : Int)) y).length = 128 * m := by
   unfold ldrop
   rw [List.length_drop, hy]
   show 128 * (m + 1) - 128 = _
   omega
  have := rread_loop (h := h) m fuel (ldrop (toN (128 : Int)) y) (lapp l [r.1]) hd (by omega) (by simp only [lapp, List.length_append, List.length_singleton]; omega)
  show cnd _ _ (fixN _ fuel (ldrop (toN (128 : Int)) y, lapp l [r.1])) = _
  rw [this]
  have e : (lapp l [r.1]).length = l.length + 1 := by simp only [lapp, List.length_append, List.length_singleton]
  rw [e]
  rfl
theorem rd_back {h : Hdr} : ∀ (l : List Blk) (i : Nat) (s : List Blk), (∀ b ∈ l, BlkOk b ∧ tape_Put fuelH b = some (bby b, 0)) → rdN h l.length (l.flatMap bby) i s = some (h, s ++ l, 0, 0)
 | [], i, s, _ => by rw [List.append_nil]; rfl
 | b :: l, i, s, hb => by
  obtain ⟨h1, h2⟩ := hb b (by simp)
  have hl := bby_len h1
  have e1 : ltake (toN (128 : Int)) ((b :: l).flatMap bby) = bby b := by
   rw [List.flatMap_cons]
   exact List.take_left' hl
  have e2 : ldrop (toN (128 : Int)) ((b :: l).flatMap bby) = l.flatMap bby := by
   rw [List.flatMap_cons]
   exact List.drop_left' hl
  rw [List.length_cons, rdN, e1, e2, bget_back h1 h2, bnd_some', cnd_f (ine_f rfl), rd_back l (i + 1) _ fun c hc => hb c (by simp [hc])]
  unfold lapp
  rw [List.append_assoc]
  rfl
theorem read_form {x : List UInt8} {h : Hdr} {m : Nat} (h1 : q125 fuelH (ltake (toN (1024 : Int)) x) = some (h, 0)) (h2 : q184 fuelH (ltake (toN (1024 : Int)) x) = some (h, 0)) (hl : x.length = 1024 + 128 * m) (hm : m ≤ 1000) (hb : h.2.2.2.1 = (m : Int)) :
  q131 fuelH x = rdN h m (ldrop (toN (1024 : Int)) x) 0 [] ∧ r23_Read fuelH x = rdN h m (ldrop (toN (1024 : Int)) x) 0 [] := by
 have hd : (ldrop (toN (1024 : Int)) x).length = 128 * m := by
  unfold ldrop
  rw [List.length_drop, hl]
  show 1024 + 128 * m - 1024 = _
  omega
 have i2 : in2 (1024 : Int) (len x) = true := in2_t (by simp only [len]; omega)
 have c1 : imod (len (ldrop (toN (1024 : Int)) x)) (128 : Int) = 0 := by
  simp only [imod, len, hd]
  rw [Int.tmod_eq_emod_of_nonneg (by omega)]
  omega
 have c2 : w64 (idiv (len (ldrop (toN (1024 : Int)) x)) (128 : Int)) = h.2.2.2.1 := by
  simp only [idiv, len, hd]
  rw [Int.tdiv_eq_ediv_of_nonneg (by omega), hb, w64_id (by omega)]
  omega
 constructor
 ·unfold q131
  rw [cnd_f (ilt_f (by simp only [len]; omega)), grd_t i2, h1, bnd_some', cnd_f (ine_f rfl), grd_t i2, cnd_f (ine_f c1), cnd_f (ine_f c2), jn_e]
  exact tread_loop hb hd hm m fuelH 0 [] (by omega) (Nat.zero_le _) (by have := fuelH_eq; omega) rfl
 ·unfold r23_Read
  rw [cnd_f (ilt_f (by simp only [len]; omega)), grd_t i2, h2, bnd_some', cnd_f (ine_f rfl), grd_t i2, cnd_f (ine_f c1), cnd_f (ine_f c2), jn_e]
  exact rread_loop m fuelH (ldrop (toN (1024 : Int)) x) [] hd (by have := fuelH_eq; omega) (by simpa using hm)
theorem read_back {h : Hdr} {l : List Blk} {p : List UInt8} (hl : l.length ≤ 200) (H : WrOk h l p 0) : q131 fuelH p = some (h, l, 0, 0) := by
 rcases H with ⟨hn, _⟩ | ⟨_, H, p1, p2, hn, hb, rfl⟩
 ·exact absurd rfl hn
 have hh := hby_len H
 have hf : ∀ l : List Blk, (∀ b ∈ l, BlkOk b ∧ tape_Put fuelH b = some (bby b, 0)) → (l.flatMap bby).length = 128 * l.length := by
  intro l
  induction l with
  | nil => intro _; rfl
  | cons b l ih =>
   intro hb
   rw [List.flatMap_cons, List.length_append, bby_len (hb b (by simp)).1, ih fun c hc => hb c (by simp [hc]), List.length_cons]
   omega
 have e1 : ltake (toN (1024 : Int)) (hby h ++ l.flatMap bby) = hby h := List.take_left' hh
 have e2 : ldrop (toN (1024 : Int)) (hby h ++ l.flatMap bby) = l.flatMap bby := List.drop_left' hh
 obtain ⟨f1, _⟩ := read_form (x := hby h ++ l.flatMap bby) (m := l.length) (by rw [e1]; exact get_back p1 H) (by rw [e1]; exact rg_back p2 H) (by rw [List.length_append, hh, hf l hb]) (by omega) hn.symm
 rw [f1, e2, rd_back l 0 [] hb, List.nil_append]
end
end Go.Mo
end

section
/-
  Plain facts: blocks that are joined, both sides; the frame of a label, both sides.
-/
namespace Go.Mo
open Go Go.W Go.Lib
set_option maxRecDepth 100000
noncomputable section
theorem cnd_some {α : Type} (b : Bool) (x y : α) : cnd b (some x) (some y) = some (if b = true then x else y) := by cases b <;> rfl
def alV (p : Blk × Blk) : Bool := (q132 0 p).getD false
theorem al_eq (N : Nat) (p : Blk × Blk) : q132 N p = some (alV p) := by
 have h : ∃ v, q132 0 p = some v := by
  unfold q132
  simp only [cnd_some]
  exact ⟨_, rfl⟩
 obtain ⟨v, h⟩ := h
 have e : q132 N p = q132 0 p := rfl
 unfold alV
 rw [e, h]
 rfl
theorem al_self (b c : Blk) (e : UInt8) (t : List UInt8) (h : c = setB b e t) : alV (c, b) = true := by
 subst h
 unfold alV q132 setB
 simp [cnd_some, ieq, band, beqb]
def chkV (b : Blk) : Int := (q93 fuelH b).getD 0
theorem chk_both (b : Blk) : q93 fuelH b = some (chkV b) ∧ q188 fuelH b = some (chkV b) ∧ (chkV b = 0 → BlkOk b) := by
 obtain ⟨e, h1, h2, h3⟩ := bcheck_ok b
 have : chkV b = e := by unfold chkV; rw [h1]; rfl
 rw [this]
 exact ⟨h1, h2, h3⟩
def ordBad (n : Nat) (l0 : Blk) (i : Nat) (b : Blk) : Prop := (if i + 1 = n then n8 b.2.2.1 ≠ 255 else n8 b.2.2.1 ≠ (i : Int)) ∨ alV (b, l0) = false
instance (n : Nat) (l0 : Blk) (i : Nat) (b : Blk) : Decidable (ordBad n l0 i b) := by unfold ordBad; infer_instance
def frmBad (n : Nat) (i : Nat) (b : Blk) : Prop := (i + 1 < n ∧ b.2.2.2.2.2.2.2.2.2.length < 112) ∨ (i + 1 = n ∧ 0 < i ∧ b.2.2.2.2.2.2.2.2.2.length = 0)
instance (n : Nat) (i : Nat) (b : Blk) : Decidable (frmBad n i b) := by unfold frmBad; infer_instance
abbrev Jn := Blk × List UInt8 × Int
def jR1 (_ : Nat) (b : Blk) (_ : Unit) : Option Jn ⊕ Unit := if chkV b ≠ 0 then .inl (some (bz, [], chkV b)) else .inr ()
def jR2 (n : Nat) (l0 : Blk) (i : Nat) (b : Blk) (_ : Unit) : Option Jn ⊕ Unit := if ordBad n l0 i b then .inl (some (bz, [], 8)) else .inr ()
def jR3 (n : Nat) (i : Nat) (b : Blk) (a : List UInt8) : Option Jn ⊕ List UInt8 := if frmBad n i b then .inl (some (bz, [], 4)) else .inr (a ++ b.2.2.2.2.2.2.2.2.2)
def joinS : List Blk → Option Jn
 | [] => some (bz, [], 6)
 | l0 :: l => itI jR1 (fun _ => itI (jR2 (l.length + 1) l0) (fun _ => itI (jR3 (l.length + 1)) (fun a => some (setB l0 255 [], a, 0)) 0 (l0 :: l) []) 0 (l0 :: l) ()) 0 (l0 :: l) ()
theorem joinS_cons (l0 : Blk) (l : List Blk) : joinS (l0 :: l) = itI jR1 (fun _ => itI (jR2 (l.length + 1) l0) (fun _ => itI (jR3 (l.length + 1)) (fun a => some (setB l0 255 [], a, 0)) 0 (l0 :: l) []) 0 (l0 :: l) ()) 0 (l0 :: l) () := rfl
theorem cnd_bn {α : Type} (b : Bool) (x y : Option α) : cnd (bnot b) x y = cnd b y x := by cases b <;> rfl
theorem n8_w (b : UInt8) : w64 (n8 b) = n8 b := by
 have := b.toNat_lt
 unfold n8
 rw [w64_id (by omega)]
theorem tape_join {l : List Blk} (hl : l.length ≤ 4000) (ht : ∀ b ∈ l, b.2.2.2.2.2.2.2.2.2.length ≤ 112) : q133 fuelH l = joinS l := by
 unfold q133
 cases l with
 | nil => rfl
 | cons l0 l =>
  have hn : (l0 :: l).length = l.length + 1 := List.length_cons
  rw [cnd_f (ieq_f (by simp only [len, hn]; omega)), jn_e]
  rw [joinS_cons]
  have h0 : inb (0 : Int) (len (l0 :: l)) = true := inb_t (by simp only [len, hn]; omega)
  have hg0 : ∀ d, lget (l0 :: l) (toN (0 : Int)) d = l0 := fun _ => rfl
  have hw : w64 (isub (len (l0 :: l)) (1 : Int)) = (l.length : Int) := by
   have := w64_pred (i := l.length + 1) (by omega) (by omega)
   have e : len (l0 :: l) = ((l.length + 1 : Nat) : Int) := by simp only [len, hn]
   rw [e, this]; rfl
  generalize hL : l0 :: l = L at *
  refine Eq.trans (lst_it (l := L) (fun (_ : Unit) (p : Nat) => (p : Int)) jR1 (fun _ => itI (jR2 (l.length + 1) l0) (fun _ => itI (jR3 (l.length + 1)) (fun a => some (setB l0 255 [], a, 0)) 0 L []) 0 L ()) (fun _ _ => True) (fun self a i hi _ => ?_) (fun self a _ => ?_) fuelH 0 () (Nat.zero_le _) (by have := fuelH_eq; omega) trivial) (by rw [List.drop_zero])
  ·rw [cnd_t (ilt_t (by simp only [len]; omega)), grd_t (inb_t (by simp only [len]; omega)), lget_i hi, bnd_s (chk_both _).1, w64_succ hi (by omega)]
   unfold jR1
   by_cases h : chkV L[i] ≠ 0
   ·rw [if_pos h, cnd_t (ine_t h)]; rfl
   ·rw [if_neg h, cnd_f (ine_f (by simpa using h))]
    exact ⟨rfl, trivial⟩
  rw [cnd_f (ilt_f (by simp only [len]; omega)), jn_e]
  refine Eq.trans (lst_it (l := L) (fun (_ : Unit) (p : Nat) => (p : Int)) (jR2 (l.length + 1) l0) (fun _ => itI (jR3 (l.length + 1)) (fun a => some (setB l0 255 [], a, 0)) 0 L []) (fun _ _ => True) (fun self a i hi _ => ?_) (fun self a _ => ?_) fuelH 0 () (Nat.zero_le _) (by have := fuelH_eq; omega) trivial) (by rw [List.drop_zero])
  ·have e255 : n8 (255 : UInt8) = 255 := rfl
   rw [cnd_t (ilt_t (by simp only [len]; omega)), grd_t (inb_t (by simp only [len]; omega)), lget_i hi, w64_succ hi (by omega), jn_cnd, hw, n8_w, hg0, al_eq, grd_t h0, bnd_some', cnd_ine, cnd_bn]
   have ew : (if ieq (i : Int) (l.length : Int) = true then (255 : Int) else (i : Int)) = if i + 1 = l.length + 1 then 255 else (i : Int) := by
    by_cases h : i = l.length
    ·rw [if_pos (by rw [ieq_tt]; omega), if_pos (by omega)]
    ·rw [if_neg (by rw [ieq_tt]; omega), if_neg (by omega)]
   rw [ew]
   unfold jR2 ordBad
   by_cases h1 : i + 1 = l.length + 1
   ·simp only [if_pos h1]
    by_cases h2 : n8 L[i].2.2.1 ≠ 255
    ·rw [if_pos h2, if_pos (.inl h2)]; rfl
    ·rw [if_neg h2]
     by_cases h3 : alV (L[i], l0) = true
     ·rw [cnd_t h3, if_neg (by simp [h3, h2])]
      exact ⟨rfl, trivial⟩
     ·rw [cnd_f (by simpa using h3), if_pos (.inr (by simpa using h3))]; rfl
   ·simp only [if_neg h1]
    by_cases h2 : n8 L[i].2.2.1 ≠ (i : Int)
    ·rw [if_pos h2, if_pos (.inl h2)]; rfl
    ·rw [if_neg h2]
     by_cases h3 : alV (L[i], l0) = true
     ·rw [cnd_t h3, if_neg (by simp [h3, h2])]
      exact ⟨rfl, trivial⟩
     ·rw [cnd_f (by simpa using h3), if_pos (.inr (by simpa using h3))]; rfl
  rw [cnd_f (ilt_f (by simp only [len]; omega)), jn_e]
  refine Eq.trans (lst_it (l := L) (fun (a : List UInt8) (p : Nat) => (a, (p : Int))) (jR3 (l.length + 1)) (fun a => some (setB l0 255 [], a, 0)) (fun i a => a.length ≤ 112 * i) (fun self a i hi ha => ?_) (fun self a _ => ?_) fuelH 0 [] (Nat.zero_le _) (by have := fuelH_eq; omega) (Nat.zero_le _)) (by rw [List.drop_zero])
  ·have htx := ht _ (List.getElem_mem hi)
   simp only
   rw [cnd_t (ilt_t (by simp only [len]; omega)), grd_t (inb_t (by simp only [len]; omega)), lget_i hi, w64_succ hi (by omega), hw]
   unfold jR3
   have good : ∀ X : Option Jn, ¬ frmBad (l.length + 1) i L[i] → X = self (a ++ L[i].2.2.2.2.2.2.2.2.2, ((i + 1 : Nat) : Int)) → Rnd X self (fun a => (a, ((i + 1 : Nat) : Int))) (fun a => a.length ≤ 112 * (i + 1)) (if frmBad (l.length + 1) i L[i] then .inl (some (bz, [], 4)) else .inr (a ++ L[i].2.2.2.2.2.2.2.2.2)) := fun X h e => by
    rw [if_neg h, e]
    exact ⟨rfl, by simp only [List.length_append]; omega⟩
   have badd : ∀ X : Option Jn, frmBad (l.length + 1) i L[i] → X = some (bz, [], 4) → Rnd X self (fun a => (a, ((i + 1 : Nat) : Int))) (fun a => a.length ≤ 112 * (i + 1)) (if frmBad (l.length + 1) i L[i] then .inl (some (bz, [], 4)) else .inr (a ++ L[i].2.2.2.2.2.2.2.2.2)) := fun X h e => by
    rw [if_pos h, e]
    rfl
   have hroom : room (iadd (len a) (len L[i].2.2.2.2.2.2.2.2.2)) 1 = true := room_t (by simp only [iadd, len]; omega)
   rw [jn_e]
   by_cases h1 : i < l.length
   ·rw [cnd_t (ilt_t (by omega))]
    by_cases h2 : L[i].2.2.2.2.2.2.2.2.2.length < 112
    ·exact badd _ (.inl ⟨by omega, h2⟩) (cnd_t (ilt_t (by simp only [len]; omega)))
    ·refine good _ (by rintro (k | k) <;> omega) ?_
     rw [cnd_f (ilt_f (by simp only [len]; omega)), cnd_f (ieq_f (by omega)), grd_t hroom]
     rfl
   ·have hil : i = l.length := by omega
    rw [cnd_f (ilt_f (by omega)), cnd_t (ieq_t (by omega))]
    by_cases h2 : 0 < l.length
    ·rw [cnd_t (ilt_t (by omega))]
     by_cases h3 : L[i].2.2.2.2.2.2.2.2.2.length = 0
     ·exact badd _ (.inr ⟨by omega, by omega, h3⟩) (cnd_t (ieq_t (by simp only [len]; omega)))
     ·refine good _ (by rintro (k | k) <;> omega) ?_
      rw [cnd_f (ieq_f (by simp only [len]; omega)), grd_t hroom]
      rfl
    ·refine good _ (by rintro (k | k) <;> omega) ?_
     rw [cnd_f (ilt_f (by omega)), grd_t hroom]
     rfl
  ·simp only
   rw [cnd_f (ilt_f (by simp only [len]; omega)), grd_t h0, hg0]
   rfl
end
end Go.Mo
end

section
/-
  Plain facts: blocks that are joined by the specification; the frame of a label.
-/
namespace Go.Mo
open Go Go.W Go.Lib
set_option maxRecDepth 100000
noncomputable section
def valL (n : Int) (l : Lbl) : Int := ((l.1 * 60 + l.2.1) * 60 + l.2.2.1) * n + l.2.2.2.1
def frmS (n : Int) (l : Lbl) : Int × Int := if l.2.2.2.1 < n then (valL n l, 0) else (0, 2)
theorem nom_or (r : UInt8) : nomOf r = 25 ∨ nomOf r = 30 := by unfold nomOf; split <;> simp
theorem val_w {n : Int} (hn : n = 25 ∨ n = 30) {l : Lbl} (hl : lblIn l) : w64 (iadd (w64 (imul (w64 (iadd (w64 (imul (w64 (iadd (w64 (imul l.1 (60 : Int))) l.2.1)) (60 : Int))) l.2.2.1)) n)) l.2.2.2.1) = valL n l ∧ 0 ≤ valL n l ∧ valL n l ≤ 3000000 := by
 obtain ⟨h1, h2, h3, h4⟩ := hl
 unfold valL iadd imul
 rw [w64_id (x := l.1 * 60) (by omega), w64_id (x := l.1 * 60 + l.2.1) (by omega), w64_id (x := (l.1 * 60 + l.2.1) * 60) (by omega), w64_id (x := (l.1 * 60 + l.2.1) * 60 + l.2.2.1) (by omega)]
 rcases hn with rfl | rfl
 ·rw [w64_id (x := ((l.1 * 60 + l.2.1) * 60 + l.2.2.1) * 25) (by omega), w64_id (by omega)]
  omega
 ·rw [w64_id (x := ((l.1 * 60 + l.2.1) * 60 + l.2.2.1) * 30) (by omega), w64_id (by omega)]
  omega
theorem time_check {r : UInt8} (h : r = 3 ∨ r = 5) {l : Lbl} (hl : lblIn l) (hd : l.2.2.2.2 = false) : q96 fuelH (r, l) = some (if l.2.2.2.1 < nomOf r then 0 else 2) := by
 obtain ⟨e1, e2, e3, _, _⟩ := lab_facts h
 obtain ⟨h1, h2, h3, h4⟩ := hl
 unfold q96
 simp only
 rw [hd, e1, bnd_some', cnd_f (ine_f rfl), cnd_f (ilt_f (by omega)), cnd_f (ilt_f (by omega)), cnd_f (ilt_f (by omega)), cnd_f (ilt_f (by omega)), cnd_f (ilt_f (by omega)), cnd_f (ilt_f (by omega)), cnd_f (ilt_f (by omega)), e2, bnd_some', cnd_ile]
 by_cases h5 : l.2.2.2.1 < nomOf r
 ·rw [if_neg (by omega), if_pos h5, e3, bnd_some', cnd_f (ilt_f (by omega))]
  exact cnd_same (cnd_same rfl rfl) rfl
 ·rw [if_pos (by omega), if_neg h5]
theorem time_frame {r : UInt8} (h : r = 3 ∨ r = 5) {l : Lbl} (hl : lblIn l) (hd : l.2.2.2.2 = false) : q134 fuelH (r, l) = some (frmS (nomOf r) l) := by
 obtain ⟨e1, e2, e3, _, _⟩ := lab_facts h
 obtain ⟨v1, v2, v3⟩ := val_w (nom_or r) hl
 unfold q134 frmS
 simp only
 rw [time_check h hl hd, bnd_some']
 by_cases h5 : l.2.2.2.1 < nomOf r
 ·rw [if_pos h5, if_pos h5, cnd_f (ine_f rfl), e2, bnd_some', hd, e3, bnd_some', v1, mul0]
  unfold isub
  rw [w64_id (by omega)]
  simp
 ·rw [if_neg h5, if_neg h5, cnd_t (ine_t (by decide))]
end
end Go.Mo
end

section
/-
  Plain facts: rows that are read are small; a subtitle that is read, both sides.
-/
namespace Go.Mo
open Go Go.W Go.Lib
set_option maxRecDepth 100000
noncomputable section
def chR (row : Row) : Prop := ∀ x ∈ row, (∃ r, inRep r = true ∧ x.1 = enc r) ∧ x.2.2 = []
theorem chR_app {row : Row} {r : Int} {s : Sty} (h : chR row) (hr : inRep r = true) : chR (row ++ [(enc r, s, [])]) := fun x hx => by
 rcases List.mem_append.1 hx with hx | hx
 ·exact h x hx
 ·rw [List.mem_singleton.1 hx]; exact ⟨⟨r, hr, rfl⟩, rfl⟩
theorem prs_ch : ∀ (n : Nat) (p : List UInt8) (now : Sty) (row row' : Row), p.length ≤ n → chR row → prs p now row = some row' → chR row'
 | _, [], _, row, row', _, hc, h => by simp only [prs, Option.some.injEq] at h; subst h; exact hc
 | 0, a :: t, _, _, _, h, _, _ => by simp at h
 | n + 1, a :: t, now, row, row', hn, hc, h => by
  simp only [List.length_cons] at hn
  unfold prs at h
  split at h
  ·exact prs_ch n t _ _ _ (by omega) hc h
  ·split at h
   ·rename_i r hr
    exact prs_ch n t _ _ _ (by omega) (chR_app hc (g1_rep hr)) h
   ·split at h
    ·cases h
    ·rename_i b t'
     split at h
     ·cases h
     ·rename_i hg
      simp only [List.length_cons] at hn
      obtain ⟨_, h2⟩ := g2_any a b
      rcases h2 with h2 | ⟨r, h2, h3⟩
      ·rw [h2] at hg; exact absurd rfl hg
      ·rw [h2] at h
       exact prs_ch n t' _ _ _ (by omega) (chR_app hc h3) h
theorem ch_tot : ∀ (row : Row), chR row → tot row ≤ 4 * row.length
 | [], _ => Nat.le_refl _
 | x :: row, h => by
  obtain ⟨⟨r, hr, hx⟩, _⟩ := h x List.mem_cons_self
  have h1 := ch_tot row fun y hy => h y (List.mem_cons_of_mem _ hy)
  have h2 := enc_len4 hr
  rw [← hx] at h2
  simp only [tot, List.length_cons]
  omega
theorem fold_ruby : ∀ (l out : Row), (∀ x ∈ out, x.2.2 = []) → (∀ x ∈ l, x.2.2 = []) → ∀ x ∈ l.foldl snoc out, x.2.2 = []
 | [], out, h, _ => h
 | y :: l, out, h, hl => by
  refine fold_ruby l _ ?_ fun z hz => hl z (List.mem_cons_of_mem _ hz)
  have hy := hl y List.mem_cons_self
  unfold snoc
  split
  ·exact h
  ·split
   ·rename_i p hp
    have e := last_eq hp
    have hin : p ∈ out := by rw [e]; simp
    split
    ·intro x hx
     rcases List.mem_append.1 hx with hx | hx
     ·exact h x (List.dropLast_subset _ hx)
     ·rw [List.mem_singleton.1 hx]; exact h p hin
    ·intro x hx
     rcases List.mem_append.1 hx with hx | hx
     ·exact h x hx
     ·rw [List.mem_singleton.1 hx]; exact hy
   ·intro x hx
    rcases List.mem_append.1 hx with hx | hx
    ·exact h x hx
    ·rw [List.mem_singleton.1 hx]; exact hy
theorem norm_tot (l : Row) : tot (normR l) = tot l := by
 rw [← plainT_len, ← plainT_len]
 unfold normR
 rw [fold_plain]
 rfl
theorem ch_small {row : Row} (h : chR row) (hl : row.length ≤ 1000000) : smallR (normR row) := by
 have h1 := ch_tot row h
 have h2 := norm_tot row
 have h3 := fold_ruby row [] (fun x hx => by cases hx) fun x hx => (h x hx).2
 refine ⟨fun x hx => ?_, by omega⟩
 have h4 := tot_mem hx
 have h5 := h3 x hx
 exact ⟨by omega, by rw [h5]; simp⟩
def rowsS (t : List UInt8) : List Row × Int := thenS (prs (spl t).1 plainS []) (spl t).2 []
theorem runSeg_small : ∀ (segs : List (List UInt8)) (out : List Row), (∀ s ∈ segs, s.length ≤ 1000000) → smallL out → smallL (runSeg segs out).1
 | [], out, _, ho => ho
 | s :: segs, out, hs, ho => by
  simp only [runSeg]
  cases hp : prs s plainS [] with
  | none => exact fun r hr => by cases hr
  | some row =>
   have h1 := prs_len _ s _ _ _ (Nat.le_refl _) hp
   have h3 := hs s List.mem_cons_self
   simp only [List.length_nil] at h1
   have hc := prs_ch _ s plainS [] row (Nat.le_refl _) (fun x hx => by cases hx) hp
   refine runSeg_small segs _ (fun t ht => hs t (List.mem_cons_of_mem _ ht)) fun r hr => ?_
   rcases List.mem_append.1 hr with hr | hr
   ·exact ho r hr
   ·rw [List.mem_singleton.1 hr]; exact ch_small hc (by omega)
theorem rows_small {t : List UInt8} (ht : t.length ≤ 100000) : smallL (rowsS t).1 := by
 obtain ⟨h1, h2, h3⟩ := spl_len t
 unfold rowsS
 rw [thenS_eq]
 refine runSeg_small _ _ (fun s hs => ?_) fun r hr => by cases hr
 rcases List.mem_cons.1 hs with rfl | hs
 ·omega
 ·have := h3 s hs; omega
theorem itI3_len (n : Nat) : ∀ (l : List Blk) (i : Nat) (a : List UInt8) (o : Jn) (l0 : Blk), (∀ b ∈ l, b.2.2.2.2.2.2.2.2.2.length ≤ 112) → itI (jR3 n) (fun a => some (setB l0 255 [], a, 0)) i l a = some o → o.2.2 ≠ 0 ∨ (o.1 = setB l0 255 [] ∧ o.2.2 = 0 ∧ o.2.1.length ≤ a.length + 112 * l.length)
 | [], i, a, o, l0, _, h => by
  simp only [itI, Option.some.injEq] at h
  subst h
  exact .inr ⟨rfl, rfl, by simp⟩
 | b :: l, i, a, o, l0, ht, h => by
  simp only [itI, jR3] at h
  have hb := ht b List.mem_cons_self
  by_cases hf : frmBad n i b
  ·rw [if_pos hf] at h
   injection h with h
   subst h
   exact .inl (by decide)
  ·rw [if_neg hf] at h
   rcases itI3_len n l (i + 1) _ o l0 (fun c hc => ht c (List.mem_cons_of_mem _ hc)) h with h | ⟨h1, h2, h3⟩
   ·exact .inl h
   ·refine .inr ⟨h1, h2, ?_⟩
    rw [List.length_append] at h3
    simp only [List.length_cons]
    omega
theorem itI_end {α σ R : Type} {f : Nat → α → σ → Option R ⊕ σ} {e : σ → Option R} (P : R → Prop) (hf : ∀ i x a r, f i x a = .inl r → ∃ v, r = some v ∧ P v) (he : ∀ a, ∃ v, e a = some v ∧ P v) : ∀ (l : List α) (i : Nat) (a : σ), ∃ v, itI f e i l a = some v ∧ P v
 | [], _, a => he a
 | x :: l, i, a => by
  simp only [itI]
  cases hx : f i x a with
  | inl r => exact hf i x a r hx
  | inr a' => exact itI_end P hf he l (i + 1) a'
theorem join_any {l : List Blk} (ht : ∀ b ∈ l, b.2.2.2.2.2.2.2.2.2.length ≤ 112) : ∃ o, joinS l = some o ∧ (o.2.2 ≠ 0 ∨ ∃ l0 ∈ l, o.1 = setB l0 255 [] ∧ o.2.2 = 0 ∧ o.2.1.length ≤ 112 * l.length) := by
 cases l with
 | nil => exact ⟨_, rfl, .inl (by decide)⟩
 | cons l0 l =>
  rw [joinS_cons]
  have h3 : ∃ v, itI (jR3 (l.length + 1)) (fun a => some (setB l0 255 [], a, 0)) 0 (l0 :: l) [] = some v := by
   obtain ⟨v, h, _⟩ := itI_end (fun _ => True) (f := jR3 (l.length + 1)) (e := fun a => some (setB l0 255 [], a, 0)) (fun i x a r h => by
    unfold jR3 at h
    split at h
    ·injection h with h; exact ⟨_, h.symm, trivial⟩
    ·cases h) (fun a => ⟨_, rfl, trivial⟩) (l0 :: l) 0 []
   exact ⟨v, h⟩
  obtain ⟨v, hv⟩ := h3
  have hP := itI3_len _ _ _ _ v l0 ht hv
  have P : v.2.2 ≠ 0 ∨ ∃ l1 ∈ l0 :: l, v.1 = setB l1 255 [] ∧ v.2.2 = 0 ∧ v.2.1.length ≤ 112 * (l0 :: l).length := by
   rcases hP with h | ⟨h1, h2, h3⟩
   ·exact .inl h
   ·exact .inr ⟨l0, List.mem_cons_self, h1, h2, by simpa using h3⟩
  rw [hv]
  refine itI_end (fun o : Jn => o.2.2 ≠ 0 ∨ ∃ l1 ∈ l0 :: l, o.1 = setB l1 255 [] ∧ o.2.2 = 0 ∧ o.2.1.length ≤ 112 * (l0 :: l).length) (fun i x a r h => ?_) (fun a => ?_) (l0 :: l) 0 ()
  ·unfold jR1 at h
   split at h
   ·rename_i hc
    injection h with h
    exact ⟨_, h.symm, .inl hc⟩
   ·cases h
  ·refine itI_end (fun o : Jn => o.2.2 ≠ 0 ∨ ∃ l1 ∈ l0 :: l, o.1 = setB l1 255 [] ∧ o.2.2 = 0 ∧ o.2.1.length ≤ 112 * (l0 :: l).length) (fun i x a r h => ?_) (fun a => ⟨v, rfl, P⟩) (l0 :: l) 0 ()
   unfold jR2 at h
   split at h
   ·injection h with h; exact ⟨_, h.symm, .inl (by decide)⟩
   ·cases h
end
end Go.Mo
end

section
/-
  Plain facts: a subtitle that is read, both sides.
-/
namespace Go.Mo
open Go Go.W Go.Lib
set_option maxRecDepth 100000
noncomputable section
abbrev St2 := List Reg × List Ev
def evJ (r : UInt8) (n : Nat) (j : Jn) : Ev := (((n + 1 : Nat) : Int), ((frmS (nomOf r) j.1.2.2.2.2.1).1, (frmS (nomOf r) j.1.2.2.2.2.2.1).1), (regOf (j.1.2.2.2.2.2.2.1, j.1.2.2.2.2.2.2.2.1)).1, 1, [], (rowsS j.2.1).1)
def regJ (g : List Reg) (j : Jn) : List Reg := addS g (regOf (j.1.2.2.2.2.2.2.1, j.1.2.2.2.2.2.2.2.1))
def subJ (r : UInt8) (a : St2) (done : Nat) (j : Jn) : Int ⊕ St2 :=
 if j.2.2 ≠ 0 then .inl j.2.2 else if j.1.1 ≠ 0 then .inl 4 else if n8 j.1.2.2.2.1 ≠ 0 then .inl 4 else if j.1.2.1 ≠ (done : Int) then .inl 8 else
 if j.1.2.2.2.2.2.2.2.2.1 = true then .inr a else
 if (frmS (nomOf r) j.1.2.2.2.2.1).2 ≠ 0 then .inl (frmS (nomOf r) j.1.2.2.2.2.1).2 else
 if (frmS (nomOf r) j.1.2.2.2.2.2.1).2 ≠ 0 then .inl (frmS (nomOf r) j.1.2.2.2.2.2.1).2 else
 if (rowsS j.2.1).2 ≠ 0 then .inl (rowsS j.2.1).2 else
 if 16 < (regJ a.1 j).length then .inl 9 else
 if evChk (evJ r a.2.length j) (regJ a.1 j) ≠ 0 then .inl (evChk (evJ r a.2.length j) (regJ a.1 j)) else
 .inr (regJ a.1 j, a.2 ++ [evJ r a.2.length j])
def same1 (t la : List UInt8) (r : UInt8) (done : Nat) (s : Int ⊕ St2) (p : Option (Int × Doc × Int)) : Prop := match s with
 | .inl e => e ≠ 0 ∧ ∃ o, p = some o ∧ o.1 = e
 | .inr a => p = some (0, (t, la, r, false, 0, a.1, a.2, []), ((done + 1 : Nat) : Int))
theorem sub_stl {r : UInt8} (hr : r = 3 ∨ r = 5) (t la : List UInt8) {a : St2} {done : Nat} {l : List Blk} (hd : done ≤ 1000) (h1 : a.1.length ≤ 16) (h2 : a.2.length ≤ 300) (h3 : srt a.1) (hl : l.length ≤ 300) (hb : ∀ b ∈ l, BlkOk b) :
  ∃ j, joinS l = some j ∧ same1 t la r done (subJ r a done j) (q136 fuelH (((t, la, r, false, 0, a.1, a.2, []), (done : Int)), l)) := by
 have ht : ∀ b ∈ l, b.2.2.2.2.2.2.2.2.2.length ≤ 112 := fun b hbm => (hb b hbm).txt
 obtain ⟨j, hj, hjP⟩ := join_any ht
 refine ⟨j, hj, ?_⟩
 have ej1 : q133 fuelH l = some j := (tape_join (by omega) ht).trans hj
 unfold q136 subJ
 simp only
 rw [ej1, bnd_some']
 have e0 : n8 (0 : UInt8) = 0 := rfl
 rw [e0]
 by_cases c0 : j.2.2 ≠ 0
 ·rw [if_pos c0, cnd_t (ine_t c0)]
  exact ⟨c0, _, rfl, rfl⟩
 rw [if_neg c0, cnd_f (ine_f (show j.2.2 = 0 by simpa using c0))]
 rcases hjP with hjP | ⟨l0, hl0, hj1, _, hjt⟩
 ·exact absurd hjP c0
 have hB := hb l0 hl0
 by_cases c1 : j.1.1 ≠ 0
 ·rw [if_pos c1, cnd_t (ine_t c1)]
  exact ⟨by decide, _, rfl, rfl⟩
 rw [if_neg c1, cnd_f (ine_f (show j.1.1 = 0 by simpa using c1))]
 by_cases c2 : n8 j.1.2.2.2.1 ≠ 0
 ·rw [if_pos c2, cnd_t (ine_t c2)]
  exact ⟨by decide, _, rfl, rfl⟩
 rw [if_neg c2, cnd_f (ine_f (show n8 j.1.2.2.2.1 = 0 by simpa using c2))]
 by_cases c3 : j.1.2.1 ≠ (done : Int)
 ·rw [if_pos c3, cnd_t (ine_t c3)]
  exact ⟨by decide, _, rfl, rfl⟩
 rw [if_neg c3, cnd_f (ine_f (show j.1.2.1 = (done : Int) by simpa using c3))]
 have hdn : w64 (iadd (done : Int) (1 : Int)) = ((done + 1 : Nat) : Int) := w64_succ (show done < done + 1 by omega) (by omega)
 rw [hdn]
 by_cases c4 : j.1.2.2.2.2.2.2.2.2.1 = true
 ·rw [if_pos c4, cnd_t c4]
  exact rfl
 rw [if_neg c4, cnd_f (show j.1.2.2.2.2.2.2.2.2.1 = false by simpa using c4)]
 have k1 : j.1.2.2.2.2.1 = l0.2.2.2.2.1 := by rw [hj1]; rfl
 have k2 : j.1.2.2.2.2.2.1 = l0.2.2.2.2.2.1 := by rw [hj1]; rfl
 have k3 : j.1.2.2.2.2.2.2.1 = l0.2.2.2.2.2.2.1 := by rw [hj1]; rfl
 have k4 : j.1.2.2.2.2.2.2.2.1 = l0.2.2.2.2.2.2.2.1 := by rw [hj1]; rfl
 have hp : 0 ≤ j.1.2.2.2.2.2.2.1 ∧ j.1.2.2.2.2.2.2.1 ≤ 14 ∧ 1 ≤ n8 j.1.2.2.2.2.2.2.2.1 ∧ n8 j.1.2.2.2.2.2.2.2.1 ≤ 3 := by
  rw [k3, k4]; exact ⟨hB.row.1, hB.row.2, hB.al.1, hB.al.2⟩
 have f1 := time_frame hr (l := j.1.2.2.2.2.1) (by rw [k1]; exact hB.ain) (by rw [k1]; exact hB.d1)
 have f2 := time_frame hr (l := j.1.2.2.2.2.2.1) (by rw [k2]; exact hB.aout) (by rw [k2]; exact hB.d2)
 have s1 : stl_Rows fuelH j.2.1 = some (rowsS j.2.1) := stl_rows (by omega)
 have hsm := rows_small (t := j.2.1) (by omega)
 have q1 := regOf_stl (p := (j.1.2.2.2.2.2.2.1, j.1.2.2.2.2.2.2.2.1)) hp
 have hadd := addS_len a.1 (regOf (j.1.2.2.2.2.2.2.1, j.1.2.2.2.2.2.2.2.1))
 have w1 : stl_add fuelH (a.1, regOf (j.1.2.2.2.2.2.2.1, j.1.2.2.2.2.2.2.2.1)) = some (regJ a.1 j) := stl_add_eq _ (by omega)
 have hlen : (regJ a.1 j).length ≤ a.1.length + 1 := hadd
 have hn : w64 (iadd (len a.2) (1 : Int)) = ((a.2.length + 1 : Nat) : Int) := w64_succ (show a.2.length < a.2.length + 1 by omega) (by omega)
 rw [q1, bnd_some', f1, bnd_some']
 by_cases c5 : (frmS (nomOf r) j.1.2.2.2.2.1).2 ≠ 0
 ·rw [if_pos c5, cnd_t (ine_t c5)]
  exact ⟨c5, _, rfl, rfl⟩
 rw [if_neg c5, cnd_f (ine_f (show (frmS (nomOf r) j.1.2.2.2.2.1).2 = 0 by simpa using c5)), f2, bnd_some']
 by_cases c6 : (frmS (nomOf r) j.1.2.2.2.2.2.1).2 ≠ 0
 ·rw [if_pos c6, cnd_t (ine_t c6)]
  exact ⟨c6, _, rfl, rfl⟩
 rw [if_neg c6, cnd_f (ine_f (show (frmS (nomOf r) j.1.2.2.2.2.2.1).2 = 0 by simpa using c6)), s1, bnd_some']
 by_cases c7 : (rowsS j.2.1).2 ≠ 0
 ·rw [if_pos c7, cnd_t (ine_t c7)]
  exact ⟨c7, _, rfl, rfl⟩
 rw [if_neg c7, cnd_f (ine_f (show (rowsS j.2.1).2 = 0 by simpa using c7)), w1, bnd_some', cnd_f (show ile (400 : Int) (len a.2) = false from ile_f (by simp only [len]; omega)), hn]
 by_cases c8 : 16 < (regJ a.1 j).length
 ·rw [if_pos c8, cnd_t (show ilt (16 : Int) (len (regJ a.1 j)) = true from ilt_t (by simp only [len]; omega))]
  exact ⟨by decide, _, rfl, rfl⟩
 rw [if_neg c8, cnd_f (show ilt (16 : Int) (len (regJ a.1 j)) = false from ilt_f (by simp only [len]; omega))]
 have v1 : q59 fuelH (evJ r a.2.length j, regJ a.1 j) = some (evChk (evJ r a.2.length j) (regJ a.1 j)) := event_check_eq hsm (by omega)
 unfold evJ at v1
 unfold evJ
 rw [v1, bnd_some']
 generalize hE : ((((a.2.length + 1 : Nat) : Int), ((frmS (nomOf r) j.1.2.2.2.2.1).1, (frmS (nomOf r) j.1.2.2.2.2.2.1).1), (regOf (j.1.2.2.2.2.2.2.1, j.1.2.2.2.2.2.2.2.1)).1, 1, [], (rowsS j.2.1).1) : Ev) = E at *
 by_cases c9 : evChk E (regJ a.1 j) ≠ 0
 ·rw [if_pos c9, cnd_t (ine_t c9)]
  exact ⟨c9, _, rfl, rfl⟩
 have hroom : room (iadd (len a.2) (len ([E] : List Ev))) 88 = true := room_t (by simp only [iadd, len, List.length_singleton]; omega)
 rw [if_neg c9, cnd_f (ine_f (show evChk E (regJ a.1 j) = 0 by simpa using c9)), grd_t hroom]
 rfl
end
end Go.Mo
end

section
/-
  Plain facts: the subtitles of a file, one after the other, both sides.
-/
namespace Go.Mo
open Go Go.W Go.Lib
set_option maxRecDepth 100000
noncomputable section
def segL (L : List Blk) (f k : Nat) : List Blk := (L.take (k + 1)).drop f
def endB (L : List Blk) (k : Nat) : Prop := k + 1 = L.length ∨ n8 (lget L k bz).2.2.1 = n8 (255 : UInt8)
instance (L : List Blk) (k : Nat) : Decidable (endB L k) := by unfold endB; infer_instance
def decS (L : List Blk) (r : UInt8) : Nat → Nat → Nat → St2 → Nat → (Nat × Int) ⊕ (St2 × Nat)
 | 0, _, _, a, d => .inr (a, d)
 | m + 1, f, k, a, d => if endB L k then (match joinS (segL L f k) with
   | none => .inr (a, d)
   | some j => match subJ r a d j with
    | .inl e => .inl (f, e)
    | .inr a' => decS L r m (k + 1) (k + 1) a' (d + 1))
  else decS L r m f (k + 1) a d
def goodL (L : List Blk) : Prop := L.length ≤ 300 ∧ ∀ b ∈ L, BlkOk b
def InvD (r : UInt8) (a : St2) (d : Nat) : Prop := a.1.length ≤ 16 ∧ a.2.length ≤ d ∧ srt a.1 ∧ allR a.1 ∧ (∀ x ∈ a.2, evChk x a.1 = 0 ∧ x.2.1.2 < dayOf r ∧ x.2.2.1 ≠ [] ∧ smallL x.2.2.2.2.2) ∧ ∀ i (h : i < a.2.length), a.2[i].1 = ((i + 1 : Nat) : Int)
theorem InvD_0 (r : UInt8) : InvD r ([], []) 0 := ⟨by simp, by simp, List.Pairwise.nil, fun x hx => (by cases hx), fun x hx => (by cases hx), fun i h => absurd h (by simp)⟩
def goodJ (j : Jn) : Prop := j.2.2 ≠ 0 ∨ (okP (j.1.2.2.2.2.2.2.1, j.1.2.2.2.2.2.2.2.1) ∧ lblIn j.1.2.2.2.2.2.1 ∧ j.2.1.length ≤ 33600)
theorem find_keep {L : List Reg} (hL : allR L) (p : Int × UInt8) (hp : okP p) (n : List UInt8) {r : Reg} (h : findR L n = some r) : findR (addS L (regOf p)) n = some r := by
 by_cases hn : n = []
 ·unfold findR at h ⊢
  rw [if_pos hn] at h ⊢
  exact h
 ·unfold findR at h
  rw [if_neg hn] at h
  have h1 := List.find?_some h
  have h2 := List.mem_of_find?_eq_some h
  obtain ⟨q, hq, rfl⟩ := hL r h2
  have h1 : (regOf q).1 = n := by simpa using h1
  rw [← h1]
  exact find_regOf (addS_all hL hp) hq (addS_keep L (regOf p) _ h2)
theorem chk_keep {L : List Reg} (hL : allR L) (p : Int × UInt8) (hp : okP p) {x : Ev} (h : evChk x L = 0) : evChk x (addS L (regOf p)) = 0 := by
 obtain ⟨_, _, _, _, _, _, r, hf, _⟩ := ev_ok h
 have hk := find_keep hL p hp _ hf
 unfold evChk at h ⊢
 rw [hf] at h
 rw [hk]
 exact h
theorem val_day {r : UInt8} {l : Lbl} (hl : lblIn l) (h : (frmS (nomOf r) l).2 = 0) : (frmS (nomOf r) l).1 < dayOf r := by
 unfold frmS at h ⊢
 split at h
 ·rename_i hc
  rw [if_pos hc]
  obtain ⟨h1, h2, h3, h4⟩ := hl
  unfold valL dayOf nomOf at *
  simp only
  split
  ·rename_i hr; rw [if_pos hr] at hc; omega
  ·rename_i hr; rw [if_neg hr] at hc; omega
 ·cases h
theorem sub_inv {r : UInt8} {a a' : St2} {d : Nat} {j : Jn} (h : InvD r a d) (hg : goodJ j) (hs : subJ r a d j = .inr a') : InvD r a' (d + 1) := by
 obtain ⟨h1, h2, h3, h4, h5, h6⟩ := h
 unfold subJ at hs
 split at hs
 ·cases hs
 rename_i c0
 have hg := hg.resolve_left c0
 split at hs
 ·cases hs
 split at hs
 ·cases hs
 split at hs
 ·cases hs
 split at hs
 ·injection hs with hs; subst hs; exact ⟨h1, by omega, h3, h4, h5, h6⟩
 split at hs
 ·cases hs
 split at hs
 ·cases hs
 rename_i c6
 split at hs
 ·cases hs
 split at hs
 ·cases hs
 rename_i c8
 split at hs
 ·cases hs
 rename_i c9
 injection hs with hs
 subst hs
 refine ⟨by show (regJ a.1 j).length ≤ 16; omega, by simp only [List.length_append, List.length_singleton]; omega, srt_add _ _ h3, addS_all h4 hg.1, fun x hx => ?_, fun i hi => ?_⟩
 ·rcases List.mem_append.1 hx with hx | hx
  ·exact ⟨chk_keep h4 _ hg.1 (h5 x hx).1, (h5 x hx).2⟩
  ·rw [List.mem_singleton.1 hx]
   exact ⟨by simpa using c9, val_day hg.2.1 (by simpa using c6), by show (regOf _).1 ≠ []; unfold regOf; simp, rows_small (by have := hg.2.2; omega)⟩
 ·simp only [List.length_append, List.length_singleton] at hi
  by_cases hi2 : i < a.2.length
  ·rw [List.getElem_append_left hi2]; exact h6 i hi2
  ·rw [List.getElem_append_right (by omega)]
   have : i = a.2.length := by omega
   subst this
   simp [evJ]
theorem seg_mem {L : List Blk} {f k : Nat} : ∀ b ∈ segL L f k, b ∈ L := fun _ hb => List.mem_of_mem_take (List.mem_of_mem_drop hb)
theorem seg_len (L : List Blk) (f k : Nat) : (segL L f k).length ≤ L.length := by
 unfold segL
 rw [List.length_drop, List.length_take]
 omega
theorem seg_join {L : List Blk} (hL : goodL L) (f k : Nat) : ∃ j, joinS (segL L f k) = some j ∧ goodJ j := by
 obtain ⟨j, hj, hp⟩ := join_any (l := segL L f k) fun b hb => (hL.2 b (seg_mem b hb)).txt
 refine ⟨j, hj, ?_⟩
 rcases hp with hp | ⟨l0, hl0, e, _, ht⟩
 ·exact .inl hp
 ·have hB := hL.2 l0 (seg_mem l0 hl0)
  refine .inr ?_
  have h1 := seg_len L f k
  have h2 := hL.1
  rw [e]
  exact ⟨⟨hB.row.1, hB.row.2, hB.al.1, hB.al.2⟩, hB.aout, by omega⟩
def outD {R : Type} (E : Nat → Int → Option R) (K : St2 → Nat → Option R) : (Nat × Int) ⊕ (St2 × Nat) → Option R
 | .inl (f, e) => E f e
 | .inr (a, d) => K a d
theorem dec_prog {V R : Type} {F : (V → Option R) → V → Option R} {L : List Blk} {r : UInt8} (hL : goodL L) (st : Nat → St2 → Nat → V) (E : Nat → Int → Option R) (K : St2 → Nat → Option R)
  (hstep : ∀ self f a d, f < L.length → d ≤ f → InvD r a d → ∃ Fi : (Int → Option R) → Int → Option R, F self (st f a d) = fixN Fi fuelH (f : Int) ∧
   (∀ s (k : Nat), k < L.length → ¬ endB L k → Fi s (k : Int) = s ((k + 1 : Nat) : Int)) ∧
   (∀ s (k : Nat) j, f ≤ k → k < L.length → endB L k → joinS (segL L f k) = some j → Fi s (k : Int) = match subJ r a d j with
    | .inl e => E f e
    | .inr a' => self (st (k + 1) a' (d + 1))))
  (hfin : ∀ self a d, d ≤ L.length → InvD r a d → F self (st L.length a d) = K a d) :
  ∀ (fuel f : Nat) (a : St2) (d : Nat), f ≤ L.length → L.length - f < fuel → d ≤ f → InvD r a d → fixN F fuel (st f a d) = outD E K (decS L r (L.length - f) f f a d)
 | 0, f, a, d, _, h, _, _ => by omega
 | fuel + 1, f, a, d, hf, h, hdf, hI => by
  rw [fixN_s]
  by_cases hl : f < L.length
  ·obtain ⟨Fi, h1, h2, h3⟩ := hstep (fixN F fuel) f a d hl hdf hI
   rw [h1]
   have inner : ∀ (m k fu : Nat), k + m = L.length → f ≤ k → m < fu → 0 < m → fixN Fi fu (k : Int) = outD E K (decS L r m f k a d) := by
    intro m
    induction m with
    | zero => intro k fu _ _ _ h; omega
    | succ m ih =>
     intro k fu hk hfk hfu _
     obtain ⟨fu, rfl⟩ : ∃ n, fu = n + 1 := ⟨fu - 1, by omega⟩
     rw [fixN_s]
     simp only [decS]
     by_cases he : endB L k
     ·rw [if_pos he]
      obtain ⟨j, hj, hg⟩ := seg_join hL f k
      rw [h3 _ k j hfk (by omega) he hj, hj]
      simp only
      cases hs : subJ r a d j with
      | inl e => rfl
      | inr a' =>
       have := dec_prog hL st E K hstep hfin fuel (k + 1) a' (d + 1) (by omega) (by omega) (by omega) (sub_inv hI hg hs)
       have e : L.length - (k + 1) = m := by omega
       rw [e] at this
       exact this
     ·rw [if_neg he, h2 _ k (by omega) he]
      have hne : ¬ k + 1 = L.length := fun h => he (.inl h)
      exact ih (k + 1) fu (by omega) (by omega) (by omega) (by omega)
   exact inner (L.length - f) f fuelH (by omega) (Nat.le_refl _) (by have := fuelH_eq; have := hL.1; omega) (by omega)
  ·obtain rfl : f = L.length := by omega
   rw [hfin _ _ _ (by omega) hI, Nat.sub_self]
   rfl
end
end Go.Mo
end

section
/-
  Plain facts: events in document order, both sides.
-/
namespace Go.Mo
open Go Go.W Go.Lib
set_option maxRecDepth 100000
noncomputable section
def evz : Ev := ((0 : Int), (((0 : Int), (0 : Int)), ([], ((0 : UInt8), ([], [])))))
def kS (x : Ev) (out : List Ev) : Nat → Nat
 | 0 => 0
 | k + 1 => if lessE x (lget out k evz) then kS x out k else k + 1
def insE (out : List Ev) (x : Ev) : List Ev := out.take (kS x out out.length) ++ x :: out.drop (kS x out out.length)
def sortE (l : List Ev) : List Ev := l.foldl insE []
theorem kS_le (x : Ev) (out : List Ev) : ∀ k, kS x out k ≤ k
 | 0 => Nat.le_refl _
 | k + 1 => by
  simp only [kS]
  split
  ·have := kS_le x out k; omega
  ·exact Nat.le_refl _
theorem insE_len (out : List Ev) (x : Ev) : (insE out x).length = out.length + 1 := by
 have := kS_le x out out.length
 unfold insE
 rw [List.length_append, List.length_cons, List.length_take, List.length_drop]
 omega
theorem sort_len (l : List Ev) : (sortE l).length = l.length := by
 have : ∀ (l out : List Ev), (l.foldl insE out).length = out.length + l.length := by
  intro l
  induction l with
  | nil => intro out; rfl
  | cons x l ih => intro out; rw [List.foldl_cons, ih, insE_len, List.length_cons]; omega
 have := this l []
 simpa [sortE] using this
theorem sort_take (l : List Ev) (i : Nat) (h : i < l.length) : sortE (l.take (i + 1)) = insE (sortE (l.take i)) l[i] := by
 unfold sortE
 rw [List.take_succ_eq_append_getElem h, List.foldl_append]
 rfl
def tinyE (x : Ev) : Prop := x.2.2.2.2.2.length ≤ 1000000 ∧ ∀ r ∈ x.2.2.2.2.2, r.length ≤ 1000000
theorem clone_run {l : Row} (h : l.length ≤ 4000000) : q138 fuelH l = some l := by
 have h1 : grd (room (iadd (len ([] : Row)) (len l)) 40) (some (lapp ([] : Row) l)) = some l := by
  rw [grd_t (room_t (by simp only [iadd, len, List.length_nil]; omega))]; rfl
 unfold q138
 cases l with
 | nil =>
  rw [cnd_f (by rfl)]
  exact univ_of rfl h1
 | cons r l =>
  rw [cnd_t (ine_t (by simp only [len, List.length_cons]; omega))]
  exact h1
theorem style_clone {l : List Row} (hl : l.length ≤ 1000000) (h : ∀ r ∈ l, r.length ≤ 1000000) : q139 fuelH l = some l := by
 unfold q139
 rw [clone_rows (by omega), bnd_some', jn_e]
 refine loop_inv (n := l.length) (fun (a : List Row) (i : Nat) => ((i : Int), a)) (fun _ a => a = l) _ (fun self a i hi hI => ?_) (fun self a hI => ?_) fuelH 0 l (Nat.zero_le _) (by have := fuelH_eq; omega) rfl
 ·subst hI
  have hin : inb (i : Int) (len a) = true := inb_t (by simp only [len]; omega)
  have hr := h _ (List.getElem_mem hi)
  refine ⟨a, ?_, rfl⟩
  have ht : toN (i : Int) = i := by simp [toN]
  simp only
  rw [cnd_t (ilt_t (by simp only [len]; omega)), grd_t hin, lget_i hi, clone_run (by omega), bnd_some', grd_t hin, w64_succ hi (by omega), ht]
  unfold lset
  rw [List.set_getElem_self]
 ·simp only
  rw [cnd_f (ilt_f (by simp only [len]; omega)), hI]
theorem event_clone {x : Ev} (h : tinyE x) : q140 fuelH x = some x := by
 unfold q140
 rw [style_clone h.1 h.2]
 rfl
theorem evz_eq : ((0 : Int), (((0 : Int), (0 : Int)), ([], ((0 : UInt8), ([], []))))) = evz := rfl
end
end Go.Mo
end

section
/-
  Plain facts: the program's sorting of few events.
-/
namespace Go.Mo
open Go Go.W Go.Lib
set_option maxRecDepth 100000
noncomputable section
theorem sort_cmp (a b : Ev) : ∃ v, q141 fuelH (a, b) = some v ∧ (v < 0 ↔ lessE a b) := by
 unfold q141
 simp only
 rw [cmp_eq, bnd_some', cmp_eq, bnd_some', or_eq, bnd_some']
 refine ⟨_, rfl, ?_⟩
 unfold lessE
 by_cases h1 : a.2.1.1 < b.2.1.1
 ·rw [if_pos h1, if_pos (by decide)]
  exact ⟨fun _ => .inl h1, fun _ => by decide⟩
 ·rw [if_neg h1]
  by_cases h2 : b.2.1.1 < a.2.1.1
  ·rw [if_pos h2, if_pos (by decide)]
   exact ⟨fun h => by omega, fun h => by omega⟩
  ·rw [if_neg h2, if_neg (by decide)]
   by_cases h3 : a.1 < b.1
   ·rw [if_pos h3]
    exact ⟨fun _ => .inr ⟨by omega, h3⟩, fun _ => by decide⟩
   ·rw [if_neg h3]
    split
    ·exact ⟨fun h => by omega, fun h => by omega⟩
    ·exact ⟨fun h => by omega, fun h => by omega⟩
theorem move_in {P rest : List Ev} {x : Ev} (hP : P.length + rest.length ≤ 1000) (K : List Ev → Option (List Ev)) (F : (Int × List Ev → Option (List Ev)) → Int × List Ev → Option (List Ev))
  (hz : ∀ s D, F s ((0 : Int), D) = K D)
  (hs : ∀ s (k : Nat) (D : List Ev), k + 1 < D.length → D.length ≤ 1001 → F s (((k + 1 : Nat) : Int), D) = if lessE (lget D (k + 1) evz) (lget D k evz) then s ((k : Int), (D.set (k + 1) (lget D k evz)).set k (lget D (k + 1) evz)) else K D) :
  ∀ (fuel k : Nat), k < fuel → k ≤ P.length → fixN F fuel ((k : Int), P.take k ++ x :: P.drop k ++ rest) = K (P.take (kS x P k) ++ x :: P.drop (kS x P k) ++ rest)
 | 0, k, h, _ => by omega
 | fuel + 1, 0, _, _ => by rw [fixN_s, show ((0 : Nat) : Int) = 0 from rfl, hz]; rfl
 | fuel + 1, k + 1, h, hk => by
  have hl : (P.take (k + 1)).length = k + 1 := by rw [List.length_take]; omega
  have hD : (P.take (k + 1) ++ x :: P.drop (k + 1) ++ rest).length = P.length + 1 + rest.length := by
   rw [List.length_append, List.length_append, List.length_cons, hl, List.length_drop]; omega
  have hk' : k < P.length := by omega
  have et : P.take (k + 1) = P.take k ++ [P[k]] := List.take_succ_eq_append_getElem hk'
  have hlk : (P.take k).length = k := by rw [List.length_take]; omega
  have eD : P.take (k + 1) ++ x :: P.drop (k + 1) ++ rest = P.take k ++ (P[k] :: x :: (P.drop (k + 1) ++ rest)) := by
   rw [et]
   simp only [List.append_assoc, List.singleton_append, List.cons_append, List.nil_append]
  have g1 : lget (P.take (k + 1) ++ x :: P.drop (k + 1) ++ rest) (k + 1) evz = x := by
   rw [eD]
   unfold lget
   rw [List.getD_eq_getElem?_getD, List.getElem?_append_right (by omega), hlk, show k + 1 - k = 1 by omega]
   rfl
  have g0 : lget (P.take (k + 1) ++ x :: P.drop (k + 1) ++ rest) k evz = P[k] := by
   rw [eD]
   unfold lget
   rw [List.getD_eq_getElem?_getD, List.getElem?_append_right (by omega), hlk, Nat.sub_self]
   rfl
  have g2 : lget P k evz = P[k] := by
   unfold lget
   rw [List.getD_eq_getElem?_getD, List.getElem?_eq_getElem hk']
   rfl
  rw [fixN_s, hs _ k _ (by omega) (by omega), g1, g0]
  simp only [kS]
  rw [g2]
  by_cases hc : lessE x P[k]
  ·rw [if_pos hc, if_pos hc]
   have e2 : ((P.take (k + 1) ++ x :: P.drop (k + 1) ++ rest).set (k + 1) P[k]).set k x = P.take k ++ x :: P.drop k ++ rest := by
    rw [eD, List.set_append_right _ _ (by omega), hlk, show k + 1 - k = 1 by omega, List.set_append_right _ _ (by omega), hlk, Nat.sub_self]
    show P.take k ++ (x :: P[k] :: (P.drop (k + 1) ++ rest)) = _
    rw [List.drop_eq_getElem_cons hk']
    simp only [List.append_assoc, List.cons_append]
   rw [e2]
   exact move_in hP K F hz hs fuel k (by omega) (by omega)
  ·rw [if_neg hc, if_neg hc]
theorem ins_sort {l : List Ev} (hl : l.length ≤ 1000) : q142 fuelH (l, (0 : Int), len l) = some (sortE l) := by
 unfold q142
 simp only
 have h1 : w64 (iadd (0 : Int) (1 : Int)) = ((1 : Nat) : Int) := rfl
 rw [h1]
 by_cases h0 : l.length = 0
 ·have : l = [] := List.eq_nil_of_length_eq_zero h0
  subst this
  have := fuelH_eq
  obtain ⟨n, hn⟩ : ∃ n, fuelH = n + 1 := ⟨fuelH - 1, by omega⟩
  rw [hn, fixN_s]
  rfl
 refine loop_inv (n := l.length) (fun (a : List Ev) (i : Nat) => ((i : Int), a)) (fun i a => a = sortE (l.take i) ++ l.drop i) _ (fun self a i hi hI => ?_) (fun self a hI => ?_) fuelH 1 l (by omega) (by have := fuelH_eq; omega) ?_
 ·refine ⟨sortE (l.take (i + 1)) ++ l.drop (i + 1), ?_, rfl⟩
  have hPl : (sortE (l.take i)).length = i := by rw [sort_len, List.length_take]; omega
  have ha : a = (sortE (l.take i)).take i ++ l[i] :: (sortE (l.take i)).drop i ++ l.drop (i + 1) := by
   have e1 : (sortE (l.take i)).take i = sortE (l.take i) := List.take_of_length_le (by omega)
   have e2 : (sortE (l.take i)).drop i = [] := List.drop_eq_nil_of_le (by omega)
   rw [hI, e1, e2, List.drop_eq_getElem_cons hi]
   simp only [List.append_assoc, List.singleton_append, List.cons_append, List.nil_append]
  simp only
  rw [cnd_t (ilt_t (by simp only [len]; omega)), jn_e, ha]
  refine (move_in (P := sortE (l.take i)) (rest := l.drop (i + 1)) (x := l[i]) (by rw [hPl, List.length_drop]; omega) (fun D => self (((i + 1 : Nat) : Int), D)) _ (fun s D => ?_) (fun s k D hk hD => ?_) fuelH i (by have := fuelH_eq; omega) (by omega)).trans ?_
  ·rw [cnd_f (ilt_f (by show ¬ (0 : Int) < 0; omega)), w64_succ hi (by omega)]
  ·obtain ⟨v, hv, hv2⟩ := sort_cmp (lget D (k + 1) evz) (lget D k evz)
   have i1 : inb ((k + 1 : Nat) : Int) (len D) = true := inb_t (by simp only [len]; omega)
   have i0 : inb (k : Int) (len D) = true := inb_t (by simp only [len]; omega)
   have t1 : ∀ n : Nat, toN (n : Int) = n := fun n => by simp [toN]
   have hset : ∀ y, (lset D (k + 1) y).length = D.length := fun y => List.length_set
   have i2 : ∀ y, inb (k : Int) (len (lset D (k + 1) y)) = true := fun y => inb_t (by simp only [len, hset]; omega)
   simp only
   rw [cnd_t (ilt_t (by omega)), grd_t i1, w64_back (by omega), grd_t i0, t1, t1, evz_eq, hv, bnd_some', cnd_ilt]
   by_cases hc : lessE (lget D (k + 1) evz) (lget D k evz)
   ·rw [if_pos hc, if_pos (hv2.2 hc), grd_t i0, grd_t i1, grd_t i1, grd_t (i2 _)]
    rfl
   ·rw [if_neg hc, if_neg fun h => hc (hv2.1 h), w64_succ hi (by omega)]
  ·rw [sort_take l i hi]
   unfold insE
   rw [hPl]
 ·simp only
  rw [cnd_f (ilt_f (by simp only [len]; omega)), hI, List.take_length, List.drop_length, List.append_nil]
 ·cases l with
  | nil => exact absurd rfl h0
  | cons x l => rfl
theorem prog_sort {l : List Ev} (hl : l.length ≤ 19) (h : ∀ x ∈ l, tinyE x) : q148 fuelH l = some (sortE l) := by
 have hs : q147 fuelH l = some (sortE l) := by
  unfold q147 q146
  simp only
  obtain ⟨n, hn⟩ : ∃ n, fuelH = n + 1 := ⟨fuelH - 1, by have := fuelH_eq; omega⟩
  have e1 := ins_sort (l := l) (by omega)
  have step : ∀ (F : (Int × Int × List Ev → Option (List Ev)) → Int × Int × List Ev → Option (List Ev)) (s : Int × Int × List Ev) (R : Option (List Ev)), (∀ self, F self s = R) → fixN F fuelH s = R := fun F s R h => by rw [hn, fixN_s, h]
  have step2 : ∀ (F : (Int × List Ev → Option (List Ev)) → Int × List Ev → Option (List Ev)) (s : Int × List Ev) (R : Option (List Ev)), (∀ self, F self s = R) → fixN F fuelH s = R := fun F s R h => by rw [hn, fixN_s, h]
  rw [jn_e, step _ _ (some (sortE l)) fun self => by
   simp only
   rw [cnd_f (ile_f (by simp only [len]; omega)), e1, bnd_some']
   refine step2 _ _ _ fun self => ?_
   simp only
   rw [cnd_f (ilt_f (by simp only [len]; omega))]]
  rfl
 unfold q148
 rw [jn_e]
 refine loop_inv (n := l.length) (fun (a : List Ev) (i : Nat) => (a, (i : Int))) (fun i a => a = l.take i) _ (fun self a i hi hI => ?_) (fun self a hI => ?_) fuelH 0 [] (Nat.zero_le _) (by have := fuelH_eq; omega) rfl
 ·have ha : a.length ≤ i := by rw [hI, List.length_take]; omega
  refine ⟨a ++ [l[i]], ?_, by rw [hI, List.take_succ_eq_append_getElem hi]⟩
  simp only
  rw [cnd_t (ilt_t (by simp only [len]; omega)), grd_t (inb_t (by simp only [len]; omega)), lget_i hi, event_clone (h _ (List.getElem_mem hi)), bnd_some', grd_t (room_t (by simp only [iadd, len, List.length_singleton]; omega)), w64_succ hi (by omega)]
  rfl
 ·simp only
  rw [cnd_f (ilt_f (by simp only [len]; omega)), hI, List.take_length, hs]
  rfl
end
end Go.Mo
end

section
/-
  Plain facts: a file that is read, both sides; StlDecodes returns true.
-/
namespace Go.Mo
open Go Go.W Go.Lib
set_option maxRecDepth 100000
noncomputable section
def badH (h : Hdr) (d : Nat) : Prop := h.2.2.2.2.1 ≠ (d : Int) ∨ h.2.2.2.2.2.1 ≠ noL ∨ h.2.2.2.2.2.2.2.1 ≠ 15 ∨ h.2.2.2.2.2.2.2.2 ≠ 32
instance (h : Hdr) (d : Nat) : Decidable (badH h d) := by unfold badH; infer_instance
def decE (f : Nat) (e : Int) : Option (Doc × Int × Int) := some (noD, ((f + 1 : Nat) : Int), e)
def decK (h : Hdr) (a : St2) (d : Nat) : Option (Doc × Int × Int) := if badH h d then some (noD, 0, 1) else some ((h.2.2.1, h.2.1, h.1, false, (a.2.length : Int), a.1, sortE a.2, []), 0, 0)
theorem lab_zero {r : UInt8} (h : r = 3 ∨ r = 5) : q90 fuelH (r, false, 0) = some (noL, 0) := by
 rcases h with rfl | rfl
 ·kernel_rfl
 ·kernel_rfl
theorem lbl_dec (l : Lbl) : (band (ieq l.1 (0 : Int)) (band (ieq l.2.1 (0 : Int)) (band (ieq l.2.2.1 (0 : Int)) (band (ieq l.2.2.2.1 (0 : Int)) (beqb l.2.2.2.2 false))))) = decide (l = noL) := by
 rw [Bool.eq_iff_iff]
 simp only [band_tt, ieq_tt, beqb_t, decide_eq_true_eq]
 obtain ⟨a, b, c, d, e⟩ := l
 unfold noL
 simp
theorem fin_eq (h : Hdr) (a : St2) (d : Nat) (S : Option (List Ev)) (hS : h.2.2.2.2.1 = (d : Int) → S = some (sortE a.2)) (X : List Ev → Doc) (hX : X (sortE a.2) = (h.2.2.1, h.2.1, h.1, false, (a.2.length : Int), a.1, sortE a.2, [])) :
  cnd (ine h.2.2.2.2.1 (d : Int)) (some (noD, (0 : Int), (1 : Int))) (cnd (bnot (band (ieq h.2.2.2.2.2.1.1 (0 : Int)) (band (ieq h.2.2.2.2.2.1.2.1 (0 : Int)) (band (ieq h.2.2.2.2.2.1.2.2.1 (0 : Int)) (band (ieq h.2.2.2.2.2.1.2.2.2.1 (0 : Int)) (beqb h.2.2.2.2.2.1.2.2.2.2 false))))))
   (some (noD, (0 : Int), (1 : Int))) (cnd (ine h.2.2.2.2.2.2.2.1 (15 : Int)) (some (noD, (0 : Int), (1 : Int))) (cnd (ine h.2.2.2.2.2.2.2.2 (32 : Int)) (some (noD, (0 : Int), (1 : Int)))
   (bnd S fun v3 => some (X v3, (0 : Int), (0 : Int)))))) = decK h a d := by
 unfold decK
 rw [lbl_dec]
 by_cases c1 : h.2.2.2.2.1 ≠ (d : Int)
 ·rw [cnd_t (ine_t c1), if_pos (show badH h d from Or.inl c1)]
 rw [cnd_f (ine_f (by simpa using c1)), cnd_bnot]
 by_cases c2 : h.2.2.2.2.2.1 = noL
 ·rw [if_pos c2]
  by_cases c3 : h.2.2.2.2.2.2.2.1 ≠ 15
  ·rw [cnd_t (ine_t c3), if_pos (show badH h d from Or.inr (Or.inr (Or.inl c3)))]
  rw [cnd_f (ine_f (by simpa using c3))]
  by_cases c4 : h.2.2.2.2.2.2.2.2 ≠ 32
  ·rw [cnd_t (ine_t c4), if_pos (show badH h d from Or.inr (Or.inr (Or.inr c4)))]
  rw [cnd_f (ine_f (by simpa using c4)), hS (by simpa using c1), bnd_some', hX, if_neg (show ¬ badH h d from ?_)]
  unfold badH
  rintro (k | k | k | k)
  ·exact c1 k
  ·exact k c2
  ·exact c3 k
  ·exact c4 k
 ·rw [if_neg c2, if_pos (show badH h d from Or.inr (Or.inl c2))]
theorem inv_tiny {r : UInt8} {a : St2} {d : Nat} (h : InvD r a d) : ∀ x ∈ a.2, tinyE x := fun x hx => by
 obtain ⟨_, _, _, h4, h5, h6, _⟩ := ev_ok (h.2.2.2.2.1 x hx).1
 refine ⟨by omega, fun q hq => ?_⟩
 have := (rowChk_ok (rowE_zero (h6 q hq)).1).1
 omega
theorem seg_cut {L : List Blk} (f k : Nat) : ldrop (toN (f : Int)) (ltake (toN ((k + 1 : Nat) : Int)) L) = segL L f k := by
 have t1 : ∀ n : Nat, toN (n : Int) = n := fun n => by simp [toN]
 rw [t1, t1]
 rfl
theorem stl_decode {x : List UInt8} {h : Hdr} {L : List Blk} (hread : q131 fuelH x = some (h, L, 0, 0)) (hr : h.1 = 3 ∨ h.1 = 5) (hL : goodL L) (hS : ∀ d : Nat, (d : Int) = h.2.2.2.2.1 → d ≤ L.length → d ≤ 19) :
  q149 fuelH x = outD decE (decK h) (decS L h.1 L.length 0 0 ([], []) 0) := by
 have hn := hL.1
 unfold q149
 rw [hread, bnd_some', cnd_f (ine_f rfl), jn_e]
 refine (dec_prog (R := Doc × Int × Int) hL (fun f a d => (L, (f : Int), ((h.2.2.1, h.2.1, h.1, false, (0 : Int), a.1, a.2, []), (d : Int)))) decE (decK h) (fun self f a d hf hdf hI => ?_) (fun self a d hd hI => ?_) fuelH 0 ([], []) 0 (Nat.zero_le _) (by have := fuelH_eq; omega) (Nat.le_refl _) (InvD_0 _)).trans (by rw [Nat.sub_zero])
 ·simp only
  have hlt : ilt (f : Int) (len L) = true := ilt_t (by simp only [len]; omega)
  rw [cnd_t hlt, jn_e]
  refine ⟨_, rfl, fun s k hk he => ?_, fun s k j hfk hk he hj => ?_⟩
  ·have h1 : ¬ k + 1 = L.length := fun e => he (.inl e)
   have h2 : n8 (lget L k bz).2.2.1 ≠ n8 (255 : UInt8) := fun e => he (.inr e)
   have ht : toN (k : Int) = k := by simp [toN]
   have hw : w64 (isub (len L) (1 : Int)) = ((L.length - 1 : Nat) : Int) := w64_pred (by omega) (by omega)
   rw [hw, cnd_t (ilt_t (by omega)), grd_t (inb_t (by simp only [len]; omega)), w64_succ hk (by omega), ht]
   exact cnd_t (ine_t h2)
  ·have ht : toN (k : Int) = k := by simp [toN]
   have hw : w64 (isub (len L) (1 : Int)) = ((L.length - 1 : Nat) : Int) := w64_pred (by omega) (by omega)
   obtain ⟨q1, q2, q3, _⟩ := hI
   obtain ⟨j', hj', hsame⟩ := sub_stl hr h.2.2.1 h.2.1 (a := a) (done := d) (l := segL L f k) (by omega) q1 (by omega) q3 (by have := seg_len L f k; omega) (fun b hb => hL.2 b (seg_mem b hb))
   rw [hj] at hj'
   injection hj' with hj'
   subst hj'
   have body : ∀ X : Option (Doc × Int × Int), X = (grd (in3 (f : Int) (w64 (iadd (k : Int) (1 : Int))) (len L)) <|
      bnd (q136 fuelH (((h.2.2.1, h.2.1, h.1, false, (0 : Int), a.1, a.2, []), (d : Int)), ldrop (toN (f : Int)) (ltake (toN (w64 (iadd (k : Int) (1 : Int)))) L))) fun v8 =>
      cnd (ine v8.1 (0 : Int)) (some (noD, w64 (iadd (f : Int) (1 : Int)), v8.1)) (self (L, w64 (iadd (k : Int) (1 : Int)), v8.2))) →
     X = match subJ h.1 a d j with
      | .inl e => decE f e
      | .inr a' => self (L, ((k + 1 : Nat) : Int), ((h.2.2.1, h.2.1, h.1, false, (0 : Int), a'.1, a'.2, []), ((d + 1 : Nat) : Int))) := fun X hX => by
    rw [hX, w64_succ hk (by omega), grd_t (in3_t (by simp only [len]; omega)), seg_cut, w64_succ hf (by omega)]
    cases hs : subJ h.1 a d j with
    | inl e =>
     rw [hs] at hsame
     obtain ⟨e0, o, p1, p2⟩ := hsame
     rw [p1, bnd_some', cnd_t (ine_t (by rw [p2]; exact e0)), p2]
     rfl
    | inr a' =>
     rw [hs] at hsame
     rw [show q136 fuelH _ = _ from hsame, bnd_some', cnd_f (ine_f rfl)]
   refine body _ ?_
   rcases he with he | he
   ·rw [hw, cnd_f (ilt_f (by omega))]
    rfl
   ·rw [hw, ht]
    by_cases hkl : k < L.length - 1
    ·rw [cnd_t (ilt_t (by omega)), grd_t (inb_t (by simp only [len]; omega))]
     exact cnd_f (ine_f he)
    ·rw [cnd_f (ilt_f (by omega))]
     rfl
 ·simp only
  rw [cnd_f (ilt_f (by simp only [len]; omega)), lab_zero hr, bnd_some']
  refine fin_eq h a d _ (fun e => prog_sort (by have := hS d e.symm hd; have := hI.2.1; omega) (inv_tiny hI)) (fun v3 => (h.2.2.1, h.2.1, h.1, false, len v3, a.1, v3, [])) ?_
  simp only [len, sort_len]
end
end Go.Mo
end

section
/-
  Plain facts: the blocks of a subtitle lead back to it.
-/
namespace Go.Mo
open Go Go.W Go.Lib
set_option maxRecDepth 100000
noncomputable section
theorem enc_tot : ∀ l : List Int, l.all inRep = true → (ofR l).length ≤ 4 * l.length
 | [], _ => Nat.le_refl _
 | r :: l, h => by
  rw [List.all_cons, Bool.and_eq_true] at h
  have h1 := enc_tot l h.2
  have h2 := enc_len4 h.1
  have e : ofR (r :: l) = enc r ++ ofR l := by unfold ofR; rw [List.flatMap_cons]
  rw [e, List.length_append, List.length_cons]
  omega
theorem tot_lenT : ∀ (l : Row), (∀ x ∈ l, vld x.1 = true) → tot l ≤ 4 * lenT l
 | [], _ => Nat.le_refl _
 | x :: l, h => by
  have h1 := tot_lenT l fun y hy => h y (List.mem_cons_of_mem _ hy)
  have hv := h x List.mem_cons_self
  have h2 := enc_tot (rns x.1) (rns_ok hv)
  rw [ofR_rns hv] at h2
  simp only [tot, lenT]
  omega
theorem cost_le {r : Row} (h : rowE r = 0) : cost r ≤ 176 := by
 obtain ⟨h1, _, h3⟩ := rowE_zero h
 obtain ⟨h4, h5⟩ := rowChk_ok h1
 have := tot_lenT r fun x hx => (h5 x hx).1
 rw [cost_eq]
 omega
theorem costL_le : ∀ l : List Row, (∀ r ∈ l, rowE r = 0) → costL l ≤ 177 * l.length
 | [], _ => Nat.le_refl _
 | r :: l, h => by
  have h1 := costL_le l fun q hq => h q (List.mem_cons_of_mem _ hq)
  have h2 := cost_le (h r List.mem_cons_self)
  simp only [costL, List.length_cons]
  omega
theorem textL_ok : ∀ (l : List Row) (b : Bool) (out : List UInt8), (∀ r ∈ l, rowChk r = 0) → (textL b l out).2 = 0
 | [], _, _, _ => rfl
 | r :: l, b, out, h => by
  simp only [textL]
  rw [if_neg (by rw [h r List.mem_cons_self]; simp)]
  exact textL_ok l _ _ fun q hq => h q (List.mem_cons_of_mem _ hq)
theorem rowsS_text {l : List Row} (h : ∀ q ∈ l, rowChk q = 0) (hs : smallL l) (hne : l.length ≠ 0) : rowsS (textL true l []).1 = (l.map back, 0) := by
 rcases textL_cases l true [] with ⟨_, h2⟩ | ⟨e, h1, h2⟩
 ·rw [h2]
  simp only [List.nil_append]
  cases l with
  | nil => exact absurd rfl hne
  | cons r l =>
   exact rows_text fun q hq y hy => by
    obtain ⟨_, k⟩ := rowChk_ok (h q hq)
    exact ⟨(k y hy).1, (k y hy).2.2.1, ((hs q hq).1 y hy).1⟩
 ·have := textL_ok l true [] h
  rw [h2] at this
  exact absurd this h1
theorem spl_zero {b : Blk} {t : List UInt8} (ht : t.length ≤ 4000000) (h : (splV b t).2 = 0) : (splV b t).1 = (List.range (nPc t)).map (pieceB b t) := by
 obtain ⟨e, h1, _, _⟩ := bput_both (setB b 0 [])
 have hs := split_tape ht h1
 unfold splV at h ⊢
 rw [hs] at h ⊢
 by_cases h0 : e ≠ 0
 ·rw [if_pos h0] at h; exact absurd h h0
 rw [if_neg h0] at h ⊢
 by_cases h1 : 26992 < t.length
 ·rw [if_pos h1] at h; exact absurd h (by simp)
 rw [if_neg h1] at h ⊢
 by_cases h2 : (143 : UInt8) ∈ t
 ·rw [if_pos h2] at h; exact absurd h (by simp)
 rw [if_neg h2]
 rfl
theorem put_chk {b : Blk} (h : tape_Put fuelH b = some (bby b, 0)) : chkV b = 0 := by
 obtain ⟨e, h1, _, h3⟩ := bput_both b
 have he : chkV b = e := by unfold chkV; rw [h1]; rfl
 rw [he]
 rcases h3 with ⟨k, k2, _⟩ | ⟨k, _⟩
 ·rw [h] at k2
  injection k2 with k2
  injection k2 with _ k2
  exact k2.symm
 ·exact k
theorem run_nil {α σ R : Type} {f : Nat → α → σ → Option R ⊕ σ} {e : σ → Option R} : ∀ (l : List α) (i : Nat) (a : σ), (∀ j (h : j < l.length), f (i + j) l[j] a = .inr a) → itI f e i l a = e a
 | [], _, _, _ => rfl
 | x :: l, i, a, h => by
  have h0 : f i x a = .inr a := h 0 (by simp)
  simp only [itI]
  rw [h0]
  exact run_nil l (i + 1) a fun j hj => by
   have := h (j + 1) (by simpa using hj)
   rwa [show i + (j + 1) = i + 1 + j by omega] at this
theorem ext_grp (b : Blk) {t : List UInt8} {i : Nat} (h : i < nPc t) (hn : nPc t ≤ 200) : n8 (pieceB b t i).2.2.1 = if i + 1 = nPc t then 255 else (i : Int) := by
 show n8 (if t.length ≤ 112 * (i + 1) then (255 : UInt8) else b8 (i : Int)) = _
 by_cases he : i + 1 = nPc t
 ·rw [if_pos he, if_pos (by unfold nPc at he; omega)]; rfl
 ·rw [if_neg he, if_neg (by unfold nPc at he h; omega), n8_b8 (by omega)]
theorem jr3_run (b : Blk) (t : List UInt8) (e : List UInt8 → Option Jn) : ∀ (k i : Nat), i + k = nPc t → itI (jR3 (nPc t)) e i ((List.range' i k).map (pieceB b t)) (t.take (112 * i)) = e t
 | 0, i, h => by
  show e (t.take (112 * i)) = e t
  rw [List.take_of_length_le (by unfold nPc at h; omega)]
 | k + 1, i, h => by
  have ht : (pieceB b t i).2.2.2.2.2.2.2.2.2 = (t.drop (112 * i)).take 112 := rfl
  have hl : (pieceB b t i).2.2.2.2.2.2.2.2.2.length = min 112 (t.length - 112 * i) := by rw [ht, List.length_take, List.length_drop]
  have hf : ¬ frmBad (nPc t) i (pieceB b t i) := by
   unfold frmBad
   rw [hl]
   unfold nPc at h ⊢
   omega
  rw [List.range'_succ, List.map_cons]
  simp only [itI, jR3]
  rw [if_neg hf]
  have := jr3_run b t e k (i + 1) (by omega)
  rw [show 112 * (i + 1) = 112 * i + 112 by omega, List.take_add, ← ht] at this
  exact this
theorem join_pieces {b : Blk} {t : List UInt8} (hp : ∀ i, i < nPc t → chkV (pieceB b t i) = 0) (hn : nPc t ≤ 200) : joinS ((List.range (nPc t)).map (pieceB b t)) = some (setB b 255 [], t, 0) := by
 obtain ⟨m, hm⟩ : ∃ m, nPc t = m + 1 := ⟨nPc t - 1, by unfold nPc; omega⟩
 have hG : (List.range (nPc t)).map (pieceB b t) = pieceB b t 0 :: (List.range m).map (fun i => pieceB b t (i + 1)) := by
  rw [hm, List.range_succ_eq_map, List.map_cons, List.map_map]
  rfl
 have hl : ((List.range m).map (fun i => pieceB b t (i + 1))).length + 1 = nPc t := by rw [List.length_map, List.length_range, hm]
 have hg : ∀ (i : Nat) (h : i < ((List.range (nPc t)).map (pieceB b t)).length), i < nPc t ∧ ((List.range (nPc t)).map (pieceB b t))[i] = pieceB b t i := fun i h => by
  refine ⟨by simpa using h, by simp⟩
 rw [hG, joinS_cons, hl, ← hG]
 refine (run_nil _ 0 () fun j hj => ?_).trans ((run_nil _ 0 () fun j hj => ?_).trans ?_)
 ·obtain ⟨h1, h2⟩ := hg j hj
  rw [h2]
  unfold jR1
  rw [if_neg (by rw [hp j h1]; simp)]
 ·obtain ⟨h1, h2⟩ := hg j hj
  rw [h2, Nat.zero_add]
  unfold jR2
  rw [if_neg]
  intro hk
  unfold ordBad at hk
  rw [ext_grp b h1 hn] at hk
  rcases hk with k | k
  ·by_cases he : j + 1 = nPc t
   ·rw [if_pos he, if_pos he] at k; exact k rfl
   ·rw [if_neg he, if_neg he] at k; exact k rfl
  ·rw [al_self (pieceB b t 0) (pieceB b t j) _ _ rfl] at k
   cases k
 ·have := jr3_run b t (fun a => some (setB (pieceB b t 0) 255 [], a, 0)) (nPc t) 0 (Nat.zero_add _)
  rw [← List.range_eq_range'] at this
  exact this
theorem at_grp {pre rest : List Blk} {b : Blk} {t : List UInt8} {i : Nat} (h : i < nPc t) : lget (pre ++ ((List.range (nPc t)).map (pieceB b t) ++ rest)) (pre.length + i) bz = pieceB b t i := by
 unfold lget
 rw [List.getD_eq_getElem?_getD, List.getElem?_append_right (by omega), Nat.add_sub_cancel_left, List.getElem?_append_left (by simpa using h), List.getElem?_map, List.getElem?_range h]
 rfl
theorem dec_grp {pre rest : List Blk} {b : Blk} {t : List UInt8} (r : UInt8) (hn : nPc t ≤ 200) (hp : ∀ i, i < nPc t → chkV (pieceB b t i) = 0) (a : St2) (d : Nat) :
  ∀ (q i : Nat), i + (q + 1) = nPc t → decS (pre ++ ((List.range (nPc t)).map (pieceB b t) ++ rest)) r (q + 1 + rest.length) pre.length (pre.length + i) a d = match subJ r a d (setB b 255 [], t, 0) with
   | .inl e => .inl (pre.length, e)
   | .inr a' => decS (pre ++ ((List.range (nPc t)).map (pieceB b t) ++ rest)) r rest.length (pre.length + nPc t) (pre.length + nPc t) a' (d + 1)
 | 0, i, h => by
  have hx := ext_grp b (i := i) (t := t) (by omega) hn
  rw [if_pos (by omega)] at hx
  have he : endB (pre ++ ((List.range (nPc t)).map (pieceB b t) ++ rest)) (pre.length + i) := by
   refine .inr ?_
   rw [at_grp (by omega), hx]
   rfl
  have hseg : segL (pre ++ ((List.range (nPc t)).map (pieceB b t) ++ rest)) pre.length (pre.length + i) = (List.range (nPc t)).map (pieceB b t) := by
   unfold segL
   have hl : ((List.range (nPc t)).map (pieceB b t)).length = nPc t := by rw [List.length_map, List.length_range]
   rw [← List.append_assoc, List.take_append_of_le_length (by rw [List.length_append, hl]; omega), List.take_of_length_le (by rw [List.length_append, hl]; omega), List.drop_left]
  rw [show 0 + 1 + rest.length = rest.length + 1 by omega]
  simp only [decS]
  rw [if_pos he, hseg, join_pieces hp hn, show pre.length + i + 1 = pre.length + nPc t by omega]
  all_goals (simp only; cases subJ r a d (setB b 255 [], t, 0) <;> rfl)
 | q + 1, i, h => by
  have hx := ext_grp b (i := i) (t := t) (by omega) hn
  rw [if_neg (by omega)] at hx
  have he : ¬ endB (pre ++ ((List.range (nPc t)).map (pieceB b t) ++ rest)) (pre.length + i) := by
   rintro (k | k)
   ·rw [List.length_append, List.length_append, List.length_map, List.length_range] at k
    omega
   ·rw [at_grp (by omega), hx] at k
    have e : n8 (255 : UInt8) = 255 := rfl
    rw [e] at k
    omega
  have := dec_grp (pre := pre) (rest := rest) r hn hp a d q (i + 1) (by omega)
  rw [show q + 1 + 1 + rest.length = (q + 1 + rest.length) + 1 by omega]
  simp only [decS]
  rw [if_neg he, ← this]
  rfl
theorem frm_lab {r : UInt8} {f : Int} (h0 : 0 ≤ f) (h1 : f < dayOf r) : frmS (nomOf r) (labS r f).1 = (f, 0) := by
 have hd := day_bd r
 unfold labS
 rw [if_neg (by omega), if_neg (by omega)]
 have key : ∀ n : Int, n = 25 ∨ n = 30 → frmS n (labOf n f) = (f, 0) := fun n hn => by
  unfold labOf idiv imod
  have e0 : f.tdiv n = f / n := Int.tdiv_eq_ediv_of_nonneg h0
  have e1 : f.tmod n = f % n := Int.tmod_eq_emod_of_nonneg h0
  have hq : 0 ≤ f / n ∧ f / n ≤ 2592000 := by rcases hn with rfl | rfl <;> omega
  rw [e0, e1, w64_id (x := f / n) (by omega), Int.tdiv_eq_ediv_of_nonneg hq.1, Int.tdiv_eq_ediv_of_nonneg hq.1, Int.tmod_eq_emod_of_nonneg hq.1, w64_id (x := f / n / 3600) (by omega), w64_id (x := f / n / 60) (by omega), Int.tmod_eq_emod_of_nonneg (by omega)]
  unfold frmS valL
  simp only
  rcases hn with rfl | rfl
  ·rw [if_pos (by omega)]
   congr 1
   omega
  ·rw [if_pos (by omega)]
   congr 1
   omega
 exact key _ (nom_or r)
theorem sub_ev {d : Doc} {x : Ev} {a : St2} {i : Nat} (hx : evChk x d.2.2.2.2.2.1 = 0) (hd : x.2.1.2 < dayOf d.2.2.1) (hs : smallL x.2.2.2.2.2) (hi : a.2.length = i) (h16 : (addS a.1 (regOf (placeE x d.2.2.2.2.2.1))).length ≤ 16) (hc : evChk (evR d.2.2.2.2.2.1 i x) (addS a.1 (regOf (placeE x d.2.2.2.2.2.1))) = 0) :
  subJ d.2.2.1 a i (setB (encB d i x) 255 [], (textL true x.2.2.2.2.2 []).1, 0) = .inr (addS a.1 (regOf (placeE x d.2.2.2.2.2.1)), a.2 ++ [evR d.2.2.2.2.2.1 i x]) := by
 obtain ⟨_, _, h3, h4, h5, h6, _⟩ := ev_ok hx
 have hR := rowsS_text (l := x.2.2.2.2.2) (fun q hq => (rowE_zero (h6 q hq)).1) hs (by omega)
 have f1 := frm_lab (r := d.2.2.1) (f := x.2.1.1) h3.1 (by omega)
 have f2 := frm_lab (r := d.2.2.1) (f := x.2.1.2) (by omega) hd
 have hE : evJ d.2.2.1 a.2.length (setB (encB d i x) 255 [], (textL true x.2.2.2.2.2 []).1, 0) = evR d.2.2.2.2.2.1 i x := by
  unfold evJ
  show (((a.2.length + 1 : Nat) : Int), ((frmS (nomOf d.2.2.1) (labS d.2.2.1 x.2.1.1).1).1, (frmS (nomOf d.2.2.1) (labS d.2.2.1 x.2.1.2).1).1), (regOf (placeE x d.2.2.2.2.2.1)).1, (1 : UInt8), ([] : List UInt8), (rowsS (textL true x.2.2.2.2.2 []).1).1) = evR d.2.2.2.2.2.1 i x
  rw [f1, f2, hR, hi]
  rfl
 have hG : regJ a.1 (setB (encB d i x) 255 [], (textL true x.2.2.2.2.2 []).1, 0) = addS a.1 (regOf (placeE x d.2.2.2.2.2.1)) := rfl
 unfold subJ
 rw [hE, hG]
 have e1 : (frmS (nomOf d.2.2.1) (setB (encB d i x) 255 []).2.2.2.2.1).2 = 0 := by
  show (frmS (nomOf d.2.2.1) (labS d.2.2.1 x.2.1.1).1).2 = 0
  rw [f1]
 have e2 : (frmS (nomOf d.2.2.1) (setB (encB d i x) 255 []).2.2.2.2.2.1).2 = 0 := by
  show (frmS (nomOf d.2.2.1) (labS d.2.2.1 x.2.1.2).1).2 = 0
  rw [f2]
 refine (if_neg fun k => k rfl).trans ((if_neg fun k => k rfl).trans ((if_neg fun k => k rfl).trans ((if_neg fun k => k rfl).trans ((if_neg (by show ¬ (false = true); simp)).trans ((if_neg (not_not_intro e1)).trans ((if_neg (not_not_intro e2)).trans ((if_neg fun k => k (by rw [hR])).trans ((if_neg (by omega)).trans (if_neg (not_not_intro hc))))))))))
end
end Go.Mo
end

section
/-
  Plain facts: the file of an accepted document is read as the reduced document; StlCarries returns true.
-/
namespace Go.Mo
open Go Go.W Go.Lib
set_option maxRecDepth 100000
noncomputable section
theorem regsR_app {rs : List Reg} : ∀ (l m : List Ev) (a : List Reg), regsR rs (l ++ m) a = regsR rs m (regsR rs l a)
 | [], _, _ => rfl
 | x :: l, m, a => regsR_app l m _
theorem evsR_app {rs : List Reg} : ∀ (l m : List Ev) (i : Nat), evsR rs i (l ++ m) = evsR rs i l ++ evsR rs (i + l.length) m
 | [], m, i => rfl
 | x :: l, m, i => by
  simp only [List.cons_append, evsR, List.length_cons]
  rw [evsR_app l m (i + 1), show i + 1 + l.length = i + (l.length + 1) by omega]
theorem addS_grow : ∀ (l : List Reg) (r : Reg), l.length ≤ (addS l r).length
 | [], _ => Nat.zero_le _
 | x :: l, r => by
  have := addS_grow l r
  simp only [addS]
  split
  ·simp only [List.length_cons]; omega
  ·split
   ·exact Nat.le_refl _
   ·simp only [List.length_cons]; omega
theorem regsR_grow {rs : List Reg} : ∀ (l : List Ev) (a : List Reg), a.length ≤ (regsR rs l a).length
 | [], _ => Nat.le_refl _
 | x :: l, a => Nat.le_trans (addS_grow a _) (regsR_grow l _)
def txtE (x : Ev) : List UInt8 := (textL true x.2.2.2.2.2 []).1
def grpL (d : Doc) : Nat → List Ev → List Blk
 | _, [] => []
 | i, x :: l => (encS d i x).1 ++ grpL d (i + 1) l
def okG (d : Doc) (i : Nat) (l : List Ev) : Prop := ∀ j (h : j < l.length), (encS d (i + j) l[j]).2 = 0
theorem enc_run {d : Doc} : ∀ (l : List Ev) (i : Nat) (a : List Blk × Hdr), (∃ e, e ≠ 0 ∧ itI (encRnd d) encE i l a = some ([], e)) ∨ (okG d i l ∧ ∃ f, itI (encRnd d) encE i l a = encE (a.1 ++ grpL d i l, setF a.2 f))
 | [], i, a => .inr ⟨fun j h => absurd h (by simp), a.2.2.2.2.2.2.2.1, by
  show encE a = encE (a.1 ++ [], a.2)
  rw [List.append_nil]⟩
 | x :: l, i, a => by
  simp only [itI, encRnd]
  by_cases h0 : (encS d i x).2 ≠ 0
  ·rw [if_pos h0]
   exact .inl ⟨_, h0, rfl⟩
  ·rw [if_neg h0]
   rcases enc_run (d := d) l (i + 1) (a.1 ++ (encS d i x).1, if i = 0 then setF a.2 (labS d.2.2.1 x.2.1.1).1 else a.2) with ⟨e, h1, h2⟩ | ⟨h1, f, h2⟩
   ·exact .inl ⟨e, h1, h2⟩
   ·refine .inr ⟨fun j hj => ?_, f, h2.trans ?_⟩
    ·cases j with
     | zero => simpa using h0
     | succ j =>
      have := h1 j (by simpa using hj)
      rwa [show i + 1 + j = i + (j + 1) by omega] at this
    ·simp only [grpL]
     rw [List.append_assoc]
     split <;> rfl
structure EvOk (d : Doc) (x : Ev) : Prop where
 chk : evChk x d.2.2.2.2.2.1 = 0
 day : x.2.1.2 < dayOf d.2.2.1
 sml : smallL x.2.2.2.2.2
theorem txt_len {d : Doc} {x : Ev} (h : EvOk d x) : (txtE x).length ≤ 708 := by
 obtain ⟨_, _, _, _, h5, h6, _⟩ := ev_ok h.chk
 have h1 := textL_len x.2.2.2.2.2 true []
 have h2 := costL_le x.2.2.2.2.2 h6
 simp only [List.length_nil, Nat.zero_add] at h1
 unfold txtE
 omega
theorem txt_n {d : Doc} {x : Ev} (h : EvOk d x) : nPc (txtE x) ≤ 8 ∧ 1 ≤ nPc (txtE x) := by
 have := txt_len h
 unfold nPc
 omega
theorem grp_eq {d : Doc} {x : Ev} (h : EvOk d x) {i : Nat} (h0 : (encS d i x).2 = 0) : (encS d i x).1 = (List.range (nPc (txtE x))).map (pieceB (encB d i x) (txtE x)) := spl_zero (by have := txt_len h; unfold txtE at this; omega) h0
theorem grp_len {d : Doc} : ∀ (l : List Ev) (i : Nat), (∀ x ∈ l, EvOk d x) → okG d i l → (grpL d i l).length ≤ 8 * l.length ∧ l.length ≤ (grpL d i l).length
 | [], _, _, _ => ⟨Nat.le_refl _, Nat.le_refl _⟩
 | x :: l, i, h, hg => by
  have hx := h x List.mem_cons_self
  have h0 : (encS d i x).2 = 0 := hg 0 (by simp)
  obtain ⟨h1, h2⟩ := grp_len l (i + 1) (fun y hy => h y (List.mem_cons_of_mem _ hy)) fun j hj => by
   have := hg (j + 1) (by simpa using hj)
   rwa [show i + (j + 1) = i + 1 + j by omega] at this
  obtain ⟨n1, n2⟩ := txt_n hx
  simp only [grpL, List.length_append, List.length_cons]
  rw [grp_eq hx h0, List.length_map, List.length_range]
  omega
theorem dec_evs {d : Doc} (h16 : (regsR d.2.2.2.2.2.1 d.2.2.2.2.2.2.1 []).length ≤ 16) (hlen : d.2.2.2.2.2.2.1.length ≤ 100) (hE : ∀ x ∈ d.2.2.2.2.2.2.1, EvOk d x) :
  ∀ (l done : List Ev) (pre L : List Blk), d.2.2.2.2.2.2.1 = done ++ l → L = pre ++ grpL d done.length l → (∀ b ∈ L, chkV b = 0) → okG d done.length l →
   decS L d.2.2.1 (grpL d done.length l).length pre.length pre.length (regsR d.2.2.2.2.2.1 done [], evsR d.2.2.2.2.2.1 0 done) done.length = .inr ((regsR d.2.2.2.2.2.1 d.2.2.2.2.2.2.1 [], evsR d.2.2.2.2.2.1 0 d.2.2.2.2.2.2.1), d.2.2.2.2.2.2.1.length)
 | [], done, pre, L, hl, hL, _, _ => by
  rw [List.append_nil] at hl
  rw [hl]
  rfl
 | x :: l, done, pre, L, hl, hL, hc, hg => by
  have hxm : x ∈ d.2.2.2.2.2.2.1 := by rw [hl]; simp
  have hx := hE x hxm
  have h0 : (encS d done.length x).2 = 0 := hg 0 (by simp)
  have hgrp := grp_eq hx h0
  obtain ⟨n1, n2⟩ := txt_n hx
  have eL : grpL d done.length (x :: l) = (List.range (nPc (txtE x))).map (pieceB (encB d done.length x) (txtE x)) ++ grpL d (done.length + 1) l := by
   simp only [grpL]
   rw [hgrp]
  have hlen2 : (grpL d done.length (x :: l)).length = nPc (txtE x) + (grpL d (done.length + 1) l).length := by
   rw [eL, List.length_append, List.length_map, List.length_range]
  have hdl : done.length + 1 + l.length = d.2.2.2.2.2.2.1.length := by rw [hl, List.length_append, List.length_cons]; omega
  rw [eL] at hL
  have hp : ∀ i, i < nPc (txtE x) → chkV (pieceB (encB d done.length x) (txtE x) i) = 0 := fun i hi => hc _ (by
   rw [hL]
   exact List.mem_append_right _ (List.mem_append_left _ (List.mem_map.2 ⟨i, List.mem_range.2 hi, rfl⟩)))
  obtain ⟨q, hq⟩ : ∃ q, nPc (txtE x) = q + 1 := ⟨nPc (txtE x) - 1, by omega⟩
  have hstep := dec_grp (pre := pre) (rest := grpL d (done.length + 1) l) d.2.2.1 (by omega) hp (regsR d.2.2.2.2.2.1 done [], evsR d.2.2.2.2.2.1 0 done) done.length q 0 (by omega)
  have hr1 : regsR d.2.2.2.2.2.1 (done ++ [x]) [] = addS (regsR d.2.2.2.2.2.1 done []) (regOf (placeE x d.2.2.2.2.2.1)) := by rw [regsR_app]; rfl
  have hr2 : evsR d.2.2.2.2.2.1 0 (done ++ [x]) = evsR d.2.2.2.2.2.1 0 done ++ [evR d.2.2.2.2.2.1 done.length x] := by rw [evsR_app, Nat.zero_add]; rfl
  have hgd : goodE d.2.2.2.2.2.1 (done ++ [x]) := fun y hy => (hE y (by
   rw [hl]
   rcases List.mem_append.1 hy with hy | hy
   ·exact List.mem_append_left _ hy
   ·rw [List.mem_singleton.1 hy]; simp)).chk
  have hsub := sub_ev (d := d) (x := x) (a := (regsR d.2.2.2.2.2.1 done [], evsR d.2.2.2.2.2.1 0 done)) (i := done.length) hx.chk hx.day hx.sml (evsR_len _ _ _) (by
   show (addS (regsR d.2.2.2.2.2.1 done []) _).length ≤ 16
   rw [← hr1]
   have := regsR_grow (rs := d.2.2.2.2.2.1) l (regsR d.2.2.2.2.2.1 (done ++ [x]) [])
   rw [← regsR_app, List.append_assoc, List.singleton_append, ← hl] at this
   omega) (by
   show evChk _ (addS (regsR d.2.2.2.2.2.1 done []) _) = 0
   rw [← hr1]
   exact evR_chk hgd (by simp) (by omega))
  have ih := dec_evs h16 hlen hE l (done ++ [x]) (pre ++ (List.range (nPc (txtE x))).map (pieceB (encB d done.length x) (txtE x))) L (by rw [hl, List.append_assoc, List.singleton_append]) (by rw [hL, List.length_append, List.length_singleton, List.append_assoc]) hc (by
   intro j hj
   have := hg (j + 1) (by simpa using hj)
   rwa [show done.length + (j + 1) = (done ++ [x]).length + j by rw [List.length_append, List.length_singleton]; omega] at this)
  rw [hr1, hr2] at ih
  simp only [List.length_append, List.length_singleton, List.length_map, List.length_range] at ih
  rw [hlen2, hq, hL]
  rw [hL] at ih
  rw [show q + 1 + (grpL d (done.length + 1) l).length = q + 1 + (grpL d (done.length + 1) l).length from rfl]
  refine hstep.trans ?_
  rw [show (textL true x.2.2.2.2.2 []).1 = txtE x from rfl] at hsub
  rw [hsub]
  exact ih
theorem ins_id {out : List Ev} {x : Ev} (h : ∀ y, out.getLast? = some y → ¬ lessE x y) : insE out x = out ++ [x] := by
 have hk : kS x out out.length = out.length := by
  cases hn : out.length with
  | zero => rfl
  | succ n =>
   simp only [kS]
   rw [if_neg]
   refine h _ ?_
   have hlt : n < out.length := by omega
   rw [List.getLast?_eq_getElem?, show out.length - 1 = n by omega, List.getElem?_eq_getElem hlt]
   unfold lget
   rw [List.getD_eq_getElem?_getD, List.getElem?_eq_getElem hlt]
   rfl
 unfold insE
 rw [hk, List.take_length, List.drop_length]
theorem less_asym {a b : Ev} (h : lessE a b) : ¬ lessE b a := by unfold lessE at *; omega
theorem sort_id {l : List Ev} (h : l.Pairwise lessE) : sortE l = l := by
 have key : ∀ n, n ≤ l.length → sortE (l.take n) = l.take n := by
  intro n
  induction n with
  | zero => intro _; rfl
  | succ n ih =>
   intro hn
   rw [sort_take l n (by omega), ih (by omega), ins_id, List.take_succ_eq_append_getElem (by omega)]
   intro y hy
   cases n with
   | zero => cases hy
   | succ n =>
    rw [last_take (by omega)] at hy
    injection hy with hy
    rw [← hy]
    exact less_asym (List.pairwise_iff_getElem.1 h n (n + 1) (by omega) (by omega) (by omega))
 have := key l.length (Nat.le_refl _)
 rwa [List.take_length] at this
theorem chain_pw : ∀ l : List Ev, (∀ i (h : i + 1 < l.length), lessE l[i] l[i + 1]) → l.Pairwise lessE
 | [], _ => List.Pairwise.nil
 | [x], _ => List.pairwise_singleton _ _
 | x :: y :: l, h => by
  have ih := chain_pw (y :: l) fun i hi => h (i + 1) (by simpa using hi)
  have h0 : lessE x y := h 0 (by simp)
  refine List.pairwise_cons.2 ⟨fun z hz => ?_, ih⟩
  rcases List.mem_cons.1 hz with rfl | hz
  ·exact h0
  ·have := (List.pairwise_cons.1 ih).1 z hz
   unfold lessE at *
   omega
theorem evs_sorted {d : Doc} (h : evsChk d = 0) : (evsR d.2.2.2.2.2.1 0 d.2.2.2.2.2.2.1).Pairwise lessE := by
 have hz := errL_zero _ _ h
 refine chain_pw _ fun k hk => ?_
 have hl := evsR_len d.2.2.2.2.2.1 d.2.2.2.2.2.2.1 0
 have h1 : k + 1 < d.2.2.2.2.2.2.1.length := by omega
 have h2 : k < d.2.2.2.2.2.2.1.length := by omega
 rw [evsR_at _ _ k h2 (by omega), evsR_at _ _ (k + 1) h1 hk]
 have := (evRnd_ok (hz (k + 1) h1)).2.2.1
 rw [List.nil_append, last_take h2] at this
 simp only [ordB, decide_eq_true_eq] at this
 unfold lessE at this ⊢
 show (d.2.2.2.2.2.2.1[k]).2.1.1 < (d.2.2.2.2.2.2.1[k + 1]).2.1.1 ∨ ((d.2.2.2.2.2.2.1[k]).2.1.1 = (d.2.2.2.2.2.2.1[k + 1]).2.1.1 ∧ ((k + 1 : Nat) : Int) < ((k + 1 + 1 : Nat) : Int))
 omega
theorem drop_no {d : Doc} (h : headChk d = 0) (hr : d.2.2.1 = 3 ∨ d.2.2.1 = 5) : d.2.2.2.1 = false := by
 unfold headChk at h
 split at h
 ·cases h
 split at h
 ·cases h
 split at h
 ·cases h
 split at h
 ·cases h
 rename_i c
 cases hd : d.2.2.2.1 with
 | false => rfl
 | true =>
  rw [hd] at c
  exfalso
  apply c
  rcases hr with e | e
  ·rw [e]; unfold rateBad; decide
  ·rw [e]; unfold rateBad; decide
theorem acc_day {rs : List Reg} {day : Int} : ∀ (l : List Ev) (i : Nat) (a : List Reg) (v : Int), itI (acceptRnd rs day) (fun _ => some (-1, 0)) i l a = some (v, 0) → ∀ x ∈ l, x.2.1.2 < day
 | [], _, _, _, _, x, hx => by cases hx
 | y :: l, i, a, v, h, x, hx => by
  simp only [itI, acceptRnd] at h
  by_cases h1 : day ≤ y.2.1.2
  ·rw [if_pos h1] at h; simp at h
  rw [if_neg h1] at h
  by_cases h2 : 16 < (addS a (regOf (placeE y rs))).length
  ·rw [if_pos h2] at h; simp at h
  rw [if_neg h2] at h
  rcases List.mem_cons.1 hx with rfl | hx
  ·omega
  ·exact acc_day l (i + 1) _ v h x hx
theorem carry {d : Doc} {v : Int} (he : encOk d) (h5 : d.2.2.2.2.2.2.1.length ≤ 5) (hv : acceptS d = some (v, 0)) : (∃ e, e ≠ 0 ∧ encL d = some ([], e)) ∨ ∃ p, encL d = some (p, 0) ∧ q149 fuelH p = some (redF d, 0, 0) := by
 obtain ⟨h1, h2, h3, h4⟩ := acceptS_zero hv
 obtain ⟨hh, _, hes⟩ := doc_parts h1
 have hs := he.1
 have hg := (chk_evs h1).2
 have hE : ∀ x ∈ d.2.2.2.2.2.2.1, EvOk d x := fun x hx => ⟨hg x hx, acc_day _ _ _ _ h3 x hx, hs.2.2.1 x hx⟩
 rcases enc_run (d := d) d.2.2.2.2.2.2.1 0 ([], encH d) with ⟨e, q1, q2⟩ | ⟨q1, f, q2⟩
 ·exact .inl ⟨e, q1, q2⟩
 obtain ⟨n1, n2⟩ := grp_len _ 0 hE q1
 have q2 : encL d = some (wrV (d.2.2.1, d.2.1, d.1, len (grpL d 0 d.2.2.2.2.2.2.1), len d.2.2.2.2.2.2.1, noL, f, (15 : Int), (32 : Int)) (grpL d 0 d.2.2.2.2.2.2.1)) := q2
 rw [q2]
 obtain ⟨p, e, g1, _, g3⟩ := write_ok (h := (d.2.2.1, d.2.1, d.1, len (grpL d 0 d.2.2.2.2.2.2.1), len d.2.2.2.2.2.2.1, noL, f, (15 : Int), (32 : Int))) (l := grpL d 0 d.2.2.2.2.2.2.1) hs.1 (by omega)
 have ew : wrV (d.2.2.1, d.2.1, d.1, len (grpL d 0 d.2.2.2.2.2.2.1), len d.2.2.2.2.2.2.1, noL, f, (15 : Int), (32 : Int)) (grpL d 0 d.2.2.2.2.2.2.1) = (p, e) := by unfold wrV; rw [g1]; rfl
 rw [ew]
 by_cases h0 : e ≠ 0
 ·rcases g3 with ⟨_, rfl⟩ | ⟨k, _⟩
  ·exact .inl ⟨e, h0, rfl⟩
  ·exact absurd k h0
 have h0 : e = 0 := by simpa using h0
 subst h0
 refine .inr ⟨p, rfl, ?_⟩
 have hread := read_back (by omega) g3
 have hb : ∀ b ∈ grpL d 0 d.2.2.2.2.2.2.1, BlkOk b ∧ tape_Put fuelH b = some (bby b, 0) := by
  rcases g3 with ⟨k, _⟩ | ⟨_, _, _, _, _, k, _⟩
  ·exact absurd rfl k
  ·exact k
 have hdec := stl_decode hread h2 ⟨by omega, fun b hbm => (hb b hbm).1⟩ (fun m hm _ => by
  have hm : (m : Int) = len d.2.2.2.2.2.2.1 := hm
  simp only [len] at hm
  omega)
 rw [hdec]
 have hrun := dec_evs (d := d) h4 (by omega) hE d.2.2.2.2.2.2.1 [] [] (grpL d 0 d.2.2.2.2.2.2.1) rfl rfl (fun b hbm => put_chk (hb b hbm).2) q1
 have hrun : decS (grpL d 0 d.2.2.2.2.2.2.1) d.2.2.1 (grpL d 0 d.2.2.2.2.2.2.1).length 0 0 ([], []) 0 = _ := hrun
 rw [hrun]
 show decK _ _ _ = _
 unfold decK
 rw [if_neg, sort_id (evs_sorted hes)]
 ·have hd := drop_no hh h2
  have hl := evsR_len d.2.2.2.2.2.1 d.2.2.2.2.2.2.1 0
  unfold redF
  rw [hd]
  simp only [len, hl]
 ·unfold badH
  rintro (k | k | k | k)
  ·exact k rfl
  ·exact k rfl
  ·exact k rfl
  ·exact k rfl
theorem carries_true {x : Doc} (hb : wtD x ≤ 1048576) : l24_StlCarries fuelH x = some true := by
 unfold l24_StlCarries
 have he := few_enc hb
 have h5 : (fewD x).2.2.2.2.2.2.1.length ≤ 5 := by show (x.2.2.2.2.2.2.1.take 5).length ≤ 5; rw [List.length_take]; omega
 rw [awake24, bnd_some', cnd_f (by rfl), few_eq, bnd_some', stl_encode he]
 obtain ⟨⟨v, w⟩, hv⟩ := accept_some (fewD x)
 rw [hv, bnd_some']
 by_cases hw : w = 0
 ·subst hw
  rw [cnd_f (ine_f rfl)]
  obtain ⟨h1, _, _, h4⟩ := acceptS_zero hv
  rcases carry he h5 hv with ⟨e, h0, k⟩ | ⟨p, k, k2⟩
  ·rw [k, bnd_some', cnd_t (ine_t h0)]
   rfl
  ·obtain ⟨y, hy, hyy⟩ := redD_small he.1
   have e := redD_eq h1
   rw [hy] at e
   injection e with e
   subst e
   rw [k, bnd_some', cnd_f (ine_f rfl), k2, bnd_some', cnd_t (ieq_t rfl), cnd_t (ieq_t rfl), stl_reduce he.1, hy, bnd_some', hyy]
   rfl
 ·rw [cnd_t (ine_t hw), bnd_some', cnd_t (ine_t hw)]
  rfl
end
end Go.Mo
end
