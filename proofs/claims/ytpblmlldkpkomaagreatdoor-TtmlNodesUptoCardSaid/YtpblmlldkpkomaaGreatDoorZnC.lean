/-
  Texts put together, in build order: XV XR TD.
-/
import Derived.Test.YtpblmlldkpkomaaGreatDoorZnB
set_option linter.all false

section
/-
  Plain facts: the text of nodes, the other side, run; XmlChecks returns true.
-/
set_option linter.all false
namespace Go.Mo
open Go Go.W Go.Lib
set_option maxRecDepth 100000
noncomputable section
theorem rattrs_loop {R : Type} {l : List At} (hl : l.length ≤ 1100000) (hv : ∀ a ∈ l, a.1.length ≤ 1090000 ∧ a.2.length ≤ 1090000) (K : Ls × Int → Option R) (a0 : Ls) (hb : a0.length + (atT l).length ≤ 100000000) :
  fixN (fun v9 (v10 : (List UInt8) × Int) =>
     cnd (ilt v10.2 (len l))
      (grd (inb v10.2 (len l))
       (grd (catOk (iadd (len ([32] : List UInt8)) (len (lget l (toN v10.2) ([], [])).1)))
        (grd (catOk (iadd (len (lapp ([32] : List UInt8) (lget l (toN v10.2) ([], [])).1)) (len ([61, 34] : List UInt8))))
         (bnd (q100 fuelH (lget l (toN v10.2) ([], [])).2) fun v11 =>
         grd (catOk (iadd (len (lapp (lapp ([32] : List UInt8) (lget l (toN v10.2) ([], [])).1) ([61, 34] : List UInt8))) (len v11))) <|
         grd (catOk (iadd (len (lapp (lapp (lapp ([32] : List UInt8) (lget l (toN v10.2) ([], [])).1) ([61, 34] : List UInt8)) v11)) (len ([34] : List UInt8)))) <|
         grd (catOk (iadd (len v10.1) (len (lapp (lapp (lapp (lapp ([32] : List UInt8) (lget l (toN v10.2) ([], [])).1) ([61, 34] : List UInt8)) v11) ([34] : List UInt8))))) <|
         v9 (lapp v10.1 (lapp (lapp (lapp (lapp ([32] : List UInt8) (lget l (toN v10.2) ([], [])).1) ([61, 34] : List UInt8)) v11) ([34] : List UInt8)), w64 (iadd v10.2 (1 : Int)))))))
      (K v10)) fuelH (a0, (0 : Int)) = K (a0 ++ atT l, (l.length : Int)) := by
 refine drop_loop (s := l) (fun (a : Ls) (j : Nat) => (a, (j : Int))) (fun a r => K (a ++ atT r, (l.length : Int))) (fun j a => a.length + (atT (l.drop j)).length ≤ 100000000) ?_ fuelH 0 a0 (fuelH_len (by omega) _) (Nat.zero_le _) hb
 intro self a j hj hI hself
 dsimp only
 by_cases hjl : j < l.length
 ·have hw : w64 (iadd (j : Int) 1) = ((j + 1 : Nat) : Int) := w64_succ hjl (by omega)
  have hva := hv _ (List.getElem_mem hjl)
  have hel := esc_len (l[j]).2
  have hT : lapp (lapp (lapp (lapp ([32] : List UInt8) (l[j]).1) ([61, 34] : List UInt8)) (esc (l[j]).2)) ([34] : List UInt8) = 32 :: ((l[j]).1 ++ (61 :: 34 :: (esc (l[j]).2 ++ [34]))) := by simp [lapp]
  have hc : atT (l.drop j) = (32 :: ((l[j]).1 ++ (61 :: 34 :: (esc (l[j]).2 ++ [34])))) ++ atT (l.drop (j + 1)) := by
   rw [List.drop_eq_getElem_cons hjl]
   unfold atT
   rw [List.flatMap_cons]
  have hcl := congrArg List.length hc
  rw [List.length_append] at hcl
  rw [cnd_t (ilt_t (by simp only [len]; omega)), grd_t (inb_t (by simp only [len]; omega)), lget_i hjl, grd_t (catOk_t (by simp only [len, iadd, List.length_cons, List.length_nil]; omega)), grd_t (catOk_t (by simp only [len, iadd, lapp, List.length_append, List.length_cons, List.length_nil]; omega)), resc_eq (by omega), bnd_some', grd_t (catOk_t (by simp only [len, iadd, lapp, List.length_append, List.length_cons, List.length_nil]; omega)), grd_t (catOk_t (by simp only [len, iadd, lapp, List.length_append, List.length_cons, List.length_nil]; omega)), hT, grd_t (catOk_t (by simp only [len, iadd]; omega)), hw]
  refine Eq.trans (hself (a ++ (32 :: ((l[j]).1 ++ (61 :: 34 :: (esc (l[j]).2 ++ [34]))))) (j + 1) (by omega) (by omega) (by rw [List.length_append]; omega)) ?_
  rw [hc, List.append_assoc]
 ·obtain rfl : j = l.length := by omega
  rw [cnd_f (ilt_f (by simp only [len]; omega)), List.drop_length]
  have : a ++ atT [] = a := by simp [atT]
  rw [this]
theorem rkids_loop {R : Type} {ks : List Int} (hl : ks.length ≤ 1100000) (f : Int → Option Ls) (Tx : Int → Ls) (hf : ∀ k ∈ ks, f k = some (Tx k)) (K : Ls × Int → Option R) (a0 : Ls) (hb : a0.length + (ks.flatMap Tx).length ≤ 100000000) :
  fixN (fun v5 (v6 : (List UInt8) × Int) =>
        cnd (ilt v6.2 (len ks))
         (grd (inb v6.2 (len ks))
          (bnd (f (lget ks (toN v6.2) (0 : Int))) fun v7 =>
          grd (catOk (iadd (len v6.1) (len v7))) <|
          v5 (lapp v6.1 v7, w64 (iadd v6.2 (1 : Int)))))
         (K v6)) fuelH (a0, (0 : Int)) = K (a0 ++ ks.flatMap Tx, (ks.length : Int)) := by
 refine drop_loop (s := ks) (fun (a : Ls) (j : Nat) => (a, (j : Int))) (fun a r => K (a ++ r.flatMap Tx, (ks.length : Int))) (fun j a => a.length + ((ks.drop j).flatMap Tx).length ≤ 100000000) ?_ fuelH 0 a0 (fuelH_len (by omega) _) (Nat.zero_le _) hb
 intro self a j hj hI hself
 dsimp only
 by_cases hjl : j < ks.length
 ·have hw : w64 (iadd (j : Int) 1) = ((j + 1 : Nat) : Int) := w64_succ hjl (by omega)
  have hc : (ks.drop j).flatMap Tx = Tx ks[j] ++ (ks.drop (j + 1)).flatMap Tx := by
   rw [List.drop_eq_getElem_cons hjl, List.flatMap_cons]
  have hcl := congrArg List.length hc
  rw [List.length_append] at hcl
  rw [cnd_t (ilt_t (by simp only [len]; omega)), grd_t (inb_t (by simp only [len]; omega)), lget_i hjl, hf _ (List.getElem_mem hjl), bnd_some', grd_t (catOk_t (by simp only [len, iadd]; omega)), hw]
  refine Eq.trans (hself (a ++ Tx ks[j]) (j + 1) (by omega) (by omega) (by rw [List.length_append]; omega)) ?_
  rw [hc, List.append_assoc]
 ·obtain rfl : j = ks.length := by omega
  rw [cnd_f (ilt_f (by simp only [len]; omega)), List.drop_length]
  simp
theorem chS_mem2 {d : Int} : ∀ (r : List Nd) (k : Nat) (x : Int), x ∈ chS d k r → ∃ j : Nat, x = (j : Int) ∧ k ≤ j ∧ ∃ h : j - k < r.length, dep r[j - k] = d + 1
 | [], _, _, h => (by cases h)
 | n :: r, k, x, h => by
  have h : x ∈ (if d < dep n then (if dep n = d + 1 then (k : Int) :: chS d (k + 1) r else chS d (k + 1) r) else []) := h
  have go : x ∈ chS d (k + 1) r → ∃ j : Nat, x = (j : Int) ∧ k ≤ j ∧ ∃ h : j - k < (n :: r).length, dep (n :: r)[j - k] = d + 1 := fun hx => by
   obtain ⟨j, e, h1, h2, h3⟩ := chS_mem2 r (k + 1) x hx
   have ej : j - k = (j - (k + 1)) + 1 := by omega
   refine ⟨j, e, by omega, by rw [List.length_cons]; omega, ?_⟩
   simp only [ej, List.getElem_cons_succ]
   exact h3
  by_cases e1 : d < dep n
  ·rw [if_pos e1] at h
   by_cases e2 : dep n = d + 1
   ·rw [if_pos e2] at h
    rcases List.mem_cons.1 h with rfl | h
    ·refine ⟨k, rfl, Nat.le_refl _, by rw [List.length_cons]; omega, ?_⟩
     simp only [Nat.sub_self, List.getElem_cons_zero]
     exact e2
    ·exact go h
   ·rw [if_neg e2] at h
    exact go h
  ·rw [if_neg e1] at h
   cases h
theorem rtext_run {l : List Nd} (h8 : l.length ≤ 8192) (hsmA : ∀ n ∈ l, smN n) (hw : bkL wtN l ≤ 3000000) (hD : Deep l) (htx : ∀ i (h : i + 1 < l.length), l[i].1 = [] → dep l[i + 1] ≤ dep l[i]) : ∀ (D d i : Nat), 16 ≤ D + d → ∀ hi : i < l.length, dep l[i] = (d : Int) → ∃ t, r20_text_r fuelH D (l, (i : Int)) = some t ∧ isT l d i t
 | 0, d, i, h, hi, hd => by have := (hD.high i hi).2; omega
 | D + 1, d, i, h, hi, hd => by
  have hsm := hsmA _ (List.getElem_mem hi)
  have hll : l.length ≤ 3000000 := Nat.le_trans (bk_len (f := wtN) (fun n => by unfold wtN; omega) l) hw
  have h15 := (hD.high i hi).2
  have hin : inb (i : Int) (len l) = true := inb_t (by simp only [len]; omega)
  by_cases he : l[i].1 = []
  ·refine ⟨esc l[i].2.1, ?_, text_isT hi hd he fun h => by have := htx i h he; omega⟩
   unfold r20_text_r
   dsimp only
   rw [grd_t hin]
   simp only [lgetn hi]
   rw [cnd_t (by rw [seq_t]; exact he), resc_eq (by have := hsm.tx; omega), bnd_some']
  ·have hdi : ∀ n ∈ l, i64 (dep n) := fun n hn => by
    obtain ⟨j, hj, e⟩ := List.mem_iff_getElem.1 hn
    have := hD.high j hj
    rw [← e]
    exact ⟨by omega, by omega⟩
   have hkids := (kids_eq (l := l) (by omega) hdi (i : Int)).2
   have hk : kids l (i : Int) = chS (d : Int) (i + 1) (l.drop (i + 1)) := by
    unfold kids
    rw [if_neg (by omega), Int.toNat_natCast, List.getD_eq_getElem?_getD, List.getElem?_eq_getElem hi, Option.getD_some, hd]
   have ih := rtext_run h8 hsmA hw hD htx D (d + 1)
   let Tx : Int → Ls := fun k => (r20_text_r fuelH D (l, k)).getD []
   have hT : ∀ (j : Nat) (h : j < l.length), i + 1 ≤ j → dep l[j] = (d : Int) + 1 → r20_text_r fuelH D (l, (j : Int)) = some (Tx (j : Int)) ∧ isT l (d + 1) j (Tx (j : Int)) := fun j hj hij hdj => by
    obtain ⟨t, h1, h2⟩ := ih j (by omega) hj (by omega)
    have : Tx (j : Int) = t := by show (r20_text_r fuelH D (l, (j : Int))).getD [] = t; rw [h1]; rfl
    rw [this]
    exact ⟨h1, h2⟩
   have hmain := elem_isT (Tx := Tx) hi hd he (fun h => by have := (hD.low i h).2.1; omega) fun j hj hij hdj => (hT j hj hij hdj).2
   refine ⟨_, ?_, hmain⟩
   have hlen := isT_len hmain (by omega)
   have hbd : bkL wtN (l.drop i) ≤ 3000000 := by
    refine Nat.le_trans ?_ hw
    have : ∀ (i : Nat) (l : List Nd), bkL wtN (l.drop i) ≤ bkL wtN l := fun i => by
     induction i with
     | zero => intro l; exact Nat.le_refl _
     | succ i ih => intro l; cases l with
      | nil => exact Nat.le_refl _
      | cons n l => have := ih l; rw [List.drop_succ_cons]; simp only [bkL]; omega
    exact this i l
   rw [List.length_cons, List.length_append, List.length_append] at hlen
   have hks : ∀ k ∈ kids l (i : Int), r20_text_r fuelH D (l, k) = some (Tx k) := fun k hkm => by
    rw [hk] at hkm
    obtain ⟨j, rfl, h1, h2, h3⟩ := chS_mem2 _ _ _ hkm
    rw [List.length_drop] at h2
    rw [List.getElem_drop] at h3
    have e : i + 1 + (j - (i + 1)) = j := by omega
    simp only [e] at h3
    exact (hT j (by omega) h1 h3).1
   have hkl : (kids l (i : Int)).length ≤ 1100000 := by
    rw [hk]
    have := chS_len (d : Int) (i + 1) (l.drop (i + 1))
    rw [List.length_drop] at this
    omega
   unfold r20_text_r
   dsimp only
   rw [grd_t hin]
   simp only [lgetn hi]
   rw [cnd_f (by rw [seq_dec]; simpa using he), grd_t (catOk_t (by simp only [len, iadd, List.length_cons, List.length_nil]; omega)), jn_e]
   refine Eq.trans (rattrs_loop (by have := hsm.asz; omega) hsm.an _ _ (by simp only [lapp, List.length_append, List.length_cons, List.length_nil]; omega)) ?_
   dsimp only
   rw [hkids, bnd_some']
   generalize kids l (i : Int) = ks at *
   by_cases h0 : ks = []
   ·rw [if_pos h0] at hlen ⊢
    rw [cnd_t (ieq_t (by rw [h0]; rfl)), grd_t (catOk_t (by simp only [len, iadd, lapp, List.length_append, List.length_cons, List.length_nil]; omega))]
    simp [lapp]
   ·rw [if_neg h0] at hlen ⊢
    have hp := List.length_pos_iff.2 h0
    have hcl : (clT l[i].1).length = l[i].1.length + 3 := by unfold clT; simp
    rw [List.length_cons, List.length_append] at hlen
    rw [cnd_f (ieq_f (by simp only [len]; omega)), grd_t (catOk_t (by simp only [len, iadd, lapp, List.length_append, List.length_cons, List.length_nil]; omega)), jn_e]
    refine Eq.trans (rkids_loop hkl (fun k => r20_text_r fuelH D (l, k)) Tx hks _ _ (by simp only [lapp, List.length_append, List.length_cons, List.length_nil]; omega)) ?_
    dsimp only
    rw [grd_t (catOk_t (by simp only [len, iadd, lapp, List.length_append, List.length_cons, List.length_nil]; omega)), grd_t (catOk_t (by simp only [len, iadd, lapp, List.length_append, List.length_cons, List.length_nil]; omega)), grd_t (catOk_t (by simp only [len, iadd, lapp, List.length_append, List.length_cons, List.length_nil]; omega))]
    unfold clT
    simp [lapp]
theorem rprint_eq {l : List Nd} (hsm : ∀ n ∈ l, smN n) (hs : bkL wtN l ≤ 3000000) : q102 fuelH l = some (printP l) := by
 have hll : l.length ≤ 3000000 := Nat.le_trans (bk_len (f := wtN) (fun n => by unfold wtN; omega) l) hs
 unfold q102 printP
 rw [rcheck_eq (by omega) hsm, bnd_some']
 by_cases hc : chkE l = 0
 ·obtain ⟨h0, h8, hat⟩ := chk_at hc
  have hd := deep_of hat
  have htx : ∀ i (h : i + 1 < l.length), l[i].1 = [] → dep l[i + 1] ≤ dep l[i] := fun i h e => by
   apply Classical.byContradiction
   intro k
   exact (hd.low i h).2.2 (by omega) e
  obtain ⟨t, h1, h2⟩ := rtext_run h8 hsm hs hd htx fuelH 0 0 (by have := fuelH_eq; omega) h0 (hd.root h0)
  have h1 : r20_text fuelH (l, (0 : Int)) = some t := h1
  have h3 := h2 [] rfl
  have h4 : endI 0 1 l = l.length := by
   have := endI_head (l := l) (d := 0) _ 1 (Nat.le_refl _)
   have hge : ∀ k, 1 ≤ endI 0 k l ∨ k = 0 := fun k => by unfold endI; omega
   apply Classical.byContradiction
   intro k
   have hle : endI 0 1 l ≤ l.length := by
    unfold endI
    have := (List.takeWhile_sublist (l := l.drop 1) (fun n => decide (0 < dep n))).length_le
    rw [List.length_drop] at this
    omega
   have hlt : endI 0 1 l < l.length := by omega
   have h5 := this hlt
   have hg : 1 ≤ endI 0 1 l := by unfold endI; omega
   obtain ⟨j, ej⟩ : ∃ j, endI 0 1 l = j + 1 := ⟨endI 0 1 l - 1, by omega⟩
   simp only [ej] at h5
   have := (hd.low j (by omega)).1
   omega
  have h4 : endI ((0 : Nat) : Int) (0 + 1) l = l.length := h4
  rw [h4, List.drop_length, List.drop_zero] at h3
  have h3 : prT [] l = t := by
   rw [h3]
   show t ++ cls [] = t
   rw [cls_nil, List.append_nil]
  rw [cnd_f (ine_f hc), if_neg (fun k => k hc), h1, bnd_some', h3]
  by_cases h9 : 262144 < t.length
  ·rw [cnd_t (ilt_t (by simp only [len]; omega)), if_pos h9]
  ·rw [cnd_f (ilt_f (by simp only [len]; omega)), if_neg h9]
 ·rw [cnd_t (ine_t hc), if_pos hc]
end
end Go.Mo
end

section
/-
  XmlReturns and XmlIgnores return true.
-/
set_option linter.all false
namespace Go.Mo
open Go Go.W Go.Lib
set_option maxRecDepth 100000
noncomputable section
theorem eqA_eq {l : List At} (hl : l.length ≤ 4000000) : q105 fuelH (l, l) = some true := by
 unfold q105
 rw [cnd_f (ine_f rfl), jn_e]
 refine drop_loop (s := l) (fun (_ : Unit) (j : Nat) => (j : Int)) (fun _ _ => some true) (fun _ _ => True) ?_ fuelH 0 () (fuelH_len hl _) (Nat.zero_le _) trivial
 intro self a j hj _ hself
 by_cases hjl : j < l.length
 ·have hw : w64 (iadd (j : Int) 1) = ((j + 1 : Nat) : Int) := w64_succ hjl (by omega)
  have hin : inb (j : Int) (len l) = true := inb_t (by simp only [len]; omega)
  dsimp only
  rw [cnd_t (ilt_t (by simp only [len]; omega)), grd_t hin, grd_t hin, lget_i hjl]
  have hb : bnot (band (seq (l[j]).1 (l[j]).1) (seq (l[j]).2 (l[j]).2)) = false := by
   have h1 : seq (l[j]).1 (l[j]).1 = true := by rw [seq_t]
   have h2 : seq (l[j]).2 (l[j]).2 = true := by rw [seq_t]
   rw [h1, h2]
   rfl
  rw [cnd_f hb, hw]
  exact hself () (j + 1) (by omega) (by omega) trivial
 ·obtain rfl : j = l.length := by omega
  dsimp only
  rw [cnd_f (ilt_f (by simp only [len]; omega))]
end
end Go.Mo
end

section
/-
  Plain facts: TtmlNodes returns true.
-/
set_option linter.all false
namespace Go.Mo
open Go Go.W Go.Lib
set_option maxRecDepth 100000
noncomputable section
def fewD (d : Doc) : Doc := (d.1, d.2.1, d.2.2.1, d.2.2.2.1, d.2.2.2.2.1, d.2.2.2.2.2.1.take 6, d.2.2.2.2.2.2.1.take 5, d.2.2.2.2.2.2.2.take 4)
theorem few_eq (d : Doc) : l21_few fuelH d = some (fewD d) := by
 unfold l21_few fewD
 obtain ⟨e1, e2⟩ := min_take d.2.2.2.2.2.2.1 5
 obtain ⟨e3, e4⟩ := min_take d.2.2.2.2.2.2.2 4
 obtain ⟨e5, e6⟩ := min_take d.2.2.2.2.2.1 6
 have e1 : ltake (toN (imin (len d.2.2.2.2.2.2.1) (5 : Int))) d.2.2.2.2.2.2.1 = _ := e1
 have e3 : ltake (toN (imin (len d.2.2.2.2.2.2.2) (4 : Int))) d.2.2.2.2.2.2.2 = _ := e3
 have e5 : ltake (toN (imin (len d.2.2.2.2.2.1) (6 : Int))) d.2.2.2.2.2.1 = _ := e5
 rw [grd_t (show in2 (imin (len d.2.2.2.2.2.2.1) (5 : Int)) (len d.2.2.2.2.2.2.1) = true from e2), grd_t (show in2 (imin (len d.2.2.2.2.2.2.2) (4 : Int)) (len d.2.2.2.2.2.2.2) = true from e4), grd_t (show in2 (imin (len d.2.2.2.2.2.1) (6 : Int)) (len d.2.2.2.2.2.1) = true from e6), e1, e3, e5]
structure FewD (d : Doc) : Prop where
 reg : d.2.2.2.2.2.1.length ≤ 6
 ev : d.2.2.2.2.2.2.1.length ≤ 5
 cm : d.2.2.2.2.2.2.2.length ≤ 4
 wt : wtD d ≤ 1048576
theorem few_few {d : Doc} (hb : wtD d ≤ 1048576) : FewD (fewD d) := by
 have h1 : bkL wtG (d.2.2.2.2.2.1.take 6) ≤ _ := bk_take 6 _
 have h2 : bkL wtX (d.2.2.2.2.2.2.1.take 5) ≤ _ := bk_take 5 _
 have h3 : bkL wtC (d.2.2.2.2.2.2.2.take 4) ≤ _ := bk_take 4 _
 unfold wtD at hb
 refine ⟨?_, ?_, ?_, ?_⟩
 ·show (d.2.2.2.2.2.1.take 6).length ≤ 6; rw [List.length_take]; omega
 ·show (d.2.2.2.2.2.2.1.take 5).length ≤ 5; rw [List.length_take]; omega
 ·show (d.2.2.2.2.2.2.2.take 4).length ≤ 4; rw [List.length_take]; omega
 ·show d.1.length + 1 + (d.2.1.length + 1 + (1 + (1 + (1 + (bkL wtG (d.2.2.2.2.2.1.take 6) + 1 + (bkL wtX (d.2.2.2.2.2.2.1.take 5) + 1 + (bkL wtC (d.2.2.2.2.2.2.2.take 4) + 1))))))) ≤ 1048576
  omega
theorem bulk_small {d : Doc} (hb : wtD d ≤ 1048576) : smallD d := by
 unfold wtD at hb
 have hg : d.2.2.2.2.2.1.length ≤ bkL wtG d.2.2.2.2.2.1 := bk_len (fun x => by unfold wtG; omega) _
 refine ⟨by omega, by omega, fun x hx => ?_, fun c hc => ?_⟩
 ·have h1 : 1 + (1 + 1 + (x.2.2.1.length + 1 + (1 + (x.2.2.2.2.1.length + 1 + (bkL wtR x.2.2.2.2.2 + 1))))) ≤ bkL wtX d.2.2.2.2.2.2.1 := bk_mem (f := wtX) hx
  intro r hr
  have h2 : bkL wtU r + 1 ≤ bkL wtR x.2.2.2.2.2 := bk_mem (f := wtR) hr
  have h3 := cost_wt r
  have h4 := tot_cost r
  exact ⟨short_wt (l := x.2.2.2.2.2) (B := 1048576) (by omega) (by omega) r hr, by omega⟩
 ·have h1 : 1 + (1 + (1 + (1 + (c.2.2.2.2.1.length + 1 + (c.2.2.2.2.2.1.length + 1 + (1 + 1)))))) ≤ bkL wtC d.2.2.2.2.2.2.2 := bk_mem (f := wtC) hc
  omega
theorem bk_app {α : Type} (f : α → Nat) : ∀ a b : List α, bkL f (a ++ b) = bkL f a + bkL f b
 | [], b => by simp [bkL]
 | x :: a, b => by simp only [List.cons_append, bkL, bk_app f a b]; omega
theorem bk_flat {α β : Type} {f : β → Nat} {w : α → Nat} {g : α → List β} {c : Nat} : ∀ l : List α, (∀ x ∈ l, bkL f (g x) ≤ c + w x) → bkL f (l.flatMap g) ≤ l.length * c + bkL w l
 | [], _ => by simp [bkL]
 | x :: l, h => by
  rw [List.flatMap_cons, bk_app, List.length_cons, Nat.add_mul, Nat.one_mul]
  have := h x List.mem_cons_self
  have := bk_flat (w := w) l fun y hy => h y (List.mem_cons_of_mem _ hy)
  simp only [bkL]
  omega
theorem bk_keep : ∀ l : List At, bkL wtA (keepQ l) ≤ bkL wtA l
 | [] => Nat.le_refl _
 | a :: l => by
  have := bk_keep l
  show bkL wtA (someQ a ++ keepQ l) ≤ _
  rw [bk_app]
  unfold someQ
  simp only [bkL]
  split <;> simp only [bkL] <;> omega
theorem bk_el (k : Int) (n : List UInt8) (l : List At) : bkL wtN [elQ k n l] ≤ n.length + 4 + bkL wtA l := by
 have := bk_keep l
 simp only [bkL, elQ, wtN, List.length_nil]
 omega
theorem colQ_len (c : UInt8) (h : n8 c ≤ 6) : (colQ c).length ≤ 7 := by
 have := all_u8 (P := fun c => decide (n8 c ≤ 6 → (colQ c).length ≤ 7)) (by rfl) c
 exact of_decide_eq_true this h
theorem kndQ_len (c : UInt8) : (kndQ c).length ≤ 8 := of_decide_eq_true (all_u8 (P := fun c => decide ((kndQ c).length ≤ 8)) (by rfl) c)
theorem ratQ_len (c : UInt8) : (ratQ c).length ≤ 6 := of_decide_eq_true (all_u8 (P := fun c => decide ((ratQ c).length ≤ 6)) (by rfl) c)
theorem aliQ_len (c : UInt8) : (aliQ c).length ≤ 6 := of_decide_eq_true (all_u8 (P := fun c => decide ((aliQ c).length ≤ 6)) (by rfl) c)
theorem oneQ_len (b : Bool) : (oneQ b).length ≤ 1 := by cases b <;> simp [oneQ]
theorem runN_bk {u : Run} (h : n8 u.2.1.1 ≤ 6) : bkL wtN (runN u) ≤ 60 + wtU u := by
 have h1 := bk_el 3 [114, 117, 110] (runA u)
 have h2 := colQ_len _ h
 have h3 := oneQ_len u.2.1.2.1
 have h4 := oneQ_len u.2.1.2.2
 have e : runN u = [elQ 3 [114, 117, 110] (runA u)] ++ [([], u.1, [], 4)] := rfl
 rw [e, bk_app]
 simp only [bkL, runA, wtA, wtN, wtU, List.length_nil, List.length_cons] at h1 ⊢
 omega
theorem rowN_bk {r : Row} (h : r.length ≤ 16) (hu : ∀ u ∈ r, n8 u.2.1.1 ≤ 6) : bkL wtN (rowN r) ≤ 980 + wtR r := by
 have h1 := bk_el 2 [114, 111, 119] []
 have h2 := bk_flat (f := wtN) (w := wtU) (g := runN) (c := 60) r fun u h => runN_bk (hu u h)
 have e : rowN r = [elQ 2 [114, 111, 119] []] ++ r.flatMap runN := rfl
 rw [e, bk_app]
 simp only [wtR, bkL, List.length_cons, List.length_nil] at h1 ⊢
 omega
theorem evN_bk {x : Ev} (h : 0 ≤ x.1) (ha : 0 ≤ x.2.1.1) (hb : 0 ≤ x.2.1.2) (h1 : x.2.2.2.2.2.length ≤ 4) (hl : ∀ l ∈ x.2.2.2.2.2, l.length ≤ 16 ∧ ∀ u ∈ l, n8 u.2.1.1 ≤ 6) : bkL wtN (evN x) ≤ 4200 + wtX x := by
 have h2 := bk_el 1 [112] (evA x)
 have h3 := bk_flat (f := wtN) (w := wtR) (g := rowN) (c := 980) x.2.2.2.2.2 fun r h => rowN_bk (hl r h).1 (hl r h).2
 have e : evN x = [elQ 1 [112] (evA x)] ++ x.2.2.2.2.2.flatMap rowN := rfl
 have i1 := itoa_len h
 have i2 := itoa_len ha
 have i3 := itoa_len hb
 have i4 := kndQ_len x.2.2.2.1
 rw [e, bk_app]
 simp only [wtX, bkL, evA, wtA, List.length_cons, List.length_nil, List.length_append] at h2 ⊢
 omega
theorem regN_bk {r : Reg} (h1 : 0 ≤ r.2.1) (h2 : 0 ≤ r.2.2.1) (h3 : 0 ≤ r.2.2.2.1) (h4 : 0 ≤ r.2.2.2.2.1) : bkL wtN (regN r) ≤ 200 + wtG r := by
 have h := bk_el 1 [114, 101, 103, 105, 111, 110] (regA r)
 have i1 := itoa_len h1
 have i2 := itoa_len h2
 have i3 := itoa_len h3
 have i4 := itoa_len h4
 have i5 := aliQ_len r.2.2.2.2.2.1
 have i6 : (if r.2.2.2.2.2.2 then [66, 79, 84, 84, 79, 77] else [84, 79, 80] : List UInt8).length ≤ 6 := by split <;> simp
 unfold regN
 simp only [wtG, bkL, regA, wtA, List.length_cons, List.length_nil] at h ⊢
 omega
theorem docN_bk {d : Doc} (hd : NodOk d) (hf : FewD d) : bkL wtN (docN d) ≤ 1090000 := by
 have h := bk_el 0 [116, 116] (docA d)
 have h1 := bk_flat (f := wtN) (w := wtG) (g := regN) (c := 200) d.2.2.2.2.2.1 fun r hr => by
  have := regChk_ok (hd.reg r hr)
  exact regN_bk (by omega) (by omega) (by omega) (by omega)
 have h2 := bk_flat (f := wtN) (w := wtX) (g := evN) (c := 4200) d.2.2.2.2.2.2.1 fun x hx => by
  obtain ⟨q1, q2, q3, q4, q5⟩ := hd.ev x hx
  exact evN_bk (by omega) (by omega) (by omega) q4 q5
 have i1 := itoa_len hd.last.1
 have i2 := ratQ_len d.2.2.1
 have i3 := oneQ_len d.2.2.2.1
 have h3 := hf.reg
 have h4 := hf.ev
 have h5 := hf.wt
 unfold wtD at h5
 unfold docN
 rw [bk_app, bk_app]
 simp only [bkL, docA, wtA, List.length_cons, List.length_nil] at h ⊢
 omega
def nodR (d : Doc) : List Nd × Int := if docChk d ≠ 0 then ([], docChk d) else nodV d
theorem nodes_eq {d : Doc} (hs : smallD d) : q55 fuelH d = some (nodR d) := by
 by_cases h : docChk d = 0
 ·unfold nodR
  rw [if_neg (by simpa using h)]
  exact nodes_prog (nodOk h) (by rw [document_check hs, h])
 ·unfold nodR q55
  rw [if_pos h, bnd_s (document_check hs), cnd_t (ine_t h)]
theorem rnodes_eq {d : Doc} (hs : smallD d) : q94 fuelH d = some (nodR d) := by
 by_cases h : docChk d = 0
 ·unfold nodR
  rw [if_neg (by simpa using h)]
  exact nodes_ref (nodOk h) (by rw [r12_check hs, h])
 ·unfold nodR q94
  rw [if_pos h, bnd_s (r12_check hs), cnd_t (ine_t h)]
theorem nodR_bk {d : Doc} (hf : FewD d) : bkL wtN (nodR d).1 ≤ 1090000 := by
 unfold nodR nodV
 by_cases h : docChk d = 0
 ·rw [if_neg (by simpa using h)]
  split
  ·exact Nat.zero_le _
  ·exact docN_bk (nodOk h) hf
 ·rw [if_pos h]; exact Nat.zero_le _
def encR (d : Doc) : Ls × Int := if (nodR d).2 ≠ 0 then ([], (nodR d).2) else printP (nodR d).1
theorem encode_eq {d : Doc} (hf : FewD d) : q66 fuelH d = some (encR d) := by
 have hb := nodR_bk hf
 unfold q66 encR
 rw [bnd_s (nodes_eq (bulk_small hf.wt))]
 by_cases h : (nodR d).2 ≠ 0
 ·rw [cnd_t (ine_t h), if_pos h]
 ·rw [cnd_f (ine_f (by simpa using h)), if_neg h, bnd_s (print_eq (sm_of hb) (by omega))]
theorem rencode_eq {d : Doc} (hf : FewD d) : q103 fuelH d = some (encR d) := by
 have hb := nodR_bk hf
 unfold q103 encR
 rw [bnd_s (rnodes_eq (bulk_small hf.wt))]
 by_cases h : (nodR d).2 ≠ 0
 ·rw [cnd_t (ine_t h), if_pos h]
 ·rw [cnd_f (ine_f (by simpa using h)), if_neg h, bnd_s (rprint_eq (sm_of hb) (by omega))]
theorem eqN_eq {n : Nd} (h : n.2.2.1.length ≤ 4000000) : l21_equal_1 fuelH (n, n) = some true := by
 unfold l21_equal_1
 have hi : ieq n.2.2.2 n.2.2.2 = true := ieq_t rfl
 rw [cnd_t (by rw [seq_t]), cnd_t (by rw [seq_t]), cnd_t hi, eqA_eq h]
 rfl
theorem same_eq {l : List Nd} (hl : l.length ≤ 4000000) (hs : ∀ n ∈ l, n.2.2.1.length ≤ 4000000) : l21_equal fuelH (l, l) = some true := by
 unfold l21_equal q106
 rw [cnd_f (ine_f rfl), jn_e]
 have h := drop_loop (R := Bool) (s := l) (F := fun v2 (v3 : Int) =>
   cnd (ilt v3 (len l))
    (grd (inb v3 (len l))
     (grd (inb v3 (len l))
      (bnd (l21_equal_1 fuelH (lget l (toN v3) ([], ([], ([], (0 : Int)))), lget l (toN v3) ([], ([], ([], (0 : Int)))))) fun v4 =>
      cnd (bnot v4)
       (some false)
       (v2 (w64 (iadd v3 (1 : Int)))))))
    (some true)) (fun (_ : Unit) (j : Nat) => (j : Int)) (fun _ _ => some true) (fun _ _ => True) ?_ fuelH 0 () (fuelH_len hl _) (Nat.zero_le _) trivial
 ·refine Eq.trans (bnd_s h) rfl
 ·intro self a j hj _ hself
  by_cases hjl : j < l.length
  ·have hw : w64 (iadd (j : Int) 1) = ((j + 1 : Nat) : Int) := w64_succ hjl (by omega)
   have hin : inb (j : Int) (len l) = true := inb_t (by simp only [len]; omega)
   rw [cnd_t (ilt_t (by simp only [len]; omega)), grd_t hin, grd_t hin, lgetn hjl, eqN_eq (hs _ (List.getElem_mem hjl)), bnd_some', cnd_f (by rfl), hw]
   exact hself () (j + 1) (by omega) (by omega) trivial
  ·obtain rfl : j = l.length := by omega
   rw [cnd_f (ilt_f (by simp only [len]; omega))]
theorem clone_reg {l : List Reg} (h : l.length ≤ 4000000) : q107 fuelH l = some l := by
 have h1 : grd (room (iadd (len ([] : List Reg)) (len l)) 56) (some (lapp ([] : List Reg) l)) = some l := by
  rw [grd_t (room_t (by simp only [iadd, len, List.length_nil]; omega))]; rfl
 unfold q107
 cases l with
 | nil =>
  rw [cnd_f (by rfl)]
  exact univ_of rfl h1
 | cons r l =>
  rw [cnd_t (ine_t (by simp only [len, List.length_cons]; omega))]
  exact h1
theorem clone_cmt {l : List Cmt} (h : l.length ≤ 4000000) : q108 fuelH l = some l := by
 have h1 : grd (room (iadd (len ([] : List Cmt)) (len l)) 72) (some (lapp ([] : List Cmt) l)) = some l := by
  rw [grd_t (room_t (by simp only [iadd, len, List.length_nil]; omega))]; rfl
 unfold q108
 cases l with
 | nil =>
  rw [cnd_f (by rfl)]
  exact univ_of rfl h1
 | cons r l =>
  rw [cnd_t (ine_t (by simp only [len, List.length_cons]; omega))]
  exact h1
theorem clone_ev {l : List Ev} (h : l.length ≤ 1000000) : q109 fuelH l = some l := by
 have h1 : grd (room (iadd (len ([] : List Ev)) (len l)) 88) (some (lapp ([] : List Ev) l)) = some l := by
  rw [grd_t (room_t (by simp only [iadd, len, List.length_nil]; omega))]; rfl
 unfold q109
 cases l with
 | nil =>
  rw [cnd_f (by rfl)]
  exact univ_of rfl h1
 | cons r l =>
  rw [cnd_t (ine_t (by simp only [len, List.length_cons]; omega))]
  exact h1
def cutC (d : Doc) : Doc := (d.1, d.2.1, d.2.2.1, d.2.2.2.1, d.2.2.2.2.1, d.2.2.2.2.2.1, d.2.2.2.2.2.2.1, [])
structure ThinD (d : Doc) : Prop where
 reg : d.2.2.2.2.2.1.length ≤ 1000000
 ev : d.2.2.2.2.2.2.1.length ≤ 1000000
 tiny : ∀ x ∈ d.2.2.2.2.2.2.1, tinyE x
 cm : d.2.2.2.2.2.2.2.length ≤ 1000000
theorem thin_of {d : Doc} (h : docChk d = 0) (hc : d.2.2.2.2.2.2.2.length ≤ 1000000) : ThinD d := by
 have hd := nodOk h
 refine ⟨by have := hd.nreg; omega, by have := hd.nev; omega, fun x hx => ?_, hc⟩
 obtain ⟨_, _, _, q4, q5⟩ := hd.ev x hx
 exact ⟨by omega, fun r hr => by have := (q5 r hr).1; omega⟩
theorem clone_doc {d : Doc} (h : ThinD d) : q114 fuelH d = some d := by
 have h2 := h.ev
 unfold q114
 rw [bnd_s (clone_reg (by have := h.reg; omega)), bnd_s (clone_cmt (by have := h.cm; omega)), bnd_s (clone_ev h2), jn_e]
 refine loop_inv (n := d.2.2.2.2.2.2.1.length) (fun (a : List Ev) (i : Nat) => ((i : Int), a)) (fun _ a => a = d.2.2.2.2.2.2.1) _ (fun self a i hi hI => ?_) (fun self a hI => ?_) fuelH 0 d.2.2.2.2.2.2.1 (Nat.zero_le _) (by have := fuelH_eq; omega) rfl
 ·subst hI
  have hin : inb (i : Int) (len d.2.2.2.2.2.2.1) = true := inb_t (by simp only [len]; omega)
  refine ⟨d.2.2.2.2.2.2.1, ?_, rfl⟩
  have ht : toN (i : Int) = i := by simp [toN]
  simp only
  rw [cnd_t (ilt_t (by simp only [len]; omega)), grd_t hin, lget_i hi, event_clone (h.tiny _ (List.getElem_mem hi)), bnd_some', grd_t hin, w64_succ hi (by omega), ht]
  unfold lset
  rw [List.set_getElem_self]
 ·simp only
  rw [cnd_f (ilt_f (by simp only [len]; omega)), hI]
theorem rclone_doc {d : Doc} (h : ThinD d) : q118 fuelH d = some d := by
 have h1 := h.reg
 have h2 := h.ev
 have h3 := h.cm
 unfold q118
 rw [grd_t (room_t (by simp only [iadd, len, List.length_nil]; omega)), grd_t (room_t (by simp only [iadd, len, List.length_nil]; omega)), jn_e]
 refine loop_inv (n := d.2.2.2.2.2.2.1.length) (fun (a : List Ev) (i : Nat) => (a, (i : Int))) (fun i a => a = d.2.2.2.2.2.2.1.take i) _ (fun self a i hi hI => ?_) (fun self a hI => ?_) fuelH 0 [] (Nat.zero_le _) (by have := fuelH_eq; omega) rfl
 ·have ha : a.length ≤ i := by rw [hI, List.length_take]; omega
  refine ⟨a ++ [d.2.2.2.2.2.2.1[i]], ?_, by rw [hI, List.take_succ_eq_append_getElem hi]⟩
  simp only
  rw [cnd_t (ilt_t (by simp only [len]; omega)), grd_t (inb_t (by simp only [len]; omega)), lget_i hi, r11_clone (h.tiny _ (List.getElem_mem hi)), bnd_some', grd_t (room_t (by simp only [iadd, len, List.length_singleton]; omega)), w64_succ hi (by omega)]
  rfl
 ·simp only
  rw [cnd_f (ilt_f (by simp only [len]; omega)), hI, List.take_length]
  rfl
def noD : Doc := ([], [], 0, false, 0, [], [], [])
def redR (d : Doc) : Doc := if docChk d ≠ 0 then noD else cutC d
theorem reduce_eq {d : Doc} (hs : smallD d) (hc : d.2.2.2.2.2.2.2.length ≤ 1000000) : q115 fuelH d = some (redR d) := by
 unfold q115 redR
 rw [bnd_s (document_check hs)]
 by_cases h : docChk d = 0
 ·rw [cnd_f (ine_f h), if_neg (by simpa using h), bnd_s (clone_doc (thin_of h hc))]
  rfl
 ·rw [cnd_t (ine_t h), if_pos h]
  rfl
theorem rreduce_eq {d : Doc} (hs : smallD d) (hc : d.2.2.2.2.2.2.2.length ≤ 1000000) : q119 fuelH d = some (redR d) := by
 unfold q119 redR
 rw [bnd_s (r12_check hs)]
 by_cases h : docChk d = 0
 ·rw [cnd_f (ine_f h), if_neg (by simpa using h), bnd_s (rclone_doc (thin_of h hc))]
  rfl
 ·rw [cnd_t (ine_t h), if_pos h]
  rfl
theorem self_thin {d : Doc} (h : ThinD d) (hc : d.2.2.2.2.2.2.2 = []) : q129 fuelH (d, d) = some true :=
 doc_self h.reg h.ev (fun x hx => ⟨by have := (h.tiny x hx).1; omega, fun r hr => by have := (h.tiny x hx).2 r hr; omega⟩) hc
theorem red_self {d : Doc} (hc : d.2.2.2.2.2.2.2.length ≤ 1000000) : q129 fuelH (redR d, redR d) = some true := by
 unfold redR
 by_cases h : docChk d = 0
 ·rw [if_neg (by simpa using h)]
  have ht := thin_of h hc
  exact self_thin ⟨ht.reg, ht.ev, ht.tiny, by simp [cutC]⟩ rfl
 ·rw [if_pos h]
  exact self_thin ⟨by simp [noD], by simp [noD], (fun x hx => by cases hx), by simp [noD]⟩ rfl
theorem awake21 : l21_awake fuelH () = some true := by kernel_rfl
theorem nodes_true {x : Doc} (hb : wtD x ≤ 1048576) : l21_TtmlNodes fuelH x = some true := by
 have hf := few_few hb
 have hs := bulk_small hf.wt
 have hc : (fewD x).2.2.2.2.2.2.2.length ≤ 1000000 := by have := hf.cm; omega
 have hbk := nodR_bk hf
 have hl : (nodR (fewD x)).1.length ≤ 1090000 := Nat.le_trans (bk_len (f := wtN) (fun n => by unfold wtN; omega) _) hbk
 unfold l21_TtmlNodes
 rw [awake21, bnd_some', cnd_f (by rfl), few_eq, bnd_some', bnd_s (nodes_eq hs), bnd_s (rnodes_eq hs), bnd_s (encode_eq hf), bnd_s (rencode_eq hf)]
 have ha : q104 fuelH (fewD x) = some (-1, (encR (fewD x)).2) := by
  unfold q104
  rw [bnd_s (encode_eq hf)]
 rw [bnd_s ha, bnd_s (same_eq (by omega) fun n hn => by have := (sm_of hbk n hn).asz; omega), cnd_t rfl, cnd_t (ieq_t rfl), cnd_t (by rw [seq_t]), cnd_t (ieq_t rfl), cnd_t (ieq_t rfl), cnd_t (ieq_t rfl), bnd_s (reduce_eq hs hc), bnd_s (rreduce_eq hs hc), bnd_s (red_self hc)]
end
end Go.Mo
end
