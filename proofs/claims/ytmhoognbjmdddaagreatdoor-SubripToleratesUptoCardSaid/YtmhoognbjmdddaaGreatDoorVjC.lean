/-
  Texts put together, in build order: U8 U9 U10 U11.
-/
import Derived.Test.YtmhoognbjmdddaaGreatDoorVjB
set_option linter.all false

section
/-
  Plain facts: the file of a document is read as the document as the form carries it; SubripCarries returns true.
-/
namespace Go.Mo
open Go Go.W Go.Lib
set_option maxRecDepth 100000
noncomputable section
theorem blk_run : ∀ (ls : List Ln) (i : Nat) (acc L : List Ln), (∀ l ∈ ls, l ≠ [] ∧ cln l) → blkS i acc (ls ++ L) = blkS (i + ls.length) (acc ++ ls) L
 | [], i, acc, L, _ => by simp
 | l :: ls, i, acc, L, h => by
  obtain ⟨h1, h2⟩ := h l List.mem_cons_self
  have ht := cln_trim h2
  simp only [List.cons_append, blkS, List.length_cons]
  rw [ht, if_pos h1, blk_run ls (i + 1) (acc ++ [l]) L fun m hm => h m (List.mem_cons_of_mem _ hm), List.append_assoc, List.singleton_append, show i + 1 + ls.length = i + (ls.length + 1) by omega]
theorem blk_one {ls L : List Ln} {i : Nat} (hne : ls ≠ []) (h : ∀ l ∈ ls, l ≠ [] ∧ cln l) : blkS i [] (ls ++ [] :: L) = (ls, i + 1) :: blkS (i + ls.length + 1) [] L := by
 rw [blk_run ls i [] ([] :: L) h, List.nil_append]
 simp only [blkS]
 rw [if_neg (by rw [show trimR [] = [] from rfl]; simp), if_neg hne, Nat.add_sub_cancel]
theorem body_ok {d : Doc} (hc : docChk d = 0) {x : Ev} (hx : x ∈ d.2.2.2.2.2.2.1) (hw : WrOk d.2.2.1 x) {n : Nat} (hn : n < 20) : (∀ l ∈ bodyL d.2.2.1 n x, l ≠ [] ∧ cln l) ∧ tmS (tlQ d.2.2.1 x) = ((milS d.2.2.1 x.2.1.1).1, (milS d.2.2.1 x.2.1.2).1, true) ∧ (mkL x).map pmS = x.2.2.2.2.2.map carr := by
 obtain ⟨_, _, _, _, _, h5, _⟩ := ev_ok (ev_rows hc hx)
 obtain ⟨_, a1, a2⟩ := fm_mil hw.m1
 obtain ⟨_, b1, b2⟩ := fm_mil hw.m2
 obtain ⟨_, c1, c2, c3⟩ := clk_cln a1 a2
 obtain ⟨_, d1, d2, d3⟩ := clk_cln b1 b2
 obtain ⟨n1, _, n3⟩ := num_line hn
 refine ⟨fun l hl => ?_, tm_line c2 d2 c3 d3, ?_⟩
 ·unfold bodyL at hl
  rcases List.mem_cons.1 hl with rfl | hl
  ·exact ⟨n3, n1⟩
  rcases List.mem_cons.1 hl with rfl | hl
  ·refine ⟨fun k => ?_, cln_app (cln_app c1 (by unfold cln arrow; decide)) d1⟩
   have := congrArg List.length k
   unfold tlQ at this
   rw [List.length_append, d2, List.length_nil] at this
   omega
  ·obtain ⟨q, hq, rfl⟩ := List.mem_map.1 hl
   obtain ⟨k1, k2, _⟩ := mk_line (h5 q hq) (hw.rows q hq)
   exact ⟨k2, k1⟩
 ·unfold mkL
  rw [List.map_map]
  exact List.map_congr_left fun q hq => (mk_line (h5 q hq) (hw.rows q hq)).2.2
theorem bd_read {d : Doc} (hc : docChk d = 0) {x : Ev} (hx : x ∈ d.2.2.2.2.2.2.1) (hw : WrOk d.2.2.1 x) {n f : Nat} (hn : n < 19) {h : Ln} (ht : tmS h = ((milS d.2.2.1 x.2.1.1).1, (milS d.2.2.1 x.2.1.2).1, true)) : bdS d.2.2.1 n h (mkL x) f = .inl (evQ n x) := by
 obtain ⟨_, _, h3⟩ := body_ok hc hx hw (n := n + 1) (by omega)
 have f1 := (fm_mil hw.m1).1
 have f2 := (fm_mil hw.m2).1
 have e : evB d.2.2.1 n h (mkL x) = evQ n x := by
  unfold evB evQ
  rw [ht, h3]
  dsimp only
  rw [f1, f2]
 unfold bdS
 rw [e, ht]
 dsimp only
 rw [f1, f2, if_neg (by simp), if_neg (by omega), if_neg (by simp), if_neg (by simp), if_neg (by rw [evQ_chk hc hx (by omega)]; simp)]
theorem rd_read {d : Doc} (hc : docChk d = 0) {x : Ev} (hx : x ∈ d.2.2.2.2.2.2.1) (hw : WrOk d.2.2.1 x) {n f : Nat} (hn : n < 19) : rdS d.2.2.1 n (bodyL d.2.2.1 (n + 1) x) f = .inl (evQ n x) := by
 obtain ⟨_, h2, _⟩ := body_ok hc hx hw (n := n + 1) (by omega)
 unfold bodyL
 rw [rd2, if_pos (num_line (by omega)).2.1, bd_read hc hx hw hn h2]
theorem fold_file {d : Doc} (hc : docChk d = 0) : ∀ (l : List Ev) (i : Nat) (E : List Ev), E.length + l.length ≤ 19 → (∀ x ∈ l, x ∈ d.2.2.2.2.2.2.1 ∧ WrOk d.2.2.1 x) → (blkS i [] (fileL d.2.2.1 E.length l ++ [[]])).foldl (goS d.2.2.1) (E, []) = (E ++ evsQ E.length l, [])
 | [], i, E, _, _ => by
  simp [fileL, blkS, trimR, evsQ]
 | x :: l, i, E, hn, h => by
  obtain ⟨h1, h2⟩ := h x List.mem_cons_self
  simp only [List.length_cons] at hn
  have hb := (body_ok hc h1 h2 (n := E.length + 1) (by omega)).1
  have hne : bodyL d.2.2.1 (E.length + 1) x ≠ [] := by unfold bodyL; simp
  have hg : goS d.2.2.1 (E, []) (bodyL d.2.2.1 (E.length + 1) x, i + 1) = (E ++ [evQ E.length x], []) := by
   unfold goS
   dsimp only
   rw [rd_read hc h1 h2 (show E.length < 19 by omega)]
   rfl
  have ih := fold_file hc l (i + (bodyL d.2.2.1 (E.length + 1) x).length + 1) (E ++ [evQ E.length x]) (by rw [List.length_append, List.length_singleton]; omega) fun y hy => h y (List.mem_cons_of_mem _ hy)
  rw [List.length_append, List.length_singleton] at ih
  simp only [fileL, List.append_assoc, List.cons_append]
  rw [blk_one hne hb, List.foldl_cons, hg, ih]
  simp [evsQ]
theorem evsQ_sorted {d : Doc} (h : docChk d = 0) : (evsQ 0 d.2.2.2.2.2.2.1).Pairwise lessE := by
 obtain ⟨_, _, h3⟩ := doc_evs h
 refine chain_pw _ fun k hk => ?_
 have hl := evsQ_len d.2.2.2.2.2.2.1 0
 have h1 : k + 1 < d.2.2.2.2.2.2.1.length := by omega
 have h2 : k < d.2.2.2.2.2.2.1.length := by omega
 rw [evsQ_at _ k h2 (by omega), evsQ_at _ (k + 1) h1 hk]
 have := (evRnd_ok (h3 (k + 1) h1)).2.2.1
 rw [last_take h2] at this
 simp only [ordB, decide_eq_true_eq] at this
 unfold lessE at this ⊢
 show (d.2.2.2.2.2.2.1[k]).2.1.1 < (d.2.2.2.2.2.2.1[k + 1]).2.1.1 ∨ ((d.2.2.2.2.2.2.1[k]).2.1.1 = (d.2.2.2.2.2.2.1[k + 1]).2.1.1 ∧ ((k + 1 : Nat) : Int) < ((k + 1 + 1 : Nat) : Int))
 omega
theorem dec_doc {d : Doc} (hc : docChk d = 0) (hf : fewE d) {s : List UInt8} (hs : s.length ≤ 262144) (hr : rdQ d.2.2.1 s = (evsQ 0 d.2.2.2.2.2.2.1, [])) : q110 fuelH (s, d.2.2.1, d.2.2.2.1) = some (docQ d, []) := by
 unfold fewE at hf
 have hl := evsQ_len d.2.2.2.2.2.2.1 0
 rw [sub_decode (by omega) (by rw [hr]; dsimp only; omega)]
 unfold decQ docQ
 rw [if_neg (rate_of (doc_evs hc).1), if_neg (by omega), hr]
 dsimp only
 rw [sort_id (evsQ_sorted hc)]
 simp only [len, hl]
theorem rd_file {d : Doc} (hc : docChk d = 0) (hf : fewE d) {s : List UInt8} (h : filQ d.2.2.1 0 d.2.2.2.2.2.2.1 = .inr s) : rdQ d.2.2.1 s = (evsQ 0 d.2.2.2.2.2.2.1, []) ∧ linesL s = fileL d.2.2.1 0 d.2.2.2.2.2.2.1 ++ [[]] ∧ ∀ x ∈ d.2.2.2.2.2.2.1, WrOk d.2.2.1 x := by
 unfold fewE at hf
 obtain ⟨h1, h2⟩ := file_lines h
 have hcl : ∀ (l : List Ev) (i : Nat), i + l.length ≤ 19 → (∀ x ∈ l, x ∈ d.2.2.2.2.2.2.1) → ∀ y ∈ fileL d.2.2.1 i l, (10 : UInt8) ∉ y := by
  intro l
  induction l with
  | nil => intro i _ _ y hy; cases hy
  | cons x l ih =>
   intro i hi hx y hy
   simp only [List.length_cons] at hi
   simp only [fileL] at hy
   have hxm := hx x List.mem_cons_self
   rcases List.mem_append.1 hy with hy | hy
   ·exact cln_10 (((body_ok hc hxm (h2 x hxm) (n := i + 1) (by omega)).1 y hy).2)
   rcases List.mem_cons.1 hy with rfl | hy
   ·simp
   ·exact ih (i + 1) (by omega) (fun z hz => hx z (List.mem_cons_of_mem _ hz)) y hy
 have hL : linesL s = fileL d.2.2.1 0 d.2.2.2.2.2.2.1 ++ [[]] := by
  have := lines_join (fileL d.2.2.1 0 d.2.2.2.2.2.2.1) [] (hcl _ 0 (by omega) fun x hx => hx)
  rw [List.append_nil, ← h1] at this
  exact this
 refine ⟨?_, hL, h2⟩
 unfold rdQ
 rw [hL]
 exact fold_file hc d.2.2.2.2.2.2.1 0 [] (by simp only [List.length_nil]; omega) fun x hx => ⟨hx, h2 x hx⟩
theorem enc_cases {d : Doc} : (∃ i e, encQ d = ([], i, e) ∧ e ≠ 0) ∨ ∃ s, docChk d = 0 ∧ filQ d.2.2.1 0 d.2.2.2.2.2.2.1 = .inr s ∧ s.length ≤ 262144 ∧ encQ d = (s, -1, 0) := by
 unfold encQ
 by_cases h : docChk d ≠ 0
 ·rw [if_pos h]
  exact .inl ⟨_, _, rfl, h⟩
 rw [if_neg h]
 cases hq : filQ d.2.2.1 0 d.2.2.2.2.2.2.1 with
 | inl z => exact .inl ⟨_, _, rfl, fil_err hq⟩
 | inr s =>
  dsimp only
  by_cases hl : 262144 < s.length
  ·rw [if_pos hl]
   exact .inl ⟨_, _, rfl, by simp⟩
  ·rw [if_neg hl]
   exact .inr ⟨s, by simpa using h, rfl, by omega, rfl⟩
theorem few_E (d : Doc) : fewE (fewQ d) := by unfold fewE fewQ; dsimp only; rw [List.length_take]; omega
end
end Go.Mo
end

section
/-
  Plain facts: carriage returns, full stops in times, more empty lines and missing numbers change nothing; SubripTolerates returns true.
-/
namespace Go.Mo
open Go Go.W Go.Lib
set_option maxRecDepth 100000
noncomputable section
theorem blk_trim : ∀ (P Q : List Ln) (i : Nat) (acc : List Ln), P.map trimR = Q.map trimR → blkS i acc P = blkS i acc Q
 | [], [], _, _, _ => rfl
 | [], _ :: _, _, _, h => by cases h
 | _ :: _, [], _, _, h => by cases h
 | p :: P, q :: Q, i, acc, h => by
  rw [List.map_cons, List.map_cons] at h
  injection h with h1 h2
  simp only [blkS]
  rw [h1, blk_trim P Q (i + 1) (acc ++ [trimR q]) h2, blk_trim P Q (i + 1) [] h2]
theorem blk_blank : ∀ (n i : Nat), blkS i [] (List.replicate n []) = []
 | 0, _ => rfl
 | n + 1, i => by
  rw [List.replicate_succ]
  simp only [blkS]
  rw [if_neg (by rw [show trimR [] = [] from rfl]; simp), if_pos True.intro, blk_blank n (i + 1)]
theorem trim_cr {l : Ln} : trimR (l ++ [13]) = l := by
 unfold trimR
 rw [List.getLast?_append, List.getLast?_singleton, Option.some_or, if_pos rfl, List.dropLast_concat]
def fileF (B : Nat → Ev → List Ln) : Nat → List Ev → List Ln
 | _, [] => []
 | i, x :: l => B (i + 1) x ++ [] :: fileF B (i + 1) l
theorem fold_fileF {d : Doc} {B : Nat → Ev → List Ln} (m : Nat) : ∀ (l : List Ev) (i : Nat) (E : List Ev), (∀ x ∈ l, ∀ n, n < E.length + l.length → B (n + 1) x ≠ [] ∧ (∀ y ∈ B (n + 1) x, y ≠ [] ∧ cln y) ∧ ∀ f, rdS d.2.2.1 n (B (n + 1) x) f = .inl (evQ n x)) → (blkS i [] (fileF B E.length l ++ List.replicate m [])).foldl (goS d.2.2.1) (E, []) = (E ++ evsQ E.length l, [])
 | [], i, E, _ => by
  simp only [fileF, List.nil_append]
  rw [blk_blank]
  simp [evsQ]
 | x :: l, i, E, h => by
  obtain ⟨hne, hb, hr⟩ := h x List.mem_cons_self E.length (by simp)
  have hg : goS d.2.2.1 (E, []) (B (E.length + 1) x, i + 1) = (E ++ [evQ E.length x], []) := by
   unfold goS
   dsimp only
   rw [hr]
   rfl
  have ih := fold_fileF (d := d) (B := B) m l (i + (B (E.length + 1) x).length + 1) (E ++ [evQ E.length x]) fun y hy n hn => h y (List.mem_cons_of_mem _ hy) n (by simp only [List.length_append, List.length_nil, List.length_cons] at hn ⊢; omega)
  rw [List.length_append, List.length_singleton] at ih
  simp only [fileF, List.append_assoc, List.cons_append]
  rw [blk_one hne hb, List.foldl_cons, hg, ih]
  simp [evsQ]
def joinR (p : List Ln) : List UInt8 := p.flatMap fun l => l ++ [13, 10]
theorem joinR_L (p : List Ln) : joinR p = joinL (p.map fun l => l ++ [13]) := by
 unfold joinR joinL
 rw [List.flatMap_map]
 simp
theorem lines_R {p : List Ln} (h : ∀ l ∈ p, cln l) : linesL (10 :: (joinR p ++ [10, 10])) = [] :: ((p.map fun l => l ++ [13]) ++ [[], [], []]) := by
 have h0 : linesL ([] ++ 10 :: (joinR p ++ [10, 10])) = [] :: linesL (joinR p ++ [10, 10]) := lines_cut (by simp)
 rw [List.nil_append] at h0
 rw [h0, joinR_L, lines_join _ _ fun l hl => by
  obtain ⟨q, hq, rfl⟩ := List.mem_map.1 hl
  intro k
  rcases List.mem_append.1 k with k | k
  ·exact cln_10 (h q hq) k
  ·exact absurd (List.mem_singleton.1 k) (by decide)]
 rfl
theorem rd_R {d : Doc} {B : Nat → Ev → List Ln} {l : List Ev} {m : Nat} (h : ∀ x ∈ l, ∀ n, n < l.length → B (n + 1) x ≠ [] ∧ (∀ y ∈ B (n + 1) x, y ≠ [] ∧ cln y) ∧ ∀ f, rdS d.2.2.1 n (B (n + 1) x) f = .inl (evQ n x)) (hc : ∀ y ∈ fileF B 0 l ++ List.replicate m [], cln y) : rdQ d.2.2.1 (10 :: (joinR (fileF B 0 l ++ List.replicate m []) ++ [10, 10])) = (evsQ 0 l, []) := by
 unfold rdQ
 rw [lines_R hc]
 have e : blkS 0 [] ([] :: (((fileF B 0 l ++ List.replicate m []).map fun l => l ++ [13]) ++ [[], [], []])) = blkS 1 [] (fileF B 0 l ++ List.replicate (m + 3) []) := by
  simp only [blkS]
  rw [if_neg (by rw [show trimR [] = [] from rfl]; simp), if_pos True.intro]
  refine blk_trim _ _ _ _ ?_
  have hz : fileF B 0 l ++ List.replicate (m + 3) [] = (fileF B 0 l ++ List.replicate m []) ++ [[], [], []] := by
   rw [← List.replicate_append_replicate (n := m) (m := 3), ← List.append_assoc]
   rfl
  rw [hz]
  generalize fileF B 0 l ++ List.replicate m [] = Z at hc ⊢
  rw [List.map_append, List.map_append, List.map_map]
  congr 1
  exact List.map_congr_left fun y hy => trim_cr.trans (cln_trim (hc y hy)).symm
 rw [e]
 have := fold_fileF (d := d) (B := B) (m + 3) l 1 [] (by simpa using h)
 simpa using this
def lnX (b : Bool) (l : Ln) : Ln := if Lib.index l arrow = 12 then (if b = true then Lib.replace l [44] [46] 2 else l) else l
def tolT (b : Bool) : List Ln → Bool → List UInt8
 | [], _ => []
 | l :: r, n => (if n = true ∧ b = true then [] else lnX b l ++ [13, 10]) ++ tolT b r (seq (lnX b l) [])
def tolR {R : Type} (b : Bool) (_ : Nat) (l : Ln) (a : List UInt8 × Bool) : Option R ⊕ (List UInt8 × Bool) := .inr (a.1 ++ (if a.2 = true ∧ b = true then [] else lnX b l ++ [13, 10]), seq (lnX b l) [])
theorem tol_it {R : Type} (b : Bool) (K : List UInt8 → Option R) : ∀ (L : List Ln) (i : Nat) (a : List UInt8 × Bool), itI (tolR b) (fun a => K a.1) i L a = K (a.1 ++ tolT b L a.2)
 | [], _, a => by simp [itI, tolT]
 | l :: L, i, a => by
  simp only [itI, tolR, tolT]
  refine (tol_it b K L (i + 1) _).trans ?_
  rw [List.append_assoc]
theorem tol_loop {R : Type} {b : Bool} {L : List Ln} (hL : L.length ≤ 2000) (hl : ∀ l ∈ L, l.length ≤ 20000 ∧ (lnX b l).length ≤ 20000) (K : List UInt8 → Option R) :
  fixN (fun (v9 : (List UInt8 × Bool × Int) → Option R) (v10 : List UInt8 × Bool × Int) =>
    cnd (ilt v10.2.2 (len L))
     (grd (inb v10.2.2 (len L))
      (jn (fun (v11 : List UInt8) =>
       cnd (bnot v10.2.1)
        (grd (catOk (iadd (len v11) (len ([13, 10] : List UInt8))))
         (grd (catOk (iadd (len v10.1) (len (lapp v11 ([13, 10] : List UInt8)))))
          (v9 (lapp v10.1 (lapp v11 ([13, 10] : List UInt8)), seq v11 ([] : List UInt8), w64 (iadd v10.2.2 (1 : Int))))))
        (cnd (bnot b)
         (grd (catOk (iadd (len v11) (len ([13, 10] : List UInt8))))
          (grd (catOk (iadd (len v10.1) (len (lapp v11 ([13, 10] : List UInt8)))))
           (v9 (lapp v10.1 (lapp v11 ([13, 10] : List UInt8)), seq v11 ([] : List UInt8), w64 (iadd v10.2.2 (1 : Int))))))
         (v9 (v10.1, seq v11 ([] : List UInt8), w64 (iadd v10.2.2 (1 : Int))))))
      fun v12 =>
      bnd (strings_Index fuelH (lget L (toN v10.2.2) [], ([32, 45, 45, 62, 32] : List UInt8))) fun v13 =>
      cnd (ieq v13 (12 : Int))
       (cnd b
        (bnd (strings_Replace fuelH (lget L (toN v10.2.2) [], ([44] : List UInt8), ([46] : List UInt8), (2 : Int))) fun v14 =>
        v12 v14)
        (v12 (lget L (toN v10.2.2) [])))
       (v12 (lget L (toN v10.2.2) []))))
     (K v10.1)) fuelH (([10] : List UInt8), true, (0 : Int)) = K (10 :: tolT b L true) := by
 refine (lst_it (l := L) (fun (a : List UInt8 × Bool) (i : Nat) => (a.1, a.2, (i : Int))) (tolR b) (fun a => K a.1) (fun i a => a.1.length ≤ 1 + 20002 * i) (fun self a i hi hI => ?_) (fun self a hI => ?_) fuelH 0 ([10], true) (Nat.zero_le _) (by have := fuelH_eq; omega) (by simp)).trans ?_
 ·obtain ⟨hl1, hl2⟩ := hl _ (List.getElem_mem hi)
  have step : ∀ v : Ln, v = lnX b L[i] → Rnd (cnd (bnot a.2)
        (grd (catOk (iadd (len v) (len ([13, 10] : List UInt8))))
         (grd (catOk (iadd (len a.1) (len (lapp v ([13, 10] : List UInt8)))))
          (self (lapp a.1 (lapp v ([13, 10] : List UInt8)), seq v ([] : List UInt8), ((i + 1 : Nat) : Int)))))
        (cnd (bnot b)
         (grd (catOk (iadd (len v) (len ([13, 10] : List UInt8))))
          (grd (catOk (iadd (len a.1) (len (lapp v ([13, 10] : List UInt8)))))
           (self (lapp a.1 (lapp v ([13, 10] : List UInt8)), seq v ([] : List UInt8), ((i + 1 : Nat) : Int)))))
         (self (a.1, seq v ([] : List UInt8), ((i + 1 : Nat) : Int))))) self (fun a => (a.1, a.2, ((i + 1 : Nat) : Int))) (fun a => a.1.length ≤ 1 + 20002 * (i + 1)) (tolR b i L[i] a) := fun v hv => by
   subst hv
   have g1 : catOk (iadd (len (lnX b L[i])) (len ([13, 10] : List UInt8))) = true := cat_ok (by simp only [List.length_cons, List.length_nil]; omega)
   have g2 : catOk (iadd (len a.1) (len (lapp (lnX b L[i]) ([13, 10] : List UInt8)))) = true := cat_ok (by unfold lapp; simp only [List.length_append, List.length_cons, List.length_nil]; omega)
   unfold tolR
   by_cases h1 : a.2 = true ∧ b = true
   ·rw [if_pos h1, h1.1, h1.2, cnd_f (by rfl), cnd_f (by rfl), List.append_nil]
    exact ⟨rfl, by dsimp only; omega⟩
   ·rw [if_neg h1]
    refine ⟨?_, by simp only [List.length_append, List.length_cons, List.length_nil]; omega⟩
    by_cases h2 : a.2 = true
    ·have h3 : b = false := by cases b with
      | false => rfl
      | true => exact absurd ⟨h2, rfl⟩ h1
     subst h3
     rw [h2, cnd_f (by rfl), cnd_t (by rfl), grd_t g1, grd_t g2]
     rfl
    ·have h2 : a.2 = false := by simpa using h2
     rw [h2, cnd_t (by rfl), grd_t g1, grd_t g2]
     rfl
  dsimp only
  rw [cnd_t (ilt_t (by simp only [len]; omega)), grd_t (inb_t (by simp only [len]; omega)), lget_i hi, w64_succ hi (by omega), jn_e]
  have hix : strings_Index fuelH (L[i], [32, 45, 45, 62, 32]) = some (Lib.index L[i] arrow) := by
   unfold strings_Index hand_strings_Index
   rw [grd_t (decide_eq_true (show L[i].length < 4294967281 by omega))]
   rfl
  rw [hix, bnd_some', cnd_ieq]
  by_cases h1 : Lib.index L[i] arrow = 12
  ·rw [if_pos h1]
   cases b with
   | false =>
    rw [cnd_f rfl]
    exact step L[i] (by unfold lnX; rw [if_pos h1]; rfl)
   | true =>
    have hre : strings_Replace fuelH (L[i], [44], [46], 2) = some (Lib.replace L[i] [44] [46] 2) := by
     have hc := Lib.count_le L[i] [44]
     unfold strings_Replace hand_strings_Replace
     rw [grd_t (decide_eq_true (show L[i].length < 4294967281 by omega)), grd_t (by rfl), grd_t (decide_eq_true (by simp only [List.length_cons, List.length_nil]; omega))]
    rw [cnd_t rfl, hre, bnd_some']
    exact step _ (by unfold lnX; rw [if_pos h1]; rfl)
  ·rw [if_neg h1]
   exact step L[i] (by unfold lnX; rw [if_neg h1])
 ·dsimp only
  rw [cnd_f (ilt_f (by simp only [len]; omega))]
 ·rw [List.drop_zero]
  exact tol_it b K L 0 ([10], true)
end
end Go.Mo
end

section
/-
  Plain facts: the lines of a file under the law's changes; SubripTolerates returns true.
-/
namespace Go.Mo
open Go Go.W Go.Lib
set_option maxRecDepth 100000
noncomputable section
theorem idx_one : ∀ {p q : Ln}, (44 : UInt8) ∉ p → Lib.index (p ++ 44 :: q) [44] = (p.length : Int) := by
 intro p q h
 rw [Lib.index_one]
 induction p with
 | nil => simp [Lib.indexByte]
 | cons b p ih =>
  have hb : b ≠ 44 := fun e => h (by rw [e]; exact List.mem_cons_self)
  have hp := ih fun k => h (List.mem_cons_of_mem _ k)
  rw [List.cons_append]
  unfold Lib.indexByte
  rw [if_neg (by simpa using hb), if_neg (by rw [hp]; simp), hp, List.length_cons]
  omega
theorem idx_no : ∀ {p : Ln}, (44 : UInt8) ∉ p → Lib.index p [44] = -1 := by
 intro p h
 rw [Lib.index_one]
 induction p with
 | nil => rfl
 | cons b p ih =>
  have hb : b ≠ 44 := fun e => h (by rw [e]; exact List.mem_cons_self)
  have hp := ih fun k => h (List.mem_cons_of_mem _ k)
  unfold Lib.indexByte
  rw [if_neg (by simpa using hb), if_pos (by rw [hp]; rfl)]
theorem drop_one (p q : Ln) : (p ++ (44 : UInt8) :: q).drop (p.length + ([44] : Ln).length) = q := by
 rw [show p ++ (44 : UInt8) :: q = (p ++ [44]) ++ q by simp]
 exact List.drop_left' (by simp)
theorem replace_two {p q t : Ln} (h1 : (44 : UInt8) ∉ p) (h2 : (44 : UInt8) ∉ q) (h3 : (44 : UInt8) ∉ t) : Lib.replace (p ++ 44 :: (q ++ 44 :: t)) [44] [46] 2 = p ++ 46 :: (q ++ 46 :: t) := by
 have i1 := idx_one (q := q ++ 44 :: t) h1
 have i2 := idx_one (q := t) h2
 have c3 : Lib.count t [44] = 0 := Lib.count_miss (idx_no h3)
 have c2 : Lib.count (q ++ 44 :: t) [44] = 1 := by rw [Lib.count_hit (by simp) i2, drop_one, c3]
 have c1 : Lib.count (p ++ 44 :: (q ++ 44 :: t)) [44] = 2 := by rw [Lib.count_hit (by simp) i1, drop_one, c2]
 have hn : Lib.replaceNum (p ++ 44 :: (q ++ 44 :: t)) [44] 2 = 2 := by
  unfold Lib.replaceNum
  rw [c1]
  rfl
 have t1 : (p ++ (44 : UInt8) :: (q ++ 44 :: t)).take p.length = p := List.take_left
 have t2 : (q ++ (44 : UInt8) :: t).take q.length = q := List.take_left
 unfold Lib.replace
 rw [if_neg (by decide), hn, Lib.replaceK_hit _ _ 1 _ _ i1, drop_one, Lib.replaceK_hit _ _ 0 _ _ i2, drop_one, t1, t2]
 simp [Lib.replaceK]
theorem repK_len : ∀ (k : Nat) (s : Ln), (Lib.replaceK [44] [46] k s).length = s.length
 | 0, _ => rfl
 | k + 1, s => by
  have hr := Lib.index_room s [44]
  have hg := Lib.index_ge s [44]
  unfold Lib.replaceK
  split
  ·rfl
  ·rename_i h
   have h : Lib.index s [44] ≠ -1 := by simpa using h
   have hr := hr (by omega)
   simp only [List.length_append, List.length_take, List.length_cons, List.length_nil] at hr ⊢
   rw [repK_len k, List.length_drop]
   omega
theorem lnX_len (b : Bool) (l : Ln) : (lnX b l).length = l.length := by
 unfold lnX
 split
 ·split
  ·unfold Lib.replace
   rw [if_neg (by decide), repK_len]
  ·rfl
 ·rfl
theorem dg_ne {v : Int} (h : 0 ≤ v) {b : UInt8} (hb : ¬ isD b) : dg v ≠ b := fun e => hb (e ▸ dg_is h)
def okB (b : UInt8) : Prop := b ≠ 44 ∧ b ≠ 32 ∧ b ≠ 10 ∧ b ≠ 13
theorem dg_ok {v : Int} (h : 0 ≤ v) : okB (dg v) := ⟨dg_ne h (by unfold isD; decide), dg_ne h (by unfold isD; decide), dg_ne h (by unfold isD; decide), dg_ne h (by unfold isD; decide)⟩
theorem clk_split {v : Int} (h0 : 0 ≤ v) (h1 : v ≤ 86486400) : ∃ H T : Ln, (clkS v).1 = H ++ 44 :: T ∧ H.length = 8 ∧ T.length = 3 ∧ (∀ b ∈ H, okB b) ∧ (∀ b ∈ T, okB b) ∧ pcB (H ++ 46 :: T) = (v, 0) := by
 obtain ⟨e, _, _, hp⟩ := clk_cln h0 h1
 have a1 : 0 ≤ v / 3600000 ∧ v / 3600000 ≤ 1000000 := by omega
 have a2 : 0 ≤ v / 60000 % 60 ∧ v / 60000 % 60 ≤ 1000000 := by omega
 have a3 : 0 ≤ v / 1000 % 60 ∧ v / 1000 % 60 ≤ 1000000 := by omega
 have a4 : 0 ≤ v % 1000 ∧ v % 1000 ≤ 999 := by omega
 have a5 : dv (v % 1000) = v % 1000 / 10 := dv_eq (by omega)
 rw [e] at hp ⊢
 unfold clkB at hp ⊢
 have c58 : okB 58 := by unfold okB; decide
 have k1 := dg_ok (dv_pos a1)
 have k2 := dg_ok a1.1
 have k3 := dg_ok (dv_pos a2)
 have k4 := dg_ok a2.1
 have k5 := dg_ok (dv_pos a3)
 have k6 := dg_ok a3.1
 have k7 := dg_ok (v := dv (dv (v % 1000))) (dv_pos (by rw [a5]; omega))
 have k8 := dg_ok (v := dv (v % 1000)) (by rw [a5]; omega)
 have k9 := dg_ok a4.1
 refine ⟨[_, _, _, _, _, _, _, _], [_, _, _], rfl, rfl, rfl, fun b hb => ?_, fun b hb => ?_, ?_⟩
 ·simp only [List.mem_cons, List.not_mem_nil, or_false] at hb
  rcases hb with rfl | rfl | rfl | rfl | rfl | rfl | rfl | rfl <;> assumption
 ·simp only [List.mem_cons, List.not_mem_nil, or_false] at hb
  rcases hb with rfl | rfl | rfl <;> assumption
 ·simp only [List.cons_append, List.nil_append]
  rw [pcB_eq, if_neg (by simp), if_neg (by simp), if_neg (by decide)] at hp
  rw [pcB_eq, if_neg (by simp), if_neg (by simp), if_neg (by decide)]
  exact hp
theorem occ_no {c rest : Ln} (hc : ∀ b ∈ c, b ≠ 32) {j : Nat} (hj : j < c.length) : Lib.occAt (c ++ rest) arrow j = false := by
 unfold Lib.occAt arrow
 rw [List.drop_append_of_le_length (by omega), List.drop_eq_getElem_cons hj, List.cons_append]
 have := hc _ (List.getElem_mem hj)
 unfold List.isPrefixOf
 rw [Bool.and_eq_false_iff]
 left
 simpa using fun e => this e.symm
theorem tl_dot {r : UInt8} {x : Ev} (hw : WrOk r x) : ∃ h : Ln, lnX true (tlQ r x) = h ∧ h.length = 29 ∧ cln h ∧ tmS h = ((milS r x.2.1.1).1, (milS r x.2.1.2).1, true) := by
 obtain ⟨_, a1, a2⟩ := fm_mil hw.m1
 obtain ⟨_, b1, b2⟩ := fm_mil hw.m2
 obtain ⟨H1, T1, e1, l1, m1, o1, p1, q1⟩ := clk_split a1 a2
 obtain ⟨H2, T2, e2, l2, m2, o2, p2, q2⟩ := clk_split b1 b2
 have hA : ∀ b ∈ arrow, b ≠ 44 ∧ b ≠ 10 ∧ b ≠ 13 := by unfold arrow; decide
 have htl : tlQ r x = H1 ++ 44 :: ((T1 ++ arrow ++ H2) ++ 44 :: T2) := by
  unfold tlQ
  rw [e1, e2]
  simp
 have htl2 : tlQ r x = (H1 ++ 44 :: T1) ++ (arrow ++ (H2 ++ 44 :: T2)) := by
  unfold tlQ
  rw [e1, e2]
  simp
 have hlen : (H1 ++ 44 :: T1).length = 12 := by simp only [List.length_append, List.length_cons]; omega
 have hix : Lib.index (tlQ r x) arrow = 12 := by
  have := Lib.index_first (s := tlQ r x) (sub := arrow) (i := 12) (by rw [htl2, List.length_append]; omega) (by
   unfold Lib.occAt
   rw [htl2, List.drop_left' hlen]
   simp [arrow, List.isPrefixOf]) fun j hj => by
    rw [htl2]
    refine occ_no (fun b hb => ?_) (by omega)
    rcases List.mem_append.1 hb with hb | hb
    ·exact (o1 b hb).2.1
    ·rcases List.mem_cons.1 hb with rfl | hb
     ·decide
     ·exact (p1 b hb).2.1
  exact this
 have hre : Lib.replace (tlQ r x) [44] [46] 2 = H1 ++ 46 :: ((T1 ++ arrow ++ H2) ++ 46 :: T2) := by
  rw [htl]
  refine replace_two (fun k => (o1 _ k).1 rfl) (fun k => ?_) (fun k => (p2 _ k).1 rfl)
  rcases List.mem_append.1 k with k | k
  ·rcases List.mem_append.1 k with k | k
   ·exact (p1 _ k).1 rfl
   ·exact (hA _ k).1 rfl
  ·exact (o2 _ k).1 rfl
 have hform : H1 ++ 46 :: ((T1 ++ arrow ++ H2) ++ 46 :: T2) = (H1 ++ 46 :: T1) ++ arrow ++ (H2 ++ 46 :: T2) := by simp
 have cc : ∀ {H T : Ln}, (∀ b ∈ H, okB b) → (∀ b ∈ T, okB b) → cln (H ++ 46 :: T) := fun h1 h2 b hb => by
  rcases List.mem_append.1 hb with hb | hb
  ·exact (h1 b hb).2.2
  ·rcases List.mem_cons.1 hb with rfl | hb
   ·decide
   ·exact (h2 b hb).2.2
 have hl1 : (H1 ++ 46 :: T1).length = 12 := by simp only [List.length_append, List.length_cons]; omega
 have hl2 : (H2 ++ 46 :: T2).length = 12 := by simp only [List.length_append, List.length_cons]; omega
 refine ⟨(H1 ++ 46 :: T1) ++ arrow ++ (H2 ++ 46 :: T2), ?_, ?_, ?_, tm_line hl1 hl2 q1 q2⟩
 ·unfold lnX
  rw [if_pos hix, if_pos rfl, hre, hform]
 ·rw [List.length_append, List.length_append, hl1, hl2]
  rfl
 ·exact cln_app (cln_app (cc o1 p1) fun b hb => (hA b hb).2) (cc o2 p2)
def gt2 : UInt8 → Ln → Bool
 | _, [] => true
 | p, b :: l => !(b == 62 && p == 45) && gt2 b l
def lastB : UInt8 → Ln → UInt8
 | p, [] => p
 | _, b :: l => lastB b l
theorem gt2_app : ∀ (a b : Ln) (p : UInt8), gt2 p (a ++ b) = (gt2 p a && gt2 (lastB p a) b)
 | [], _, _ => by simp [gt2, lastB]
 | c :: a, b, p => by simp only [List.cons_append, gt2, lastB, gt2_app a b c, Bool.and_assoc]
theorem gt2_no : ∀ (l : Ln) (p : UInt8), (∀ b ∈ l, b ≠ 62) → gt2 p l = true
 | [], _, _ => rfl
 | c :: l, p, h => by
  have hc := h c List.mem_cons_self
  simp only [gt2]
  rw [gt2_no l c fun b hb => h b (List.mem_cons_of_mem _ hb), Bool.and_true]
  simp [hc]
theorem gt2_wr {x : Run} (h : ∀ b ∈ x.1, b ≠ 62) (p : UInt8) : gt2 p (wrX x) = true := by
 have t1 : ∀ p, gt2 p ti = true := fun p => rfl
 have t2 : ∀ p, gt2 p tI = true := fun p => rfl
 have t3 : ∀ p, gt2 p tu = true := fun p => rfl
 have t4 : ∀ p, gt2 p tU = true := fun p => rfl
 have hu : ∀ p, gt2 p (wrU x) = true := fun p => by
  unfold wrU
  split
  ·rw [gt2_app, gt2_app, t3, gt2_no _ _ h, t4]
   rfl
  ·exact gt2_no _ _ h
 unfold wrX
 split
 ·rw [gt2_app, gt2_app, t1, hu, t2]
  rfl
 ·exact hu p
theorem gt2_flat : ∀ (l : Row) (p : UInt8), (∀ x ∈ l, ∀ b ∈ x.1, b ≠ 62) → gt2 p (l.flatMap wrX) = true
 | [], _, _ => rfl
 | x :: l, p, h => by
  rw [List.flatMap_cons, gt2_app, gt2_wr (h x List.mem_cons_self), gt2_flat l _ fun y hy => h y (List.mem_cons_of_mem _ hy)]
  rfl
theorem ix12 {s : Ln} (h : Lib.index s arrow = 12) : 17 ≤ s.length ∧ gt2 0 s = false := by
 have hr := Lib.index_room s arrow (by omega)
 have ha : arrow.length = 5 := rfl
 rw [h, ha] at hr
 rcases Lib.index_spec s arrow with ⟨k, _⟩ | ⟨i, k1, _, k2, _⟩
 ·omega
 ·have : i = 12 := by omega
  subst this
  unfold Lib.occAt at k2
  obtain ⟨b, hb⟩ := List.isPrefixOf_iff_prefix.1 k2
  refine ⟨by omega, ?_⟩
  have e : s = s.take 12 ++ ([32, 45, 45] ++ 62 :: 32 :: b) := by
   conv => lhs; rw [← List.take_append_drop 12 s]
   rw [← hb]
   rfl
  rw [e, gt2_app, gt2_app]
  simp [gt2, lastB]
theorem mk_keep {q : Row} (h : rowE q = 0) (h0 : (mkS q).2 = 0) (b : Bool) : lnX b (mkS q).1 = (mkS q).1 := by
 obtain ⟨h1, _, _⟩ := rowE_zero h
 have hx : hasX (plainT q) = false := by
  unfold mkS at h0
  rw [if_neg (by rw [h1]; simp)] at h0
  split at h0
  ·cases h0
  ·rename_i k; simpa using k
 have e : (mkS q).1 = (carr q).flatMap wrX := by unfold mkS; rw [if_neg (by rw [h1]; simp), if_neg (by rw [hx]; simp)]
 unfold lnX
 rw [if_neg]
 intro k
 have := (ix12 k).2
 rw [e, gt2_flat] at this
 ·cases this
 ·intro x hxm c hc k
  subst k
  rw [← carr_plain, hasX_flat] at hx
  have : (carr q).any (fun x => hasX x.1) = true := List.any_eq_true.2 ⟨x, hxm, List.any_eq_true.2 ⟨62, hc, rfl⟩⟩
  rw [this] at hx
  cases hx
theorem lnX_short {l : Ln} (h : l.length < 17) (b : Bool) : lnX b l = l := by
 unfold lnX
 rw [if_neg]
 intro k
 have := (ix12 k).1
 omega
end
end Go.Mo
end

section
/-
  Plain facts: the text of the law; SubripTolerates returns true.
-/
namespace Go.Mo
open Go Go.W Go.Lib
set_option maxRecDepth 100000
noncomputable section
def bodyS (b : Bool) (r : UInt8) (n : Nat) (x : Ev) : List Ln := if b = true then lnX true (tlQ r x) :: mkL x else bodyL r n x
theorem joinR_cons (l : Ln) (p : List Ln) : joinR (l :: p) = l ++ [13, 10] ++ joinR p := by unfold joinR; rw [List.flatMap_cons]
theorem joinR_app (p q : List Ln) : joinR (p ++ q) = joinR p ++ joinR q := by unfold joinR; rw [List.flatMap_append]
theorem seq_ne {l : Ln} (h : l ≠ []) : seq l [] = false := by rw [seq_dec]; exact decide_eq_false h
theorem tol_keep {b : Bool} : ∀ (ls L : List Ln), (∀ l ∈ ls, l ≠ [] ∧ lnX b l = l) → tolT b (ls ++ [] :: L) false = joinR (ls ++ [[]]) ++ tolT b L true
 | [], L, _ => by
  have h0 : lnX b [] = [] := lnX_short (by simp) b
  simp only [List.nil_append, tolT]
  rw [h0, if_neg (by simp), joinR_cons]
  simp [joinR, seq]
 | l :: ls, L, h => by
  obtain ⟨h1, h2⟩ := h l List.mem_cons_self
  simp only [List.cons_append, tolT]
  rw [h2, if_neg (by simp), seq_ne h1, tol_keep ls L fun m hm => h m (List.mem_cons_of_mem _ hm), joinR_cons, List.append_assoc (l ++ [13, 10])]
theorem tol_body {d : Doc} (hc : docChk d = 0) {x : Ev} (hx : x ∈ d.2.2.2.2.2.2.1) (hw : WrOk d.2.2.1 x) {n : Nat} (hn : n < 20) (b : Bool) (L : List Ln) : tolT b (bodyL d.2.2.1 n x ++ [] :: L) true = joinR (bodyS b d.2.2.1 n x ++ [[]]) ++ tolT b L true := by
 obtain ⟨_, _, _, _, _, h5, _⟩ := ev_ok (ev_rows hc hx)
 have n3 := (num_both hn).2.2
 have nn := (num_line hn).2.2
 have hnum : lnX b (itoa10 (n : Int)) = itoa10 (n : Int) := lnX_short (by omega) b
 obtain ⟨g, g1, g2, _, _⟩ := tl_dot hw
 have hm : ∀ l ∈ mkL x, l ≠ [] ∧ lnX b l = l := fun l hl => by
  obtain ⟨q, hq, rfl⟩ := List.mem_map.1 hl
  exact ⟨(mk_line (h5 q hq) (hw.rows q hq)).2.1, mk_keep (h5 q hq) (hw.rows q hq) b⟩
 have htl : (tlQ d.2.2.1 x).length = 29 := by rw [← lnX_len true, g1, g2]
 have tn : ∀ {l : Ln}, l.length = 29 → seq l [] = false := fun h => seq_ne fun k => by rw [k] at h; simp at h
 unfold bodyL bodyS
 simp only [List.cons_append, tolT]
 rw [hnum, seq_ne nn]
 cases b with
 | false =>
  have h0 : lnX false (tlQ d.2.2.1 x) = tlQ d.2.2.1 x := by unfold lnX; split <;> rfl
  rw [h0, tn htl, if_neg (by simp), if_neg (by simp), if_neg (by simp)]
  unfold bodyL
  simp only [List.cons_append]
  rw [tol_keep (mkL x) L hm, joinR_cons, joinR_cons]
  simp only [List.append_assoc]
 | true =>
  rw [g1, tn g2, if_pos (by simp), if_neg (by simp), if_pos rfl]
  simp only [List.cons_append]
  rw [tol_keep (mkL x) L hm, joinR_cons]
  simp only [List.append_assoc, List.nil_append]
theorem tol_file {d : Doc} (hc : docChk d = 0) (b : Bool) : ∀ (l : List Ev) (i : Nat), i + l.length < 20 → (∀ x ∈ l, x ∈ d.2.2.2.2.2.2.1 ∧ WrOk d.2.2.1 x) → tolT b (fileL d.2.2.1 i l ++ [[]]) true = joinR (fileF (bodyS b d.2.2.1) i l ++ List.replicate (if b = true then 0 else 1) [])
 | [], _, _, _ => by
  have h0 : lnX b [] = [] := lnX_short (by simp) b
  simp only [fileL, fileF, List.nil_append, tolT]
  rw [h0]
  cases b with
  | false => rfl
  | true => rfl
 | x :: l, i, hn, h => by
  obtain ⟨h1, h2⟩ := h x List.mem_cons_self
  simp only [List.length_cons] at hn
  simp only [fileL, fileF, List.append_assoc, List.cons_append]
  rw [tol_body hc h1 h2 (by omega), tol_file hc b l (i + 1) (by omega) fun y hy => h y (List.mem_cons_of_mem _ hy), ← joinR_app]
  simp
theorem bodyS_ok {d : Doc} (hc : docChk d = 0) {x : Ev} (hx : x ∈ d.2.2.2.2.2.2.1) (hw : WrOk d.2.2.1 x) {n : Nat} (hn : n < 19) (b : Bool) : bodyS b d.2.2.1 (n + 1) x ≠ [] ∧ (∀ y ∈ bodyS b d.2.2.1 (n + 1) x, y ≠ [] ∧ cln y) ∧ ∀ f, rdS d.2.2.1 n (bodyS b d.2.2.1 (n + 1) x) f = .inl (evQ n x) := by
 have hb := (body_ok hc hx hw (n := n + 1) (by omega)).1
 unfold bodyS
 cases b with
 | false =>
  rw [if_neg (by simp)]
  exact ⟨by unfold bodyL; simp, hb, fun f => rd_read hc hx hw hn⟩
 | true =>
  rw [if_pos rfl]
  obtain ⟨g, g1, g2, g3, g4⟩ := tl_dot hw
  rw [g1]
  have hnum : numB g = false := by unfold numB; rw [decide_eq_false (show ¬ g.length ≤ 9 by omega), Bool.false_and, Bool.and_false]
  refine ⟨by simp, fun y hy => ?_, fun f => ?_⟩
  ·rcases List.mem_cons.1 hy with rfl | hy
   ·exact ⟨fun k => by rw [k] at g2; simp at g2, g3⟩
   ·exact hb y (by unfold bodyL; simp [hy])
  ·have hr := bd_read (f := f) hc hx hw hn g4
   cases hm : mkL x with
   | nil =>
    rw [hm] at hr
    rw [rd1, hnum, if_neg (by simp), hr]
   | cons a t =>
    rw [hm] at hr
    rw [rd2, hnum, if_neg (by simp), hr]
theorem mk_len {d : Doc} (hc : docChk d = 0) {x : Ev} (hx : x ∈ d.2.2.2.2.2.2.1) : (joinR (mkL x)).length ≤ 1416 := by
 obtain ⟨_, _, _, _, h4, h5, _⟩ := ev_ok (ev_rows hc hx)
 have : ∀ l : List Row, (∀ q ∈ l, rowE q = 0) → (joinR (l.map fun q => (mkS q).1)).length ≤ 354 * l.length := by
  intro l
  induction l with
  | nil => intro _; exact Nat.le_refl _
  | cons q l ih =>
   intro h
   have h1 := mkS_lenE (h q List.mem_cons_self)
   have h2 := ih fun p hp => h p (List.mem_cons_of_mem _ hp)
   rw [List.map_cons, joinR_cons]
   simp only [List.length_append, List.length_cons, List.length_nil]
   omega
 have := this _ h5
 unfold mkL
 omega
theorem body_len {d : Doc} (hc : docChk d = 0) {x : Ev} (hx : x ∈ d.2.2.2.2.2.2.1) (hw : WrOk d.2.2.1 x) {n : Nat} (hn : n < 20) (b : Bool) : (joinR (bodyS b d.2.2.1 n x)).length ≤ 1460 := by
 have h1 := mk_len hc hx
 have n3 := (num_both hn).2.2
 obtain ⟨g, g1, g2, _, _⟩ := tl_dot hw
 have htl : (tlQ d.2.2.1 x).length = 29 := by rw [← lnX_len true, g1, g2]
 unfold bodyS bodyL
 split
 ·rw [joinR_cons, g1]
  simp only [List.length_append, List.length_cons, List.length_nil]
  omega
 ·rw [joinR_cons, joinR_cons]
  simp only [List.length_append, List.length_cons, List.length_nil]
  omega
theorem file_len {d : Doc} (hc : docChk d = 0) (b : Bool) : ∀ (l : List Ev) (i : Nat), i + l.length < 20 → (∀ x ∈ l, x ∈ d.2.2.2.2.2.2.1 ∧ WrOk d.2.2.1 x) → (joinR (fileF (bodyS b d.2.2.1) i l)).length ≤ 1462 * l.length
 | [], _, _, _ => Nat.le_refl _
 | x :: l, i, hn, h => by
  obtain ⟨h1, h2⟩ := h x List.mem_cons_self
  simp only [List.length_cons] at hn
  have k1 := body_len hc h1 h2 (n := i + 1) (by omega) b
  have k2 := file_len hc b l (i + 1) (by omega) fun y hy => h y (List.mem_cons_of_mem _ hy)
  simp only [fileF]
  rw [joinR_app, joinR_cons]
  simp only [List.length_append, List.length_cons, List.length_nil]
  omega
theorem fileF_cln {d : Doc} (hc : docChk d = 0) (b : Bool) : ∀ (l : List Ev) (i : Nat), i + l.length < 20 → (∀ x ∈ l, x ∈ d.2.2.2.2.2.2.1 ∧ WrOk d.2.2.1 x) → ∀ y ∈ fileF (bodyS b d.2.2.1) i l, cln y
 | [], _, _, _, y, hy => by cases hy
 | x :: l, i, hn, h, y, hy => by
  obtain ⟨h1, h2⟩ := h x List.mem_cons_self
  simp only [List.length_cons] at hn
  simp only [fileF] at hy
  rcases List.mem_append.1 hy with hy | hy
  ·exact ((bodyS_ok hc h1 h2 (n := i) (by omega) b).2.1 y hy).2
  rcases List.mem_cons.1 hy with rfl | hy
  ·intro c hc'; cases hc'
  ·exact fileF_cln hc b l (i + 1) (by omega) (fun z hz => h z (List.mem_cons_of_mem _ hz)) y hy
theorem fileL_len (r : UInt8) : ∀ (l : List Ev) (i : Nat), (∀ x ∈ l, x.2.2.2.2.2.length ≤ 4) → (fileL r i l).length ≤ 7 * l.length
 | [], _, _ => Nat.le_refl _
 | x :: l, i, h => by
  have h1 := h x List.mem_cons_self
  have h2 := fileL_len r l (i + 1) fun y hy => h y (List.mem_cons_of_mem _ hy)
  simp only [fileL, List.length_append, List.length_cons]
  unfold bodyL mkL
  simp only [List.length_cons, List.length_map]
  omega
theorem fil_len {r : UInt8} : ∀ {l : List Ev} {i : Nat} {s : List UInt8}, i + l.length < 20 → (∀ x ∈ l, x.2.2.2.2.2.length ≤ 4 ∧ ∀ q ∈ x.2.2.2.2.2, rowE q = 0) → filQ r i l = .inr s → s.length ≤ 1447 * l.length
 | [], _, s, _, _, h => by
  simp only [filQ, Sum.inr.injEq] at h
  subst h
  exact Nat.le_refl _
 | x :: l, i, s, hn, hx, h => by
  obtain ⟨h4, h5⟩ := hx x List.mem_cons_self
  simp only [List.length_cons] at hn
  simp only [filQ] at h
  split at h
  ·cases h
  ·rename_i t ht
   split at h
   ·cases h
   ·rename_i u hu
    injection h with h
    subst h
    have h1 := blkQ_len (by omega) h4 h5 ht
    have h2 := fil_len (by omega) (fun y hy => hx y (List.mem_cons_of_mem _ hy)) hu
    simp only [List.length_append, List.length_cons]
    omega
theorem tolerates19_true {x : Doc × Bool} (hb : wtD x.1 ≤ 1048576) : l19_SubripTolerates fuelH x = some true := by
 obtain ⟨d0, b⟩ := x
 unfold l19_SubripTolerates q76
 obtain ⟨hs, _⟩ := few_smallQ hb
 dsimp only at hs ⊢
 rw [awake19, bnd_some', cnd_f (by rfl), few_eqQ, bnd_some', sub_encode hs (few_E d0), bnd_some', bnd_some']
 rcases enc_cases (d := fewQ d0) with ⟨i, e, h1, h2⟩ | ⟨s, hc, hq, hl, h1⟩
 ·rw [h1]
  dsimp only
  rw [cnd_t (ine_t h2)]
 ·have hf := few_E d0
  generalize fewQ d0 = d at hs h1 hc hq hf ⊢
  unfold fewE at hf
  obtain ⟨r1, r2, r3⟩ := rd_file hc hf hq
  have hxs : ∀ x ∈ d.2.2.2.2.2.2.1, x ∈ d.2.2.2.2.2.2.1 ∧ WrOk d.2.2.1 x := fun x hx => ⟨hx, r3 x hx⟩
  have hrows : ∀ x ∈ d.2.2.2.2.2.2.1, x.2.2.2.2.2.length ≤ 4 ∧ ∀ q ∈ x.2.2.2.2.2, rowE q = 0 := fun x hx => ⟨(ev_fit hs hc hx).1, (ev_fit hs hc hx).2.1⟩
  have hsl := fil_len (by omega) hrows hq
  have hfl := fileL_len d.2.2.1 d.2.2.2.2.2.2.1 0 fun x hx => (hrows x hx).1
  have hbl := file_len hc b d.2.2.2.2.2.2.1 0 (by omega) hxs
  have hcl := fileF_cln hc b d.2.2.2.2.2.2.1 0 (by omega) hxs
  have hm : ∀ m, (joinR (List.replicate m ([] : Ln))).length = 2 * m := fun m => by
   induction m with
   | zero => rfl
   | succ m ih => rw [List.replicate_succ, joinR_cons]; simp only [List.length_append, List.length_cons, List.length_nil]; omega
  have ht := tol_file hc b d.2.2.2.2.2.2.1 0 (by omega) hxs
  rw [← r2] at ht
  have hrd := rd_R (d := d) (B := bodyS b d.2.2.1) (l := d.2.2.2.2.2.2.1) (m := if b = true then 0 else 1) (fun x hx n hn => bodyS_ok hc hx (r3 x hx) (by omega) b) (fun y hy => by
   rcases List.mem_append.1 hy with hy | hy
   ·exact hcl y hy
   ·rw [(List.mem_replicate.1 hy).2]; intro c hc'; cases hc')
  rw [← ht] at hrd
  have hmm := hm (if b = true then 0 else 1)
  have hm1 : (if b = true then 0 else 1) ≤ 1 := by split <;> omega
  have htl : (tolT b (linesL s) true).length ≤ 1462 * 6 + 2 := by
   rw [ht, joinR_app, List.length_append]
   omega
  rw [h1]
  dsimp only
  have hdec1 := dec_doc hc hf hl r1
  have hdec2 := dec_doc hc hf (s := 10 :: (tolT b (linesL s) true ++ [10, 10])) (by simp only [List.length_cons, List.length_append, List.length_nil]; omega) hrd
  rw [cnd_f (by rfl)]
  refine jn_suff (fun K => K (10 :: tolT b (linesL s) true) = some true) ?_ (fun K hK => ?_)
  ·have hlap : lapp (10 :: tolT b (linesL s) true) ([10, 10] : List UInt8) = 10 :: (tolT b (linesL s) true ++ [10, 10]) := rfl
   rw [hdec1, bnd_some', grd_t (cat_ok (by simp only [List.length_cons, List.length_nil]; omega)), hlap, hdec2, bnd_some', cnd_t (by rfl), cnd_t (by rfl), docQ_self hs hc]
   rfl
  ·rw [sub_split (by omega), bnd_some']
   refine (tol_loop (b := b) (L := linesL s) (by rw [r2, List.length_append, List.length_singleton]; omega) (fun l hl => by
    have := line_le l hl
    rw [lnX_len]
    omega) K).trans hK
end
end Go.Mo
end
