/-
  Texts put together, in build order: U8.
-/
import Derived.Test.YtmhoognbjmdddaaGreatDoorViB
set_option linter.all false

section
/-
  Plain facts: the file of a document is read as the document as the form carries it; SubripCarries returns true.
-/
namespace Go.Mo
open Go Go.W Go.Lib
set_option maxRecDepth 100000
noncomputable section
theorem blk_run : ∀ (ls : List Ln) (i : Nat) (acc L : List Ln), (∀ l ∈ ls, l ≠ [] ∧ cln l) → blkS i acc (ls ++ L) = blkS (i + ls.length) (acc ++ ls) L
 | [], i, acc, L, _ => by simp
 | l :: ls, i, acc, L, h => by
  obtain ⟨h1, h2⟩ := h l List.mem_cons_self
  have ht := cln_trim h2
  simp only [List.cons_append, blkS, List.length_cons]
  rw [ht, if_pos h1, blk_run ls (i + 1) (acc ++ [l]) L fun m hm => h m (List.mem_cons_of_mem _ hm), List.append_assoc, List.singleton_append, show i + 1 + ls.length = i + (ls.length + 1) by omega]
theorem blk_one {ls L : List Ln} {i : Nat} (hne : ls ≠ []) (h : ∀ l ∈ ls, l ≠ [] ∧ cln l) : blkS i [] (ls ++ [] :: L) = (ls, i + 1) :: blkS (i + ls.length + 1) [] L := by
 rw [blk_run ls i [] ([] :: L) h, List.nil_append]
 simp only [blkS]
 rw [if_neg (by rw [show trimR [] = [] from rfl]; simp), if_neg hne, Nat.add_sub_cancel]
theorem body_ok {d : Doc} (hc : docChk d = 0) {x : Ev} (hx : x ∈ d.2.2.2.2.2.2.1) (hw : WrOk d.2.2.1 x) {n : Nat} (hn : n < 20) : (∀ l ∈ bodyL d.2.2.1 n x, l ≠ [] ∧ cln l) ∧ tmS (tlQ d.2.2.1 x) = ((milS d.2.2.1 x.2.1.1).1, (milS d.2.2.1 x.2.1.2).1, true) ∧ (mkL x).map pmS = x.2.2.2.2.2.map carr := by
 obtain ⟨_, _, _, _, _, h5, _⟩ := ev_ok (ev_rows hc hx)
 obtain ⟨_, a1, a2⟩ := fm_mil hw.m1
 obtain ⟨_, b1, b2⟩ := fm_mil hw.m2
 obtain ⟨_, c1, c2, c3⟩ := clk_cln a1 a2
 obtain ⟨_, d1, d2, d3⟩ := clk_cln b1 b2
 obtain ⟨n1, _, n3⟩ := num_line hn
 refine ⟨fun l hl => ?_, tm_line c2 d2 c3 d3, ?_⟩
 ·unfold bodyL at hl
  rcases List.mem_cons.1 hl with rfl | hl
  ·exact ⟨n3, n1⟩
  rcases List.mem_cons.1 hl with rfl | hl
  ·refine ⟨fun k => ?_, cln_app (cln_app c1 (by unfold cln arrow; decide)) d1⟩
   have := congrArg List.length k
   unfold tlQ at this
   rw [List.length_append, d2, List.length_nil] at this
   omega
  ·obtain ⟨q, hq, rfl⟩ := List.mem_map.1 hl
   obtain ⟨k1, k2, _⟩ := mk_line (h5 q hq) (hw.rows q hq)
   exact ⟨k2, k1⟩
 ·unfold mkL
  rw [List.map_map]
  exact List.map_congr_left fun q hq => (mk_line (h5 q hq) (hw.rows q hq)).2.2
theorem bd_read {d : Doc} (hc : docChk d = 0) {x : Ev} (hx : x ∈ d.2.2.2.2.2.2.1) (hw : WrOk d.2.2.1 x) {n f : Nat} (hn : n < 19) {h : Ln} (ht : tmS h = ((milS d.2.2.1 x.2.1.1).1, (milS d.2.2.1 x.2.1.2).1, true)) : bdS d.2.2.1 n h (mkL x) f = .inl (evQ n x) := by
 obtain ⟨_, _, h3⟩ := body_ok hc hx hw (n := n + 1) (by omega)
 have f1 := (fm_mil hw.m1).1
 have f2 := (fm_mil hw.m2).1
 have e : evB d.2.2.1 n h (mkL x) = evQ n x := by
  unfold evB evQ
  rw [ht, h3]
  dsimp only
  rw [f1, f2]
 unfold bdS
 rw [e, ht]
 dsimp only
 rw [f1, f2, if_neg (by simp), if_neg (by omega), if_neg (by simp), if_neg (by simp), if_neg (by rw [evQ_chk hc hx (by omega)]; simp)]
theorem rd_read {d : Doc} (hc : docChk d = 0) {x : Ev} (hx : x ∈ d.2.2.2.2.2.2.1) (hw : WrOk d.2.2.1 x) {n f : Nat} (hn : n < 19) : rdS d.2.2.1 n (bodyL d.2.2.1 (n + 1) x) f = .inl (evQ n x) := by
 obtain ⟨_, h2, _⟩ := body_ok hc hx hw (n := n + 1) (by omega)
 unfold bodyL
 rw [rd2, if_pos (num_line (by omega)).2.1, bd_read hc hx hw hn h2]
theorem fold_file {d : Doc} (hc : docChk d = 0) : ∀ (l : List Ev) (i : Nat) (E : List Ev), E.length + l.length ≤ 19 → (∀ x ∈ l, x ∈ d.2.2.2.2.2.2.1 ∧ WrOk d.2.2.1 x) → (blkS i [] (fileL d.2.2.1 E.length l ++ [[]])).foldl (goS d.2.2.1) (E, []) = (E ++ evsQ E.length l, [])
 | [], i, E, _, _ => by
  simp [fileL, blkS, trimR, evsQ]
 | x :: l, i, E, hn, h => by
  obtain ⟨h1, h2⟩ := h x List.mem_cons_self
  simp only [List.length_cons] at hn
  have hb := (body_ok hc h1 h2 (n := E.length + 1) (by omega)).1
  have hne : bodyL d.2.2.1 (E.length + 1) x ≠ [] := by unfold bodyL; simp
  have hg : goS d.2.2.1 (E, []) (bodyL d.2.2.1 (E.length + 1) x, i + 1) = (E ++ [evQ E.length x], []) := by
   unfold goS
   dsimp only
   rw [rd_read hc h1 h2 (show E.length < 19 by omega)]
   rfl
  have ih := fold_file hc l (i + (bodyL d.2.2.1 (E.length + 1) x).length + 1) (E ++ [evQ E.length x]) (by rw [List.length_append, List.length_singleton]; omega) fun y hy => h y (List.mem_cons_of_mem _ hy)
  rw [List.length_append, List.length_singleton] at ih
  simp only [fileL, List.append_assoc, List.cons_append]
  rw [blk_one hne hb, List.foldl_cons, hg, ih]
  simp [evsQ]
theorem evsQ_sorted {d : Doc} (h : docChk d = 0) : (evsQ 0 d.2.2.2.2.2.2.1).Pairwise lessE := by
 obtain ⟨_, _, h3⟩ := doc_evs h
 refine chain_pw _ fun k hk => ?_
 have hl := evsQ_len d.2.2.2.2.2.2.1 0
 have h1 : k + 1 < d.2.2.2.2.2.2.1.length := by omega
 have h2 : k < d.2.2.2.2.2.2.1.length := by omega
 rw [evsQ_at _ k h2 (by omega), evsQ_at _ (k + 1) h1 hk]
 have := (evRnd_ok (h3 (k + 1) h1)).2.2.1
 rw [last_take h2] at this
 simp only [ordB, decide_eq_true_eq] at this
 unfold lessE at this ⊢
 show (d.2.2.2.2.2.2.1[k]).2.1.1 < (d.2.2.2.2.2.2.1[k + 1]).2.1.1 ∨ ((d.2.2.2.2.2.2.1[k]).2.1.1 = (d.2.2.2.2.2.2.1[k + 1]).2.1.1 ∧ ((k + 1 : Nat) : Int) < ((k + 1 + 1 : Nat) : Int))
 omega
theorem dec_doc {d : Doc} (hc : docChk d = 0) (hf : fewE d) {s : List UInt8} (hs : s.length ≤ 262144) (hr : rdQ d.2.2.1 s = (evsQ 0 d.2.2.2.2.2.2.1, [])) : q110 fuelH (s, d.2.2.1, d.2.2.2.1) = some (docQ d, []) := by
 unfold fewE at hf
 have hl := evsQ_len d.2.2.2.2.2.2.1 0
 rw [sub_decode (by omega) (by rw [hr]; dsimp only; omega)]
 unfold decQ docQ
 rw [if_neg (rate_of (doc_evs hc).1), if_neg (by omega), hr]
 dsimp only
 rw [sort_id (evsQ_sorted hc)]
 simp only [len, hl]
theorem rd_file {d : Doc} (hc : docChk d = 0) (hf : fewE d) {s : List UInt8} (h : filQ d.2.2.1 0 d.2.2.2.2.2.2.1 = .inr s) : rdQ d.2.2.1 s = (evsQ 0 d.2.2.2.2.2.2.1, []) ∧ linesL s = fileL d.2.2.1 0 d.2.2.2.2.2.2.1 ++ [[]] ∧ ∀ x ∈ d.2.2.2.2.2.2.1, WrOk d.2.2.1 x := by
 unfold fewE at hf
 obtain ⟨h1, h2⟩ := file_lines h
 have hcl : ∀ (l : List Ev) (i : Nat), i + l.length ≤ 19 → (∀ x ∈ l, x ∈ d.2.2.2.2.2.2.1) → ∀ y ∈ fileL d.2.2.1 i l, (10 : UInt8) ∉ y := by
  intro l
  induction l with
  | nil => intro i _ _ y hy; cases hy
  | cons x l ih =>
   intro i hi hx y hy
   simp only [List.length_cons] at hi
   simp only [fileL] at hy
   have hxm := hx x List.mem_cons_self
   rcases List.mem_append.1 hy with hy | hy
   ·exact cln_10 (((body_ok hc hxm (h2 x hxm) (n := i + 1) (by omega)).1 y hy).2)
   rcases List.mem_cons.1 hy with rfl | hy
   ·simp
   ·exact ih (i + 1) (by omega) (fun z hz => hx z (List.mem_cons_of_mem _ hz)) y hy
 have hL : linesL s = fileL d.2.2.1 0 d.2.2.2.2.2.2.1 ++ [[]] := by
  have := lines_join (fileL d.2.2.1 0 d.2.2.2.2.2.2.1) [] (hcl _ 0 (by omega) fun x hx => hx)
  rw [List.append_nil, ← h1] at this
  exact this
 refine ⟨?_, hL, h2⟩
 unfold rdQ
 rw [hL]
 exact fold_file hc d.2.2.2.2.2.2.1 0 [] (by simp only [List.length_nil]; omega) fun x hx => ⟨hx, h2 x hx⟩
theorem enc_cases {d : Doc} : (∃ i e, encQ d = ([], i, e) ∧ e ≠ 0) ∨ ∃ s, docChk d = 0 ∧ filQ d.2.2.1 0 d.2.2.2.2.2.2.1 = .inr s ∧ s.length ≤ 262144 ∧ encQ d = (s, -1, 0) := by
 unfold encQ
 by_cases h : docChk d ≠ 0
 ·rw [if_pos h]
  exact .inl ⟨_, _, rfl, h⟩
 rw [if_neg h]
 cases hq : filQ d.2.2.1 0 d.2.2.2.2.2.2.1 with
 | inl z => exact .inl ⟨_, _, rfl, fil_err hq⟩
 | inr s =>
  dsimp only
  by_cases hl : 262144 < s.length
  ·rw [if_pos hl]
   exact .inl ⟨_, _, rfl, by simp⟩
  ·rw [if_neg hl]
   exact .inr ⟨s, by simpa using h, rfl, by omega, rfl⟩
theorem few_E (d : Doc) : fewE (fewQ d) := by unfold fewE fewQ; dsimp only; rw [List.length_take]; omega
theorem carries19_true {x : Doc} (hb : wtD x ≤ 1048576) : l19_SubripCarries fuelH x = some true := by
 unfold l19_SubripCarries q76
 obtain ⟨hs, _⟩ := few_smallQ hb
 rw [awake19, bnd_some', cnd_f (by rfl), few_eqQ, bnd_some', sub_encode hs (few_E x), bnd_some', bnd_some']
 rcases enc_cases (d := fewQ x) with ⟨i, e, h1, h2⟩ | ⟨s, hc, hq, hl, h1⟩
 ·rw [h1]
  dsimp only
  rw [cnd_t (ine_t h2)]
  rfl
 ·rw [h1]
  dsimp only
  rw [cnd_f (by rfl), dec_doc hc (few_E x) hl (rd_file hc (few_E x) hq).1, bnd_some', cnd_t (by rfl), sub_reduce hs, bnd_some']
  have : redQ (fewQ x) = docQ (fewQ x) := by unfold redQ; rw [if_neg (by rw [hc]; simp)]
  rw [this, docQ_self hs hc]
  rfl
end
end Go.Mo
end
