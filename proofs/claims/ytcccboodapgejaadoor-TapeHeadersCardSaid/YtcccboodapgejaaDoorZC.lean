/-
  Texts put together, in build order: W26 W27 W28 W29 W30 W31 W32 W33 W34 W35 WG WE WB WV WM WH WXa WXb WXc WXd WXe WXf WXg.
-/
import Derived.Test.YtcccboodapgejaaDoorZB
import Derived.Lib.MakeNoZero
import Derived.Lib.Bytealg
import Derived.Lib.Builder
import Derived.Laws.Externs
import Derived.Lib.ValidU
import Derived.Test.YtcccboodapgejaaDoorProg
import Derived.KernelRfl
import GoSem.PinnedTables
import Derived.Test.YtcccboodapgejaaDoorChecked
import Derived.Lib.UnsafeStr
import Derived.Lib.Walk
import Derived.WalkKit
import Derived.OrdersHeld
import Derived.Shelf.Unicode.ValidAny
set_option linter.all false

section
/-
  A call has come back: what the caller knows. No program in it.
-/
namespace Go.W
open Go Go.RowKit

section
variable {E : Env} {g : Operand → SV} {ob : Obs} {tk : Nat} {o : Oper} {α : Type} {k : Out → Option α} {r : α}

theorem back_ok {c : Con} {ss : List Src} {x : Vec (kTys (kdP c.ps))} {y : Vec (kTys (app c.rs (kdB c.ps)))} {u : Upd} (hu : UOk ob u)
    {w0 : World} {K0 : Kn} {H : Nat → Prop} {γ : Ghs} {ob1 obF : Obs} {K K1 : Kn} {w w' : World} {γc : Ghs} {Hc : Nat → Prop} {V : Value}
    (hK : K.le K1) (hH : Hp w0 K0 H γ obF K1 w) (hF : Fzd ob obF u) (hFo : ∀ j, (∀ p ∈ u, p.2 ≠ .gone → p.1 ≠ j) → obF j = ob1 j)
    (hHc : ∀ b, Hc b → ∃ i p g ad, obF i = some p ∧ p.owns = true ∧ γ i = some g ∧ g.a = some ad ∧ ad.block = b ∧ (i, Ob.gone) ∈ u)
    (hγc : ∀ q j, (toks ss)[q]? = some j → γc (1 + rowsN c.ps x + q) = γ j)
    (hγt : ∀ j, j ∈ toks ss → ∃ g, γ j = some g)
    (hfr : ∀ i, i < (unpackG tk (app c.rs (kdB c.ps)) 0 y).2.length → γ (tk + i) = none)
    (hB : Back c.rs c.ps x y w K1 Hc γc V w' tk) :
    ∃ γ3 K3, Step w0 K0 H γ ob1 K tk ⟨oneV (valsP c.rs (unpackG tk (app c.rs (kdB c.ps)) 0 y).1), (unpackG tk (app c.rs (kdB c.ps)) 0 y).2, app u (backU (tokB ss) (unpackG tk (app c.rs (kdB c.ps)) 0 y).1)⟩ V γ3 K3 w' := by
  obtain ⟨γf, obC, Kf, gs, js, hC, r1, hcnt, hbox, hval⟩ := hB
  generalize unpackG tk (app c.rs (kdB c.ps)) 0 y = up at *
  obtain ⟨ps, new⟩ := up
  simp only at *
  have hlen := NewL_len r1
  rw [app_eq, tokB_eq]
  let γ3 : Ghs := fun j => if tk ≤ j ∧ j < tk + new.length then gs[j - tk]? else γ j
  have g1 : ∀ i, i < new.length → γ3 (tk + i) = gs[i]? := fun i hi => by
    have : tk ≤ tk + i ∧ tk + i < tk + new.length := by omega
    simp only [γ3, if_pos this, Nat.add_sub_cancel_left]
  have g2 : ∀ j g, γ j = some g → γ3 j = some g := fun j g hg => by
    have : ¬ (tk ≤ j ∧ j < tk + new.length) := fun hj => by
      have := hfr (j - tk) (by omega)
      rw [show tk + (j - tk) = j by omega, hg] at this
      cases this
    simp only [γ3, if_neg this]; exact hg
  have g3 : ∀ j g, γ3 j = some g → γ j = some g ∨ ∃ i, j = tk + i ∧ i < new.length ∧ gs[i]? = some g := fun j g hg => by
    by_cases hj : tk ≤ j ∧ j < tk + new.length
    · simp only [γ3, if_pos hj] at hg; exact .inr ⟨j - tk, by omega, by omega, hg⟩
    · simp only [γ3, if_neg hj] at hg; exact .inl hg
  have hgle : Ghs.le γ γ3 := fun j g hg => ⟨g, g2 j g hg, Nat.le_refl _, fun _ => rfl⟩
  have hgets : Gets gs tk γ3 := fun kk g hk => by
    have : kk < new.length := by rw [← hlen.1]; exact (List.getElem?_eq_some_iff.1 hk).1
    rw [Nat.zero_add, g1 kk this]; exact hk
  have hKf : K1.le Kf := hC.mono
  have g4 : ∀ j g, γ3 j = some g → (∀ i, i < new.length → j ≠ tk + i) → γ j = some g := fun j g hg hne => by
    rcases g3 j g hg with h | ⟨i, e, hi, _⟩
    · exact h
    · exact absurd e (hne i hi)
  have hvar : ∀ (i j : Nat) (g : Gh), (toks ss)[i]? = some j → γ3 j = some g → γ j = some g := fun i j g hi hg => by
    obtain ⟨g', hg'⟩ := hγt j (List.mem_of_getElem? hi)
    have := g2 j g' hg'
    rw [this] at hg
    injection hg with hg
    subst hg
    exact hg'
  -- what lies where it lay
  have still : ∀ j o g, obF j = some o → γ j = some g → (∀ p ∈ u, p.1 ≠ j) → o.owns = true → ∀ ad, g.a = some ad → (w'.heap[ad.block]? = w.heap[ad.block]? ∧ ∀ i, Kf ad.block i = K1 ad.block i) ∧ ad.block < w.heap.size ∧ ¬ Hc ad.block := fun j o g hj hg hne ho ad ha => by
    have hb := ((hH.ok j o g hj hg).block ho ha).1
    have hnc : ¬ Hc ad.block := fun hc => by
      obtain ⟨i, p, g', ad', q1, q2, q3, q4, q5, q6⟩ := hHc _ hc
      exact hH.sep i j p o g' g q1 hj q3 hg q2 ho (hne _ q6) ad' ad q4 ha q5
    exact ⟨hC.blk _ hb hnc, hb, hnc⟩
  -- the objects, one by one
  have obj : ∀ j o g, newF tk new (updF (u ++ backU (toks ss) ps) ob1) j = some o → γ3 j = some g →
      ObOk γ3 Kf w' g o ∧ (o.owns = true → ∀ ad, g.a = some ad → (γ j = some g ∧ obF j = some o ∧ ∀ p ∈ u, p.1 ≠ j) ∨
        ∃ p cs g', obC cs = some p ∧ p.owns = true ∧ γf cs = some g' ∧ g'.a = some ad ∧ ((∃ i, j = tk + i ∧ js[i]? = some (some cs)) ∨ ∃ i, (toks ss)[i]? = some j ∧ cs = 1 + rowsN c.ps x + i ∧ js.count (some cs) = 0)) := fun j o g hj hg => by
    rcases newF_get new hj with ⟨i, e1, e2⟩ | ⟨hj, hne⟩
    · subst e1
      obtain ⟨gg, sr, k1, k2, k3⟩ := NewL_get r1 i o e2
      rw [g1 i (List.getElem?_eq_some_iff.1 e2).1, k1] at hg
      injection hg with hg
      subst hg
      refine ⟨k3.2.1 γ3, fun _ ad ha => .inr ?_⟩
      rcases k3.2.2.2 with q | ⟨cs, g', p, q1, q2, q3, q4, q5⟩
      · rw [q] at ha; cases ha
      · subst q1
        exact ⟨p, cs, g', q3, q4, q2, by rw [← q5]; exact ha, .inl ⟨i, rfl, k2⟩⟩
    · rcases updF_get _ hj with hm | ⟨hj, hnu⟩
      · rcases List.mem_append.1 hm with hm | hm
        · by_cases hgo : o = .gone
          · subst hgo
            exact ⟨True.intro, fun e => by cases e⟩
          · have hfo := hF.frz _ hm hgo
            simp only at hfo
            have hown : o.owns = false := by
              rcases hu _ hm with ⟨e, _⟩ | ⟨h, t, xs, _, e⟩
              · exact absurd e hgo
              · simp only at e; subst e; rfl
            exact ⟨(hH.ok j o g hfo (g4 j g hg hne)).mono hgle hKf (fun e => by rw [hown] at e; cases e), fun e => by rw [hown] at e; cases e⟩
        · obtain ⟨i, e1, e2⟩ := backU_mem ps hm
          have hgj := hvar i j g e1 hg
          obtain ⟨b1, b2, ⟨p, b3, b3'⟩, b4⟩ := hbox i o e2
          rw [hγc i j e1, hgj] at b2
          exact ⟨b4 γ3 hgets g b2, fun _ ad ha => .inr ⟨p, _, g, b3, b3', b2, ha, .inr ⟨i, e1, rfl, b1⟩⟩⟩
      · have hnu' : ∀ p ∈ u, p.1 ≠ j := fun p hp => hnu p (List.mem_append_left _ hp)
        have hfo : obF j = some o := by rw [hFo j fun p hp _ => hnu' p hp]; exact hj
        have hgj := g4 j g hg hne
        exact ⟨(hH.ok j o g hfo hgj).mono hgle hKf (fun ho ad ha => (still j o g hfo hgj hnu' ho ad ha).1), fun _ _ _ => .inl ⟨hgj, hfo, hnu'⟩⟩
  -- where the call's objects lie
  have far : ∀ (cs : Nat) (p : Ob) (g' : Gh) (ad : Addr), obC cs = some p → p.owns = true → γf cs = some g' → g'.a = some ad → w.heap.size ≤ ad.block ∨ Hc ad.block := fun cs p g' ad h1 h2 h3 h4 => hC.own cs p g' h1 h3 h2 ad h4
  refine ⟨γ3, Kf, hgle, hK.trans hKf, hval γ3 hgets, ⟨?_, ?_, ?_, ?_, ?_, ?_, hC.kok, fun j o g hj hg => (obj j o g hj hg).1, ?_, ?_⟩, ?_, ?_⟩
  · rw [hC.os, hH.os]
  · rw [hC.tape, hH.tape]
  · rw [hC.output, hH.output]
  · exact Nat.le_trans hH.size hC.size
  · intro b hb hnH
    have hnc : ¬ Hc b := fun hc => by
      obtain ⟨i, p, g', ad', q1, q2, q3, q4, q5, q6⟩ := hHc _ hc
      rcases hH.own i p g' q1 q3 q2 ad' q4 with h | h
      · omega
      · rw [q5] at h; exact hnH h
    have h1 := hC.blk b (Nat.lt_of_lt_of_le hb hH.size) hnc
    have h2 := hH.blk b hb hnH
    exact ⟨by rw [h1.1]; exact h2.1, fun o => by rw [h1.2]; exact h2.2 o⟩
  · exact hH.mono.trans hKf
  · intro j o g hj hg ho ad ha
    rcases (obj j o g hj hg).2 ho ad ha with ⟨q1, q2, _⟩ | ⟨p, cs, g', q1, q2, q3, q4, _⟩
    · exact hH.own j o g q2 q1 ho ad ha
    · rcases far cs p g' ad q1 q2 q3 q4 with h | h
      · exact .inl (Nat.le_trans hH.size h)
      · obtain ⟨i, p2, g2', ad2, d1, d2, d3, d4, d5, _⟩ := hHc _ h
        rw [← d5]
        exact hH.own i p2 g2' d1 d3 d2 ad2 d4
  · intro i j o p g g' hi hj hgi hgj hoi hoj hij ad ad' ha ha' e
    rcases (obj i o g hi hgi).2 hoi ad ha with ⟨q1, q2, q3⟩ | ⟨p1, c1, g1', q1, q2, q3, q4, q5⟩ <;> rcases (obj j p g' hj hgj).2 hoj ad' ha' with ⟨d1, d2, d3⟩ | ⟨p2, c2, g2', d1, d2, d3, d4, d5⟩
    · exact hH.sep i j o p g g' q2 d2 q1 d1 hoi hoj hij ad ad' ha ha' e
    · obtain ⟨_, s1, s2⟩ := still i o g q2 q1 q3 hoi ad ha
      rcases far c2 p2 g2' ad' d1 d2 d3 d4 with h | h
      · omega
      · rw [← e] at h; exact s2 h
    · obtain ⟨_, s1, s2⟩ := still j p g' d2 d1 d3 hoj ad' ha'
      rcases far c1 p1 g1' ad q1 q2 q3 q4 with h | h
      · omega
      · rw [e] at h; exact s2 h
    · refine hC.sep c1 c2 p1 p2 g1' g2' q1 d1 q3 d3 q2 d2 (fun ec => ?_) ad ad' q4 d4 e
      subst ec
      rcases q5 with ⟨a1, a2, a3⟩ | ⟨a1, a2, a3, a4⟩ <;> rcases d5 with ⟨b1, b2, b3⟩ | ⟨b1, b2, b3, b4⟩
      · have := count_inj (hcnt c1) a3 b3
        subst this
        exact hij (by rw [a2, b2])
      · have := List.count_pos_iff.2 (List.mem_of_getElem? a3)
        omega
      · have := List.count_pos_iff.2 (List.mem_of_getElem? b3)
        omega
      · have : a1 = b1 := by omega
        subst this
        rw [a2] at b2
        injection b2 with b2
        exact hij b2
  · intro j g' hg
    rcases g3 j g' hg with h | ⟨i, e1, e2, e3⟩
    · exact .inl h
    · obtain ⟨gg, sr, k1, k2, k3⟩ := NewL_get r1 i _ (List.getElem?_eq_getElem e2)
      rw [e3] at k1
      injection k1 with k1
      subst k1
      have hh : new.length = new.length := rfl
      exact .inr ⟨Nat.le_of_eq k3.2.2.1, .inr ⟨by omega, by show j < tk + new.length; omega⟩⟩
  · intro i hi
    have hi : i < new.length := hi
    exact ⟨gs[i]'(by rw [hlen.1]; exact hi), by rw [g1 i hi]; exact List.getElem?_eq_getElem _⟩

theorem callK_ok {c : Con} (hc : ConOk E c) {c0 : Call} {xf : Operand} {f : Nat} (ho : o.op = .call c0) (hcal : c0.callee = .value xf) (hx : g xf = .val (.one (.fn f))) (hf : c.f = f) (h : callK ob tk c (mapG g c0.args.toList) k = some r) :
    ∃ out, k out = some r ∧ OpOk E g ob tk o out := by
  unfold callK at h
  split at h
  · cases h
  · rename_i ss has
    split at h
    · rename_i x u hp
      split at h
      · rename_i htv
        simp only [Bool.and_eq_true] at htv
        unfold bnd at h
        obtain ⟨y, hy, h⟩ := Option.bind_eq_some_iff.1 h
        refine ⟨_, h, ?_⟩
        intro w0 K0 H γ ob1 K a w hr hle hH hG hfr _ h0 next Q hn
        have hfv : a.eval xf = .func (.func f) #[] #[] := by
          have := hr xf (by simp [ho, Op.operands, Call.operands, hcal])
          rw [hx] at this
          exact this
        have hargs : ∀ z ∈ c0.args.toList, RepSV γ K (g z) (a.eval z) := fun z hz => hr z (by simp only [ho, Op.operands, Call.operands, hcal]; simp at hz ⊢; exact .inr hz)
        have hv := mapG_svl c0.args.toList hargs
        obtain ⟨K1, obF, γc, Hc, e1, e2, e3, e4, e5, e6, e7⟩ := enter_ok has hp htv.1 hle hH hG hv
        have htoks := (argS_src c.ps has hv).2.2
        have hexec : (execOp a.eval o).run E.P w = (callFunc f (c0.args.toList.map a.eval).toArray).run E.P w := by
          have : (c0.args.toList.map a.eval).toArray = c0.args.map a.eval := by apply Array.toList_inj.1; simp
          rw [this]
          simp [execOp, ho, resolve, hcal, hfv, Deferred.ofValue, invoke]
        have hfin : ∀ V w', (∀ tk, 0 < tk → Back c.rs c.ps x y w K1 Hc γc V w' tk) → next (a.put o.dst V) w' := fun V w' hb => by
          obtain ⟨γ3, K3, hst⟩ := back_ok (ss := ss) (packG_upd _ hp) e1 e2 e3 e4 e6 e7 (fun j hj => by obtain ⟨g', _, q, _⟩ := htoks j (mem_toks.2 hj); exact ⟨g', q⟩) hfr (hb tk h0)
          exact hn V γ3 K3 w' hst
        unfold Oper.wp
        rw [hexec]
        have := hc x y hy w K1 Hc γc _ e5
        rw [hf] at this
        rcases this with ⟨V, w', q1, q2⟩ | ⟨q1, q2⟩
        · rw [q1]
          exact hfin V w' q2
        · rw [q1, Oper.upon_enter]
          refine q2.mono fun e w' he => ?_
          cases e with
          | returned V => exact hfin V w' he
          | panicked ch => exact he.elim
          | outgrown => exact he.elim
      · cases h
    · cases h

theorem callsOk_of {tab : List Con} (h : ∀ c ∈ tab, ConOk E c) : CallsOk E tab := by
  intro g ob tk o α k r c x f ho hcal hx hk
  induction tab with
  | nil => cases hk
  | cons c1 tab ih =>
    simp only [callC] at hk
    cases hb : (Nat.beq c1.f f && fits c1.ps (mapG g c.args.toList)) with
    | true =>
      rw [hb] at hk
      simp only [Bool.and_eq_true] at hb
      exact callK_ok (h c1 List.mem_cons_self) ho hcal hx (Nat.eq_of_beq_eq_true hb.1) hk
    | false =>
      rw [hb] at hk
      exact ih (fun c hc => h c (List.mem_cons_of_mem _ hc)) hk
end
end Go.W
end

section
/-
  A function's contract from the machine's run of it. No program in it.
-/
namespace Go.W
open Go Go.RowKit

def resF (tm : Array Value) : ResultVar → Sem Value
  | .tmp t => pure (tm.getD t undef)
  | .cell b t => do loadVar t (← asAddr (tm.getD b undef))
theorem results_eq (fn : Func) (tm : Array Value) : results fn tm = (do let vs ← fn.results.mapM (resF tm); pure (if h : vs.size = 1 then vs[0] else .tuple vs)) := by
  unfold results
  congr
def tupleOf : List Value → Value
  | [v] => v
  | vs => .tuple vs.toArray

section
variable {E : Env} {N M : Nat} {w0 : World} {K0 : Kn} {H : Nat → Prop} {G : Ghs} {s : ASt} {γ : Ghs} {K : Kn} {a : Act} {w : World}

theorem boxV_rep {T : Ty} {cs : List Cell} {vs : List Value} (h : RepCs γ K cs vs) : RepV γ K (boxV T cs) (vOf T vs) := by
  unfold boxV vOf
  split
  · rename_i hT; rw [hT]; exact ⟨vs, rfl, h⟩
  · rename_i c hT
    rw [hT]
    obtain ⟨v, r, rfl, h1, _⟩ := h
    exact h1
  · exact True.intro

theorem outR_ok (hE : EnvOk E) (hR : Rel E N w0 K0 H G s γ K a w) : ∀ (l : List Kd) (xs : List ResultVar) {ss : List Src}, outR E s l xs = some ss → ∃ Vs, (List.mapM (resF a.tmps) xs).run E.P w = .ok Vs w ∧ SrcL γ K ss Vs ∧ toks ss = [] ∧ ss.length = l.length
  | [], [], ss, h => by
    simp only [outR, Option.some.injEq] at h
    subst h
    exact ⟨[], by simp, rfl, rfl, rfl⟩
  | [], _ :: _, ss, h => by simp [outR] at h
  | _ :: _, [], ss, h => by simp [outR] at h
  | k :: l, x :: xs, ss, h => by
    simp only [outR] at h
    split at h
    · rename_i r rs hr hrs
      injection h with h
      subst h
      obtain ⟨Vs, i1, i2, i3, i4⟩ := outR_ok hE hR l xs hrs
      have key : ∃ v V, r = .val v ∧ (resF a.tmps x).run E.P w = .ok V w ∧ RepV γ K v V := by
        unfold resV at hr
        split at hr
        · rename_i t
          split at hr
          · rename_i vv v hl
            injection hr with hr
            exact ⟨v, _, hr.symm, rfl, (hR.slots t _ _ hl).2⟩
          · cases hr
        · rename_i t ty
          split at hr
          · rename_i vv j hl
            split at hr
            · rename_i vb tib cs T hb hT
              obtain ⟨hc, hr⟩ := bsel_true (r := none) hr
              injection hr with hr
              simp only [Bool.and_eq_true] at hc
              have hTk := same_eq hc.1.1
              have hlen := Nat.eq_of_beq_eq_true hc.1.2
              rw [lng_eq] at hlen
              have hs := (hR.slots t _ _ hl).2
              obtain ⟨g', b, k1, k2, k3, k4⟩ := hs
              have hob : obs s j = some (.box tib cs) := by unfold obs; rw [hb]
              obtain ⟨b', vs, q0, q1, ⟨us, q2, qs⟩, q3, _⟩ := hR.hp.ok j _ g' hob k1
              have := qs.all q3 hc.2
              subst this
              rw [k3] at q1
              injection q1 with q1
              injection q1 with q1
              subst q1
              have hvl := RepCs_len q3
              have hload := loadVar_ok hE hT (w := w) (ad := ⟨b, 0, none⟩) (vs := us) (fun i u hu => by
                rw [add_lit, cell_row q2]; simpa using hu) (by omega)
              refine ⟨_, vOf T us, hr.symm, ?_, by rw [← hTk]; exact boxV_rep q3⟩
              have h4 : (asAddr (a.tmps.getD t undef)).run E.P w = .ok ⟨b, 0, none⟩ w := by rw [k4]; rfl
              simp only [resF, Sem.run_bind, h4, Result.andThen_ok, hload]
            · cases hr
          · cases hr
      obtain ⟨v, V, rfl, q1, q2⟩ := key
      refine ⟨V :: Vs, ?_, ⟨V, Vs, rfl, q2, i2⟩, i3, by simp [i4]⟩
      simp only [List.mapM_cons, Sem.run_bind, q1, Result.andThen_ok, i1, Sem.run_pure]
    · cases h

theorem newF_at : ∀ (os : List Ob) (n i : Nat) {ob : Obs} {j : Nat} {o : Ob}, j = n + i → os[i]? = some o → newF n os ob j = some o
  | [], n, i, ob, j, o, _, h => by simp at h
  | x :: os, n, 0, ob, j, o, e, h => by
    simp only [List.getElem?_cons_zero, Option.some.injEq] at h
    subst h
    show newF (n + 1) os (fset ob n x) j = some x
    rw [newF_ge os (n + 1) _ j (by omega)]
    rw [show j = n by omega]; exact fset_same _ _ _
  | x :: os, n, i + 1, ob, j, o, e, h => newF_at os (n + 1) i (by omega) (by simpa using h)

theorem SrcL_app {γ : Ghs} {K : Kn} : ∀ {a b : List Src} {u v : List Value}, SrcL γ K a u → SrcL γ K b v → SrcL γ K (a ++ b) (u ++ v)
  | [], _, _, _, h1, h2 => by cases h1; exact h2
  | _ :: _, _, _, _, ⟨x, r, e, h1, h2⟩, h3 => by subst e; exact ⟨x, r ++ _, rfl, h1, SrcL_app h2 h3⟩
theorem SrcL_outB {γ : Ghs} {K : Kn} : ∀ (ps : List PK) (b : Nat), ∃ vs, SrcL γ K (outB ps b) vs
  | [], _ => ⟨[], rfl⟩
  | .k (.v _ _) :: l, b => SrcL_outB l b
  | .k (.b _ _ _) :: l, b => by obtain ⟨vs, h⟩ := SrcL_outB l (b + 1); exact ⟨undef :: vs, undef, vs, rfl, True.intro, h⟩
  | .k (.r _ _) :: l, b => SrcL_outB l (b + 1)
  | .k .i :: l, b => SrcL_outB l (b + 1)
  | .fn _ :: l, b => SrcL_outB l b
theorem outB_toks : ∀ (ps : List PK) (b : Nat), noR ps = true → ∀ (i j : Nat), (toks (outB ps b))[i]? = some j → j = b + i
  | [], _, _, i, j, h => by simp [outB, toks] at h
  | .k (.v _ _) :: l, b, hn, i, j, h => outB_toks l b hn i j h
  | .k (.b _ _ _) :: l, b, hn, 0, j, h => by simp only [outB, toks, List.getElem?_cons_zero, Option.some.injEq] at h; omega
  | .k (.b _ _ _) :: l, b, hn, i + 1, j, h => by
    have := outB_toks l (b + 1) hn i j (by simpa [outB, toks] using h)
    omega
  | .k (.r _ _) :: l, b, hn, i, j, h => by cases hn
  | .k .i :: l, b, hn, i, j, h => by cases hn
  | .fn _ :: l, b, hn, i, j, h => outB_toks l b hn i j h
theorem toks_app : ∀ (a b : List Src), toks (a ++ b) = toks a ++ toks b
  | [], _ => rfl
  | .tok j :: a, b => by simp only [List.cons_append, toks, toks_app a b]
  | .val v :: a, b => by simp only [List.cons_append, toks, toks_app a b]

theorem PcL_box {γ2 : Ghs} {ob obF : Obs} : ∀ {ss : List Src} {vs : List Value} {pc : List Piece}, PcL γ γ2 ob obF K w ss vs pc → ∀ (q : Nat) (o : Ob), (obsP pc)[q]? = some o → ∃ j, (toks ss)[q]? = some j ∧ o.owns = true ∧ (∃ p, ob j = some p ∧ obF j = some p ∧ p.owns = true) ∧ ∀ g, γ j = some g → ObOk γ2 K w g o := by
  intro ss
  induction ss with
  | nil => intro vs pc h q o ho; have h : pc = [] := h; subst h; simp [obsP] at ho
  | cons s ss ih =>
    intro vs pc h q o ho
    obtain ⟨v, vr, p, pr, e1, e2, h1, h2⟩ := h
    subst e1; subst e2
    cases s with
    | val v' =>
      cases p with
      | ob o => exact absurd h1 (by simp [PcOk])
      | val v'' => exact ih h2 q o ho
    | tok j =>
      cases p with
      | val v'' => exact absurd h1 (by simp [PcOk])
      | ob o' =>
        cases q with
        | zero =>
          simp only [obsP, List.getElem?_cons_zero, Option.some.injEq] at ho
          subst ho
          exact ⟨j, rfl, h1⟩
        | succ q =>
          obtain ⟨j', q1, q2⟩ := ih h2 q o (by simpa [obsP] using ho)
          exact ⟨j', by simpa [toks] using q1, q2⟩
theorem PcL_vals {γ2 : Ghs} {ob obF : Obs} : ∀ (rs : List Kd) {ss tl : List Src} {Vs Vt : List Value} {ps : List Piece}, onlyV rs = true → ss.length = rs.length → toks ss = [] → SrcL γ K ss Vs → PcL γ γ2 ob obF K w (ss ++ tl) (Vs ++ Vt) ps → RepVs γ2 K (valsP rs ps) Vs
  | [], ss, tl, Vs, Vt, ps, ho, hl, ht, hs, hp => by
    have : ss = [] := List.eq_nil_of_length_eq_zero hl
    subst this
    have hs : Vs = [] := hs
    subst hs
    cases ps <;> rfl
  | .v t m :: rs, ss, tl, Vs, Vt, ps, ho, hl, ht, hs, hp => by
    cases ss with
    | nil => simp at hl
    | cons s ss =>
      obtain ⟨V, Vr, rfl, hs1, hs2⟩ := hs
      obtain ⟨V', Vr', p, pr, e1, rfl, hp1, hp2⟩ := hp
      injection e1 with e1 e2
      subst e1; subst e2
      cases s with
      | tok j => simp [toks] at ht
      | val v =>
        cases p with
        | ob o => exact absurd hp1 (by simp [PcOk])
        | val v' => exact ⟨V, Vr, rfl, hp1, PcL_vals (ss := ss) rs ho (by simpa using hl) ht hs2 hp2⟩
  | .b _ t m :: rs, ss, tl, Vs, Vt, ps, ho, hl, ht, hs, hp => by cases ho
  | .r t m :: rs, ss, tl, Vs, Vt, ps, ho, hl, ht, hs, hp => by cases ho
  | .i :: rs, ss, tl, Vs, Vt, ps, ho, hl, ht, hs, hp => by cases ho

theorem inP_box : ∀ (ps : List PK) {pc : List Piece} (i0 b b' : Nat), noR ps = true → PcKL (kdP ps) pc → ∀ (i j : Nat), (toks (outB ps b))[i]? = some j → ∃ ti cs, (inP ps pc i0 b').2[i]? = some (.box ti cs)
  | [], pc, i0, b, b', _, _, i, j, h => by simp [outB, toks] at h
  | .k (.v t m) :: l, pc, i0, b, b', hn, hp, i, j, h => by
    obtain ⟨p, pr, rfl, h1, h2⟩ := hp
    cases p with
    | ob o => exact absurd h1 (by simp [PcK])
    | val v => exact inP_box l (i0 + 1) b b' hn h2 i j h
  | .k (.b ti t m) :: l, pc, i0, b, b', hn, hp, i, j, h => by
    obtain ⟨p, pr, rfl, h1, h2⟩ := hp
    cases p with
    | val v => exact absurd h1 (by simp [PcK])
    | ob o =>
      cases o with
      | box ti' cs =>
        show ∃ ti2 cs', (Ob.box ti' cs :: (inP l pr (i0 + 1) (b' + 1)).2)[i]? = some (.box ti2 cs')
        cases i with
        | zero => exact ⟨ti', cs, rfl⟩
        | succ i =>
          simp only [List.getElem?_cons_succ]
          exact inP_box l (i0 + 1) (b + 1) (b' + 1) hn h2 i j (by simpa [outB, toks] using h)
      | _ => exact absurd h1 (by simp [PcK])
  | .k (.r _ _) :: l, pc, i0, b, b', hn, hp, i, j, h => by cases hn
  | .k .i :: l, pc, i0, b, b', hn, hp, i, j, h => by cases hn
  | .fn f :: l, pc, i0, b, b', hn, hp, i, j, h => inP_box l (i0 + 1) b b' hn hp i j h

theorem oneV_rep {γ : Ghs} {K : Kn} {l : List Val} {Vs : List Value} (h : RepVs γ K l Vs) : RepSV γ K (oneV l) (tupleOf Vs) := by
  unfold oneV
  split
  · obtain ⟨v, r, rfl, h1, h2⟩ := h
    have h2 : r = [] := h2
    subst h2
    exact h1
  · rename_i hne
    refine ⟨Vs, ?_, h⟩
    unfold tupleOf
    split
    · rename_i V
      cases l with
      | nil => have h : [V] = [] := h; cases h
      | cons v l =>
        obtain ⟨v', r, e, h1, h2⟩ := h
        injection e with e1 e2
        subst e2
        cases l with
        | nil => exact absurd rfl (hne v)
        | cons v2 l => obtain ⟨_, _, e, _⟩ := h2; cases e
    · rfl

theorem execF_ok (hE : EnvOk E) {tab : List Con} (htab : CallsOk E tab) (hD : DrawnOk E tab) {f : Nat} {fn : Func} (hf : E.P.funcs[f]? = some fn) (hname : (fn.name == "runtime.NumGoroutine") = false) (an : Ann) (ps : List PK) (rs : List Kd) :
    ConOk E ⟨f, ps, rs, execF E tab M fn an ps rs⟩ := by
  intro x r h w K H γ args hEnt
  have h : execF E tab M fn an ps rs x = some r := h
  unfold execF at h
  split at h
  · cases h
  · rename_i c hb
    obtain ⟨hc, h⟩ := bsel_true (r := none) h
    simp only [Bool.and_eq_true] at hc
    obtain ⟨⟨⟨hc1, hc2⟩, hc3⟩, hc4⟩ := hc
    have hc2 := Nat.le_of_ble_eq_true hc2
    rw [lng_eq] at hc2
    rw [fSt_eq] at h
    have hsz : args.size = ps.length := hEnt.size
    have hstart := start_eq ps x
    right
    refine ⟨?_, ?_⟩
    · have hnone : fn.body.isNone = false := by rw [hb]; rfl
      unfold callFunc
      simp only [program, Sem.run_bind, Sem.run, Result.andThen_ok, hf, hname, hnone, Bool.false_eq_true, if_false]
      simp
    · refine calls_of_wp hf hb (exec_ok (N := fn.ntmps) (w0 := w) (K0 := K) (H := H) (G := fun j => (γ j).filter (fun g => g.hv == 0)) hE htab hD c none an h hc1 (γ := γ) (K := K) ?_ ?_)
      · refine ⟨by simp; omega, rfl, fun y v sv hy => ?_, hEnt.hp, hEnt.glob, hEnt.tok, fun j v o hj => ?_, hEnt.all, fun j g hg => ?_, by rw [hstart]; simp⟩
        · obtain ⟨q1, q2⟩ := hEnt.slots y v sv hy
          refine ⟨by rw [hstart]; simp; omega, ?_⟩
          have : (args ++ Array.replicate (fn.ntmps - args.size) undef).getD y undef = args.getD y undef := by
            simp only [Array.getD_eq_getD_getElem?]
            by_cases hy : y < args.size
            · rw [Array.getElem?_append_left hy]
            · rw [Array.getElem?_append_right (by omega), Array.getElem?_eq_none (show args.size ≤ y by omega)]
              rw [Array.getElem?_replicate]
              split <;> rfl
          rw [this]
          exact q2
        · have hj' := hj
          rw [hstart] at hj'
          obtain ⟨i, e1, e2, e3⟩ := lk_newO_get _ _ _ _ _ hj'
          have hl := (List.getElem?_eq_some_iff.1 e2).1
          rw [List.length_append] at hl
          simp only at e3
          have hrn : rowsN ps x = (unpackG 1 (kdP ps) 0 x).2.length := rfl
          rw [hstart]
          show v < _ + _ + 2 ∧ j < _ + _ + 2
          omega
        · rw [Option.filter_eq_some_iff] at hg
          exact ⟨by simpa using hg.2, hg.1⟩
      · intro e s γ' K' a' w' hk hx hR
        cases e with
        | nrm => cases hk
        | brk i => cases hk
        | go i => cases hk
        | ret =>
          simp only at hk
          split at hk
          · rename_i ss hss
            split at hk
            · rename_i y u hp
              obtain ⟨ht, hk⟩ := bsel_true (r := none) hk
              injection hk with hk
              subst hk
              obtain ⟨Vs, v1, v2, v3, v4⟩ := outR_ok hE hR rs _ hss
              refine ⟨hR.defers, tupleOf Vs, ?_, fun tk h0 => ?_⟩
              · rw [results_eq, Array.mapM_eq_mapM_toList]
                simp only [Sem.run_bind, Sem.run_map, v1, Result.andThen_ok, Sem.run_pure]
                congr 1
                match Vs with
                | [] => rfl
                | [v] => rfl
                | v :: u :: r => simp [tupleOf]
              · rw [app_eq ss, lng_eq] at hp
                obtain ⟨Vt, hVt⟩ := SrcL_outB (γ := γ') (K := K') ps (1 + (unpackG 1 (kdP ps) 0 x).2.length)
                obtain ⟨K2, obF, hle, hH, hF, _⟩ := hR.hp.fzd (fun _ _ h => h) (packG_upd _ hp) ht
                have hsrc := (SrcL_app v2 hVt).mono hle
                obtain ⟨gs, js, r1, r2, r3⟩ := packG_ok (tk := tk) hH hF h0 (app rs (kdB ps)) (fun j p _ hj => by
                  unfold obs at hj
                  split at hj
                  · rename_i v0 o0 hl; exact hR.all j _ hl
                  · cases hj) hp (fun p hp => hp) hsrc rfl
                have hcnt := (tokOk_ok ht).1
                have htk : toks (ss ++ outB ps (1 + (unpackG 1 (kdP ps) 0 x).2.length)) = toks (outB ps (1 + (unpackG 1 (kdP ps) 0 x).2.length)) := by rw [toks_app, v3]; rfl
                refine ⟨γ', obF, K2, gs, js, hH, r1, fun j => ?_, fun i o ho => ?_, fun γ2 hg => ?_⟩
                · have := r2 j
                  have := hcnt j
                  omega
                · -- any ghosts will do to learn which variable it is
                  have hany : ∀ γ2, Gets gs tk γ2 → ∃ j, j = 1 + rowsN ps x + i ∧ (toks (outB ps (1 + (unpackG 1 (kdP ps) 0 x).2.length)))[i]? = some j ∧ (∃ p, obs s j = some p ∧ obF j = some p ∧ p.owns = true) ∧ ∀ g, γ' j = some g → ObOk γ2 K2 w' g o := fun γ2 hg => by
                    obtain ⟨j, q1, _, q2, q3⟩ := PcL_box (r3 γ2 hg) i o ho
                    rw [htk] at q1
                    exact ⟨j, outB_toks ps _ hc3 i j q1, q1, q2, q3⟩
                  have hlen := NewL_len r1
                  obtain ⟨j, rfl, q1, ⟨p, q2, q3, q4⟩, _⟩ := hany (fun j => gs[j - tk]?) (fun kk g hk => by
                    show gs[tk + (0 + kk) - tk]? = some g
                    rw [show tk + (0 + kk) - tk = kk by omega]; exact hk)
                  refine ⟨?_, ?_, ⟨p, q3, q4⟩, fun γ2 hg g hgg => ?_⟩
                  · have h1 := r2 (1 + rowsN ps x + i)
                    have h2 := hcnt (1 + rowsN ps x + i)
                    have h3 := List.count_pos_iff.2 (List.mem_of_getElem? q1)
                    rw [htk] at h1
                    show js.count (some (1 + rowsN ps x + i)) = 0
                    omega
                  · -- the variable lies where it lay
                    obtain ⟨tib, cs, hbx⟩ := inP_box ps 0 _ (1 + rowsN ps x) hc3 (unpackG_kinds (tk := 1) (kdP ps) 0 x) i _ q1
                    have hst : obs (start ps x) (1 + rowsN ps x + i) = some (.box tib cs) := by
                      rw [obs_eq, hstart]
                      show obsL (app [] (newO 0 1 _)) _ = _
                      rw [obsL_new 0 _ 1 [] (fun j e hj => by simp [lk] at hj)]
                      refine newF_at _ _ (rowsN ps x + i) (by omega) ?_
                      rw [List.getElem?_append_right (by unfold rowsN; omega), show rowsN ps x + i - (unpackG 1 (kdP ps) 0 x).2.length = i by unfold rowsN; omega]
                      exact hbx
                    obtain ⟨g, hg⟩ : ∃ g, γ (1 + rowsN ps x + i) = some g := by
                      unfold obs at hst
                      split at hst
                      · rename_i v0 o0 hl; exact hEnt.all _ _ hl
                      · cases hst
                    obtain ⟨_, _, h0', _⟩ := hEnt.hp.ok _ _ g hst hg
                    have := (hR.fix (1 + rowsN ps x + i) g (by show (γ _).filter _ = _; rw [hg]; simp [h0'])).2
                    rw [this, hg]
                  · obtain ⟨j, rfl, _, _, q⟩ := hany γ2 hg
                    exact q g hgg
                · have hpv := r3 γ2 hg
                  exact oneV_rep (PcL_vals rs hc4 v4 v3 (v2.mono hle) hpv)
            · cases hk
          · cases hk
end
end Go.W
end

section
/-
  Operations in any order: what a set of them has left behind. No program in it.
-/
namespace Go.W
open Go Go.RowKit

/-- an operation and what it does -/
structure Rc where
  o : Oper
  out : Out
  tk : Nat
  T : List Nat
abbrev SF := Nat → Option SV
def stepS (S : SF) (r : Rc) : SF := match r.o.dst with
  | some d => fset S d r.out.sv
  | none => S
def stepO (O : Obs) (r : Rc) : Obs := newF r.tk r.out.new (updF r.out.upd O)
def foldS : List (Nat × Rc) → SF → SF
  | [], S => S
  | p :: l, S => foldS l (stepS S p.2)
def foldO : List (Nat × Rc) → Obs → Obs
  | [], O => O
  | p :: l, O => foldO l (stepO O p.2)
def Rc.wr (x : Nat) (r : Rc) : Bool := r.o.dst == some x
def Rc.touch (j : Nat) (r : Rc) : Bool := memN j (wtoks r.tk r.out)

theorem foldS_app : ∀ (l m : List (Nat × Rc)) (S : SF), foldS (l ++ m) S = foldS m (foldS l S)
  | [], _, _ => rfl
  | p :: l, m, S => foldS_app l m _
theorem foldO_app : ∀ (l m : List (Nat × Rc)) (O : Obs), foldO (l ++ m) O = foldO m (foldO l O)
  | [], _, _ => rfl
  | p :: l, m, O => foldO_app l m _

/-! ### one slot, one object -/
theorem stepS_ext {S S' : SF} {x : Nat} (h : S x = S' x) (r : Rc) : stepS S r x = stepS S' r x := by
  cases hd : r.o.dst with
  | none => simpa only [stepS, hd] using h
  | some d =>
    simp only [stepS, hd, fset]
    split
    · rfl
    · exact h
theorem stepS_no {S : SF} {x : Nat} {r : Rc} (h : r.wr x = false) : stepS S r x = S x := by
  unfold Rc.wr at h
  cases hd : r.o.dst with
  | none => simp only [stepS, hd]
  | some d =>
    simp only [stepS, hd]
    refine fset_ne _ _ fun e => ?_
    subst e
    rw [hd] at h
    simp at h
theorem stepS_wr {S S' : SF} {x : Nat} {r : Rc} (h : r.wr x = true) : stepS S r x = stepS S' r x := by
  unfold Rc.wr at h
  cases hd : r.o.dst with
  | none => rw [hd] at h; simp at h
  | some d =>
    rw [hd] at h
    have : d = x := by simpa using h
    subst this
    simp only [stepS, hd, fset_same]
theorem updF_ext : ∀ (u : Upd) {O O' : Obs} {j : Nat}, O j = O' j → updF u O j = updF u O' j
  | [], _, _, _, h => h
  | (i, o) :: u, O, O', j, h => updF_ext u (by unfold fset; split; rfl; exact h)
theorem newF_ext : ∀ (os : List Ob) (n : Nat) {O O' : Obs} {j : Nat}, O j = O' j → newF n os O j = newF n os O' j
  | [], _, _, _, _, h => h
  | o :: os, n, O, O', j, h => newF_ext os (n + 1) (by unfold fset; split; rfl; exact h)
theorem updF_no : ∀ (u : Upd) {O : Obs} {j : Nat}, (∀ p ∈ u, p.1 ≠ j) → updF u O j = O j
  | [], _, _, _ => rfl
  | (i, o) :: u, O, j, h => by
    show updF u (fset O i o) j = O j
    rw [updF_no u fun p hp => h p (List.mem_cons_of_mem _ hp), fset_ne]
    exact fun e => h (i, o) List.mem_cons_self e.symm
theorem updF_in : ∀ (u : Upd) {O O' : Obs} {j : Nat}, (∃ p ∈ u, p.1 = j) → updF u O j = updF u O' j
  | [], _, _, _, ⟨p, hp, _⟩ => by cases hp
  | (i, o) :: u, O, O', j, ⟨p, hp, e⟩ => by
    show updF u (fset O i o) j = updF u (fset O' i o) j
    by_cases hij : j = i
    · subst hij; exact updF_ext u (by rw [fset_same, fset_same])
    · refine updF_in u ⟨p, ?_, e⟩
      rcases List.mem_cons.1 hp with rfl | hp
      · exact absurd e.symm hij
      · exact hp
theorem newF_no : ∀ (os : List Ob) (n : Nat) {O : Obs} {j : Nat}, (∀ i, i < os.length → j ≠ n + i) → newF n os O j = O j
  | [], _, _, _, _ => rfl
  | o :: os, n, O, j, h => by
    show newF (n + 1) os (fset O n o) j = O j
    rw [newF_no os (n + 1) fun i hi e => h (i + 1) (by simp; omega) (by omega), fset_ne]
    exact fun e => h 0 (by simp) (by omega)
theorem newF_in : ∀ (os : List Ob) (n : Nat) {O O' : Obs} {j : Nat}, (∃ i, i < os.length ∧ j = n + i) → newF n os O j = newF n os O' j
  | [], _, _, _, _, ⟨i, hi, _⟩ => absurd hi (Nat.not_lt_zero i)
  | o :: os, n, O, O', j, ⟨i, hi, e⟩ => by
    show newF (n + 1) os (fset O n o) j = newF (n + 1) os (fset O' n o) j
    by_cases hij : j = n
    · subst hij; exact newF_ext os _ (by rw [fset_same, fset_same])
    · exact newF_in os (n + 1) ⟨i - 1, by simp at hi; omega, by omega⟩
theorem mem_seqN {j : Nat} : ∀ {m n : Nat}, j ∈ seqN n m ↔ n ≤ j ∧ j < n + m
  | 0, n => by simp [seqN]
  | m + 1, n => by
    simp only [seqN, List.mem_cons, mem_seqN (m := m), Nat.succ_eq_add_one]
    omega
theorem mem_fstsU {j : Nat} : ∀ {u : Upd}, j ∈ fstsU u ↔ ∃ p ∈ u, p.1 = j
  | [] => by simp [fstsU]
  | (i, o) :: u => by
    simp only [fstsU, List.mem_cons, mem_fstsU (u := u)]
    constructor
    · rintro (rfl | ⟨p, hp, e⟩)
      · exact ⟨_, .inl rfl, rfl⟩
      · exact ⟨p, .inr hp, e⟩
    · rintro ⟨p, rfl | hp, e⟩
      · exact .inl e.symm
      · exact .inr ⟨p, hp, e⟩
theorem touch_iff {j : Nat} {r : Rc} : r.touch j = true ↔ (∃ p ∈ r.out.upd, p.1 = j) ∨ (∃ i, i < r.out.new.length ∧ j = r.tk + i) := by
  unfold Rc.touch wtoks
  rw [memN_iff, app_eq, List.mem_append, mem_fstsU, mem_seqN, lng_eq]
  constructor
  · rintro (h | h)
    · exact .inl h
    · exact .inr ⟨j - r.tk, by omega, by omega⟩
  · rintro (h | ⟨i, h1, h2⟩)
    · exact .inl h
    · exact .inr (by omega)
theorem stepO_ext {O O' : Obs} {j : Nat} (h : O j = O' j) (r : Rc) : stepO O r j = stepO O' r j := newF_ext _ _ (updF_ext _ h)
theorem stepO_no {O : Obs} {j : Nat} {r : Rc} (h : r.touch j = false) : stepO O r j = O j := by
  have h' : ¬ (r.touch j = true) := by rw [h]; exact fun e => by cases e
  rw [touch_iff] at h'
  unfold stepO
  rw [newF_no _ _ fun i hi e => h' (.inr ⟨i, hi, e⟩), updF_no _ fun p hp e => h' (.inl ⟨p, hp, e⟩)]
theorem stepO_in {O O' : Obs} {j : Nat} {r : Rc} (h : r.touch j = true) : stepO O r j = stepO O' r j := by
  unfold stepO
  rcases touch_iff.1 h with h | h
  · exact newF_ext _ _ (updF_in _ h)
  · exact newF_in _ _ h
theorem foldS_ext : ∀ (l : List (Nat × Rc)) {S S' : SF} {x : Nat}, S x = S' x → foldS l S x = foldS l S' x
  | [], _, _, _, h => h
  | p :: l, _, _, _, h => foldS_ext l (stepS_ext h p.2)
theorem foldO_ext : ∀ (l : List (Nat × Rc)) {O O' : Obs} {j : Nat}, O j = O' j → foldO l O j = foldO l O' j
  | [], _, _, _, h => h
  | p :: l, _, _, _, h => foldO_ext l (stepO_ext h p.2)
theorem foldS_at : ∀ (l : List (Nat × Rc)) {S : SF} {x : Nat}, foldS l S x = foldS (l.filter fun p => p.2.wr x) S x
  | [], _, _ => rfl
  | p :: l, S, x => by
    cases h : p.2.wr x with
    | true => rw [List.filter_cons_of_pos (by exact h)]; exact foldS_at l
    | false =>
      rw [List.filter_cons_of_neg (by rw [h]; exact fun e => by cases e)]
      show foldS l (stepS S p.2) x = _
      rw [foldS_ext l (stepS_no h)]
      exact foldS_at l
theorem foldO_at : ∀ (l : List (Nat × Rc)) {O : Obs} {j : Nat}, foldO l O j = foldO (l.filter fun p => p.2.touch j) O j
  | [], _, _ => rfl
  | p :: l, O, j => by
    cases h : p.2.touch j with
    | true => rw [List.filter_cons_of_pos (by exact h)]; exact foldO_at l
    | false =>
      rw [List.filter_cons_of_neg (by rw [h]; exact fun e => by cases e)]
      show foldO l (stepO O p.2) j = _
      rw [foldO_ext l (stepO_no h)]
      exact foldO_at l
/-- two choices of the operations that agree where it counts -/
theorem foldS_same {l : List (Nat × Rc)} {S : SF} {x : Nat} {f g : Nat → Bool} (h : ∀ p ∈ l, p.2.wr x = true → f p.1 = g p.1) : foldS (l.filter fun p => f p.1) S x = foldS (l.filter fun p => g p.1) S x := by
  rw [foldS_at, foldS_at (l := l.filter fun p => g p.1), List.filter_filter, List.filter_filter]
  rw [List.filter_congr (q := fun p : Nat × Rc => p.2.wr x && g p.1) fun p hp => ?_]
  cases hw : p.2.wr x with
  | true => simp [h p hp hw]
  | false => simp
theorem foldO_same {l : List (Nat × Rc)} {O : Obs} {j : Nat} {f g : Nat → Bool} (h : ∀ p ∈ l, p.2.touch j = true → f p.1 = g p.1) : foldO (l.filter fun p => f p.1) O j = foldO (l.filter fun p => g p.1) O j := by
  rw [foldO_at, foldO_at (l := l.filter fun p => g p.1), List.filter_filter, List.filter_filter]
  rw [List.filter_congr (q := fun p : Nat × Rc => p.2.touch j && g p.1) fun p hp => ?_]
  cases hw : p.2.touch j with
  | true => simp [h p hp hw]
  | false => simp
end Go.W
end

section
/-
  Operations in any order: what the machine's run of a drawn region says of each of them. No program in it.
-/
namespace Go.W
open Go Go.RowKit

def sfOf (s : ASt) : SF := fun x => (lk s.sl x).map (·.2)
def getF (E : Env) (S : SF) : Operand → SV
  | .tmp t => (S t).getD (.val (.one .undef))
  | .const v => svV v
  | .global g => match lkG E.gl g with
    | some ⟨t, x⟩ => .val (.one (.kp t x))
    | none => .val (.one .undef)
  | .func f => .val (.one (.fn f))
theorem getS_eq (E : Env) (s : ASt) : getS E s = getF E (sfOf s) := by
  funext x
  cases x with
  | tmp t =>
    simp only [getS, getF, sfOf]
    cases lk s.sl t <;> rfl
  | const v => rfl
  | global g => rfl
  | func f => rfl
def Rc.lg (r : Rc) : Lg := ⟨r.T, wtoks r.tk r.out⟩
def Want (E : Env) (ops : List Oper) (S : SF) (o : Oper) : Prop := o.guard = none ∨ ∃ j b g, o.guard = some (j, b) ∧ dstAt ops j = some g ∧ getF E S (.tmp g) = .val (.one (.v .bool b))
def Unwant (E : Env) (ops : List Oper) (S : SF) (o : Oper) : Prop := ∃ j b g, o.guard = some (j, b) ∧ dstAt ops j = some g ∧ (getF E S (.tmp g) = .val (.one (.v .bool (!b))) ∨ getF E S (.tmp g) = .tup [])
def RunOk (E : Env) (ops : List Oper) (S : SF) (O : Obs) (r : Rc) : Prop :=
  (Want E ops S r.o ∧ OpOk E (getF E S) (resO r.T O) r.tk r.o r.out) ∨ (Unwant E ops S r.o ∧ r.out = ⟨.tup [], [], []⟩)
def TrOk (E : Env) (ops : List Oper) : SF → Obs → Nat → List Rc → Prop
  | _, _, _, [] => True
  | S, O, tm, r :: rs => tm ≤ r.tk ∧ (∀ p ∈ r.out.upd, p.1 < r.tk ∧ ∃ o, O p.1 = some o ∧ o ≠ .gone) ∧ RunOk E ops S O r ∧ TrOk E ops (stepS S r) (stepO O r) (r.tk + r.out.new.length + 1) rs

theorem fNs_eq {β : Type} : ∀ (l : List Nat) (k : List Nat → β), fNs l k = k l
  | [], _ => rfl
  | _ :: l, k => by simp only [fNs, fN_eq, fNs_eq l]
theorem updIn_of {ob : Obs} : ∀ {u : Upd}, updIn ob u = true → ∀ p ∈ u, ∃ o, ob p.1 = some o ∧ o ≠ .gone
  | [], _, p, hp => by cases hp
  | (j, x) :: u, h, p, hp => by
    simp only [updIn] at h
    split at h
    · cases h
    · rename_i o hng ho
      rcases List.mem_cons.1 hp with rfl | hp
      · exact ⟨o, ho, hng⟩
      · exact updIn_of h p hp
    · cases h
theorem sfOf_apply (s : ASt) (o : Oper) (out : Out) (tk : Nat) (T : List Nat) : sfOf (apply s o out) = stepS (sfOf s) ⟨o, out, tk, T⟩ := by
  funext x
  cases hd : o.dst with
  | none => simp only [sfOf, apply, stepS, hd]
  | some d =>
    simp only [sfOf, apply, stepS, hd, lk_put, fset]
    split <;> rfl
theorem sfOf_setS {E : Env} {s : ASt} {g : Nat} {b : Bool} (h : getF E (sfOf s) (.tmp g) = .val (.one (.v .bool b))) : sfOf (setS s g b) = sfOf s := by
  funext x
  simp only [sfOf, setS, lk_put]
  split
  · rename_i e
    subst e
    simp only [getF, sfOf] at h
    cases hl : lk s.sl x with
    | none => rw [hl] at h; simp at h
    | some e => rw [hl] at h; simpa using h.symm
  · rfl
theorem obsL_setE_eq {l : List (Nat × Nat × Ob)} {x : Nat} (v : Nat) (b : Ob) (h : ∃ e, lk l x = some e) : obsL (setE x v b l) = fset (obsL l) x b := by
  obtain ⟨e, he⟩ := h
  funext j
  unfold obsL
  rcases lk_setE x v b l j with ⟨h1, h2⟩ | ⟨h1, h2, _⟩
  · by_cases hj : j = x
    · have := h2 hj; subst hj; rw [he] at this; cases this
    · rw [h1, fset_ne _ _ hj]
  · subst h1; rw [h2, fset_same]
theorem obsL_updO_eq (v : Nat) : ∀ (u : Upd) (l : List (Nat × Nat × Ob)), (∀ p ∈ u, ∃ e, lk l p.1 = some e) → obsL (updO v u l) = updF u (obsL l)
  | [], _, _ => rfl
  | (i, o) :: u, l, h => by
    show obsL (updO v u (setE i v o l)) = updF u (fset (obsL l) i o)
    rw [obsL_updO_eq v u (setE i v o l) fun p hp => ?_, obsL_setE_eq v o (h (i, o) List.mem_cons_self)]
    obtain ⟨e, he⟩ := h p (List.mem_cons_of_mem _ hp)
    rcases lk_setE i v o l p.1 with ⟨h1, _⟩ | ⟨_, h1, _⟩
    · exact ⟨e, by rw [h1]; exact he⟩
    · exact ⟨_, h1⟩
theorem obs_some {s : ASt} {j : Nat} {o : Ob} (h : obs s j = some o) : ∃ v, lk s.ob j = some (v, o) := by
  unfold obs at h
  split at h
  · rename_i v o' hl; injection h with h; subst h; exact ⟨v, hl⟩
  · cases h
theorem obs_apply {s : ASt} {o : Oper} {out : Out} (hlt : ∀ j e, lk s.ob j = some e → j < s.tm) (hu : updIn (obs s) out.upd = true) (T : List Nat) : obs (apply s o out) = stepO (obs s) ⟨o, out, s.tm, T⟩ := by
  have hin : ∀ p ∈ out.upd, ∃ e, lk s.ob p.1 = some e := fun p hp => by
    obtain ⟨x, hx, _⟩ := updIn_of hu p hp
    obtain ⟨v, hv⟩ := obs_some hx
    exact ⟨_, hv⟩
  rw [obs_eq]
  show obsL (app (updO s.tm out.upd s.ob) (newO s.tm s.tm out.new)) = newF s.tm out.new (updF out.upd (obsL s.ob))
  rw [obsL_new _ _ _ _ fun j e hj => ?_, obsL_updO_eq _ _ _ hin]
  rcases lk_updO s.tm out.upd s.ob j with h1 | ⟨_, h1⟩
  · rw [h1] at hj; exact hlt j e hj
  · obtain ⟨e', h1⟩ := Option.isSome_iff_exists.1 h1; exact hlt j e' h1
end Go.W
end

section
/-
  Operations in any order: the trace of a drawn region. No program in it.
-/
namespace Go.W
open Go Go.RowKit

/-- versions of a state -/
structure Vok (s : ASt) : Prop where
  sl : ∀ x v sv, lk s.sl x = some (v, sv) → v < s.tm
  ob : ∀ j v o, lk s.ob j = some (v, o) → v < s.tm ∧ j < s.tm
theorem Vok.apply {s : ASt} (h : Vok s) (o : Oper) (out : Out) : Vok (apply s o out) := by
  have htm : (W.apply s o out).tm = s.tm + (out.new.length + 1) := by simp [W.apply, lng_eq]
  refine ⟨fun x v sv hx => ?_, fun j v ob hj => ?_⟩
  · rw [htm]
    cases hd : o.dst with
    | none => simp only [W.apply, hd] at hx; have := h.sl x v sv hx; omega
    | some d =>
      simp only [W.apply, hd, lk_put] at hx
      split at hx
      · injection hx with hx; injection hx with e1 _; omega
      · have := h.sl x v sv hx; omega
  · rw [htm]
    simp only [W.apply] at hj
    rw [lk_app] at hj
    cases hl : lk (updO s.tm out.upd s.ob) j with
    | some e =>
      rw [hl] at hj
      injection hj with hj
      subst hj
      rcases lk_updO s.tm out.upd s.ob j with h1 | ⟨⟨o', h1⟩, h2⟩
      · rw [h1] at hl; have := h.ob j v ob hl; omega
      · obtain ⟨⟨v', ob'⟩, h2⟩ := Option.isSome_iff_exists.1 h2
        have := h.ob j v' ob' h2
        rw [h1] at hl; injection hl with hl; injection hl with hl _; omega
    | none =>
      rw [hl] at hj
      have := lk_newO _ _ _ _ _ hj
      simp only at this
      omega
theorem Vok.setS {s : ASt} (h : Vok s) (g : Nat) (b : Bool) : Vok (setS s g b) := by
  refine ⟨fun x v sv hx => ?_, fun j v ob hj => ?_⟩
  · simp only [W.setS, lk_put] at hx ⊢
    split at hx
    · injection hx with hx; injection hx with e1 _; omega
    · have := h.sl x v sv hx; omega
  · have := h.ob j v ob hj; simp only [W.setS]; omega

def Trace {α : Type} (E : Env) (ops os : List Oper) (s : ASt) (log : List Lg) (k : ASt → Option α) (r : α) : Prop :=
  ∃ rs s', rs.map Rc.o = os ∧ k s' = some r ∧ chkD ops (log ++ rs.map Rc.lg) = true ∧ TrOk E ops (sfOf s) (obs s) s.tm rs ∧ Ext s s' ∧ Vok s' ∧ sfOf s' = rs.foldl stepS (sfOf s) ∧ obs s' = rs.foldl stepO (obs s) ∧ ∀ q ∈ rs, q.tk + q.out.new.length < s'.tm
section
variable {E : Env} {α : Type} {r : α}
theorem drawC_trace (hE : EnvOk E) {tab : List Con} (htab : CallsOk E tab) {ops : List Oper} : ∀ (os : List Oper) {s : ASt} {log : List Lg} {k : ASt → Option α}, drawC E tab ops os s log k = some r → Vok s → Trace E ops os s log k r
  | [], s, log, k, h, hv => by
    obtain ⟨h1, h2⟩ := bsel_true (r := none) h
    exact ⟨[], s, rfl, h2, by simpa using h1, True.intro, Ext.refl s, hv, rfl, rfl, fun q hq => (by cases hq)⟩
  | o :: os, s, log, k, h, hv => by
    have hext : ∀ {s : ASt}, Vok s → ∀ out, Ext s (W.apply s o out) := fun hv out => apply_ext _ o out fun j v ob hj => (hv.ob j v ob hj).2
    -- the operation is carried out
    have run : ∀ {s1 : ASt}, Vok s1 → Ext s s1 → sfOf s1 = sfOf s → obs s1 = obs s → Want E ops (sfOf s) o → (runD E tab s1 o fun s l => drawC E tab ops os s (app log [l]) k) = some r → Trace E ops (o :: os) s log k r := fun {s1} hv1 hx e1 e2 hw h1 => by
      unfold runD at h1
      rw [fNs_eq] at h1
      obtain ⟨out, h2, hop⟩ := opC_ok hE htab (fun _ => rfl) h1
      obtain ⟨hu, h2⟩ := bsel_true (r := none) h2
      rw [fNs_eq, fSt_eq] at h2
      simp only [app_eq] at h2
      obtain ⟨rs, s', q1, q2, q3, q4, q5, q6, q7, q8, q9⟩ := drawC_trace hE htab os h2 (hv1.apply o out)
      have hob := obs_apply (o := o) (fun j e hj => (hv1.ob j e.1 e.2 hj).2) hu (opToks (getS E s1) (obs s) o)
      have hsf := sfOf_apply s1 o out s1.tm (opToks (getS E s1) (obs s) o)
      have htm2 : (W.apply s1 o out).tm = s1.tm + out.new.length + 1 := by simp [W.apply, lng_eq, Nat.add_assoc]
      rw [hob, hsf, htm2, e1, e2] at q4
      rw [hsf, e1] at q7
      rw [hob, e2] at q8
      refine ⟨⟨o, out, s1.tm, opToks (getS E s1) (obs s) o⟩ :: rs, s', by simp [q1], q2, ?_, ⟨hx.tm, fun p hp => ?_, .inl ⟨hw, ?_⟩, q4⟩, (hx.trans (hext hv1 out)).trans q5, q6, q7, q8, fun q hq => (List.mem_cons.1 hq).elim (fun e => by subst e; have := q5.tm; rw [htm2] at this; show s1.tm + out.new.length < s'.tm; omega) (q9 q)⟩
      · rw [← q3, e2]; simp [Rc.lg]
      · obtain ⟨x, hx, hng⟩ := updIn_of hu p hp
        obtain ⟨v, hv⟩ := obs_some hx
        exact ⟨(hv1.ob _ _ _ hv).2, x, by rw [← e2]; exact hx, hng⟩
      · rw [getS_eq, e1, e2] at hop
        show OpOk E (getF E (sfOf s)) (resO (opToks (getS E s1) (obs s) o) (obs s)) s1.tm o out
        rw [getS_eq, e1]
        exact hop
    have skip : ∀ {s1 : ASt}, Vok s1 → Ext s s1 → sfOf s1 = sfOf s → obs s1 = obs s → Unwant E ops (sfOf s) o → (skipD s1 o fun s l => drawC E tab ops os s (app log [l]) k) = some r → Trace E ops (o :: os) s log k r := fun {s1} hv1 hx e1 e2 hw h1 => by
      unfold skipD at h1
      rw [fSt_eq] at h1
      simp only [app_eq] at h1
      obtain ⟨rs, s', q1, q2, q3, q4, q5, q6, q7, q8, q9⟩ := drawC_trace hE htab os h1 (hv1.apply o ⟨.tup [], [], []⟩)
      have hob : obs (skipO s1 o) = stepO (obs s1) ⟨o, ⟨.tup [], [], []⟩, s1.tm, []⟩ := obs_apply (o := o) (fun j e hj => (hv1.ob j e.1 e.2 hj).2) rfl []
      have hsf : sfOf (skipO s1 o) = stepS (sfOf s1) ⟨o, ⟨.tup [], [], []⟩, s1.tm, []⟩ := sfOf_apply s1 o _ s1.tm []
      have htm2 : (skipO s1 o).tm = s1.tm + 0 + 1 := by simp [skipO, W.apply, lng_eq]
      rw [hob, hsf, htm2, e1, e2] at q4
      rw [hsf, e1] at q7
      rw [hob, e2] at q8
      exact ⟨⟨o, ⟨.tup [], [], []⟩, s1.tm, []⟩ :: rs, s', by simp [q1], q2, by rw [← q3]; simp [Rc.lg, wtoks, fstsU, seqN, app, lng], ⟨hx.tm, fun p hp => (by cases hp), .inr ⟨hw, rfl⟩, q4⟩, (hx.trans (hext hv1 _)).trans q5, q6, q7, q8, fun q hq => (List.mem_cons.1 hq).elim (fun e => by subst e; have := q5.tm; rw [htm2] at this; show s1.tm + 0 < s'.tm; omega) (q9 q)⟩
    simp only [drawC] at h
    split at h
    · rename_i hg
      exact run hv (Ext.refl s) rfl rfl (.inl hg) h
    · rename_i j b hg
      split at h
      · cases h
      · rename_i gs hgs
        split at h
        · rename_i e he
          rw [getS_eq] at he
          cases b with
          | true =>
            cases e with
            | true =>
              simp only [cnd, cond_true] at h
              rw [fSt_eq] at h
              exact run (hv.setS gs true) (setS_ext s gs true) (sfOf_setS he) rfl (.inr ⟨j, true, gs, hg, hgs, he⟩) h
            | false =>
              simp only [cnd, cond_false] at h
              rw [fSt_eq] at h
              exact skip (hv.setS gs false) (setS_ext s gs false) (sfOf_setS he) rfl ⟨j, true, gs, hg, hgs, .inl he⟩ h
          | false =>
            cases e with
            | true =>
              simp only [cnd, cond_true] at h
              rw [fSt_eq] at h
              exact skip (hv.setS gs true) (setS_ext s gs true) (sfOf_setS he) rfl ⟨j, false, gs, hg, hgs, .inl he⟩ h
            | false =>
              simp only [cnd, cond_false] at h
              rw [fSt_eq] at h
              exact run (hv.setS gs false) (setS_ext s gs false) (sfOf_setS he) rfl (.inr ⟨j, false, gs, hg, hgs, he⟩) h
        · rename_i he
          rw [getS_eq] at he
          exact skip hv (Ext.refl s) rfl rfl ⟨j, b, gs, hg, hgs, .inr he⟩ h
        · cases h
end
end Go.W
end

section
/-
  Operations in any order: what the check of a drawn region says. No program in it.
-/
namespace Go.W
open Go Go.RowKit

theorem againstAll_of {ops : List Oper} {p : List Nat} {o : Oper} {l : Lg} : ∀ {xs : List Oper} {asl : List Lg} {i : Nat}, againstAll ops p o l i xs asl = true → ∀ (q : Nat) (x : Oper) (a : Lg), xs[q]? = some x → asl[q]? = some a → i + q ∈ p ∨ freeOf ops x o a l = true
  | [], _, _, _, q, x, a, h, _ => by simp at h
  | _ :: _, [], _, h, q, x, a, _, _ => by simp [againstAll] at h
  | x0 :: xs, a0 :: asl, i, h, q, x, a, h1, h2 => by
    obtain ⟨h3, h4⟩ := bsel_and (show bsel (memN i p || freeOf ops x0 o a0 l) (againstAll ops p o l i.succ xs asl) false = true from h)
    cases q with
    | zero =>
      simp only [List.getElem?_cons_zero, Option.some.injEq] at h1 h2
      subst h1; subst h2
      simp only [Bool.or_eq_true] at h3
      rcases h3 with h3 | h3
      · exact .inl (memN_iff.1 h3)
      · exact .inr h3
    | succ q =>
      have := againstAll_of h4 q x a (by simpa using h1) (by simpa using h2)
      rwa [show i.succ + q = i + (q + 1) by omega] at this
theorem logOk_of {ops : List Oper} {ps : List (List Nat)} : ∀ (rest : List Oper) {ls : List Lg} {done : List Oper} {dl : List Lg}, logOk ops ps rest ls done dl = true → done.length = dl.length → ∀ (i k : Nat) (x y : Oper) (a b : Lg), i < k → done.length ≤ k → (done ++ rest)[i]? = some x → (done ++ rest)[k]? = some y → (dl ++ ls)[i]? = some a → (dl ++ ls)[k]? = some b →
    (∃ p, ps[k]? = some p ∧ i ∈ p) ∨ freeOf ops x y a b = true
  | [], ls, done, dl, _, hl, i, k, x, y, a, b, _, hk, _, h2, _, _ => by
    have := (List.getElem?_eq_some_iff.1 h2).1
    simp at this
    omega
  | o :: rest, [], done, dl, h, hl, i, k, x, y, a, b, _, hk, _, h2, _, _ => by simp [logOk] at h
  | o :: rest, l :: ls, done, dl, h, hl, i, k, x, y, a, b, hik, hk, h1, h2, h3, h4 => by
    simp only [logOk] at h
    split at h
    · rename_i p hp
      rw [nth_eq, lng_eq] at hp
      obtain ⟨h5, h6⟩ := bsel_and h
      rw [app_eq, app_eq] at h6
      by_cases hkd : k = done.length
      · subst hkd
        rw [List.getElem?_append_right (Nat.le_refl _)] at h2
        rw [hl, List.getElem?_append_right (Nat.le_refl _)] at h4
        simp only [Nat.sub_self, List.getElem?_cons_zero, Option.some.injEq] at h2 h4
        subst h2; subst h4
        rw [List.getElem?_append_left hik] at h1
        rw [List.getElem?_append_left (by omega)] at h3
        rcases againstAll_of h5 i x a h1 h3 with h7 | h7
        · exact .inl ⟨p, hp, by simpa using h7⟩
        · exact .inr h7
      · refine logOk_of rest h6 (by simp [hl]) i k x y a b hik (by simp; omega) ?_ ?_ ?_ ?_
        · simpa using h1
        · simpa using h2
        · simpa using h3
        · simpa using h4
    · cases h
end Go.W
end

section
/-
  Operations in any order: what must come ahead. No program in it.
-/
namespace Go.W
open Go Go.RowKit

/-- with an operation, all that must come ahead of it -/
def Closed (ops : List Oper) (D : Nat → Prop) : Prop := ∀ (k : Nat) (o : Oper), D k → ops[k]? = some o → ∀ e ∈ o.after.toList, Region.binds .any e = true → D e.on
theorem edgesOf_mem {i : Nat} : ∀ {l : List Edge}, i ∈ edgesOf l → ∃ e ∈ l, Region.binds .any e = true ∧ e.on = i
  | [], h => by simp [edgesOf] at h
  | e :: l, h => by
    simp only [edgesOf, bsel] at h
    split at h
    · rename_i hb
      rcases List.mem_cons.1 h with h | h
      · exact ⟨e, List.mem_cons_self, hb, h.symm⟩
      · obtain ⟨e', h1, h2⟩ := edgesOf_mem h
        exact ⟨e', List.mem_cons_of_mem _ h1, h2⟩
    · obtain ⟨e', h1, h2⟩ := edgesOf_mem h
      exact ⟨e', List.mem_cons_of_mem _ h1, h2⟩
theorem uni_mem {i : Nat} : ∀ {a b : List Nat}, i ∈ uni a b → i ∈ a ∨ i ∈ b
  | [], b, h => .inr h
  | x :: a, b, h => by
    simp only [uni, bsel] at h
    split at h
    · rcases uni_mem h with h | h
      · exact .inl (List.mem_cons_of_mem _ h)
      · exact .inr h
    · rcases uni_mem h with h | h
      · exact .inl (List.mem_cons_of_mem _ h)
      · rcases List.mem_cons.1 h with h | h
        · exact .inl (by rw [h]; exact List.mem_cons_self)
        · exact .inr h
theorem gather_mem {i : Nat} {ps : List (List Nat)} : ∀ {es acc : List Nat}, i ∈ gather ps es acc → i ∈ acc ∨ i ∈ es ∨ ∃ j ∈ es, ∃ l, ps[j]? = some l ∧ i ∈ l
  | [], acc, h => .inl h
  | j :: es, acc, h => by
    have up : ∀ {acc' : List Nat}, (i ∈ acc' ∨ i ∈ es ∨ ∃ j ∈ es, ∃ l, ps[j]? = some l ∧ i ∈ l) → i ∈ acc' ∨ i ∈ j :: es ∨ ∃ j' ∈ j :: es, ∃ l, ps[j']? = some l ∧ i ∈ l := fun h => by
      rcases h with h | h | ⟨j', h1, h2⟩
      · exact .inl h
      · exact .inr (.inl (List.mem_cons_of_mem _ h))
      · exact .inr (.inr ⟨j', List.mem_cons_of_mem _ h1, h2⟩)
    simp only [gather, bsel] at h
    split at h
    · exact up (gather_mem h)
    · rw [fNs_eq] at h
      rcases up (gather_mem h) with h | h
      · rcases uni_mem h with h | h
        · split at h
          · rename_i l hl
            rw [nth_eq] at hl
            exact .inr (.inr ⟨j, List.mem_cons_self, l, hl, h⟩)
          · cases h
        · rcases List.mem_cons.1 h with h | h
          · exact .inr (.inl (by rw [h]; exact List.mem_cons_self))
          · exact .inl h
      · exact .inr h
theorem predsOf_of {ops : List Oper} {D : Nat → Prop} (hD : Closed ops D) : ∀ (rest : List Oper) {acc : List (List Nat)}, (∀ (k : Nat) (o : Oper), rest[k]? = some o → ops[acc.length + k]? = some o) → (∀ (k : Nat) (p : List Nat), acc[k]? = some p → ∀ i ∈ p, D k → D i) → ∀ (k : Nat) (p : List Nat), (predsOf rest acc)[k]? = some p → ∀ i ∈ p, D k → D i
  | [], acc, _, hacc, k, p, h => hacc k p h
  | o :: rest, acc, hops, hacc, k, p, h => by
    simp only [predsOf, fNs_eq, app_eq] at h
    refine predsOf_of hD rest (fun q x hq => ?_) (fun q p' hq i hi hDq => ?_) k p h
    · have := hops (q + 1) x (by simpa using hq)
      rw [List.length_append]
      simpa [Nat.add_assoc, Nat.add_comm 1] using this
    · by_cases hql : q < acc.length
      · rw [List.getElem?_append_left hql] at hq
        exact hacc q p' hq i hi hDq
      · have hq' := (List.getElem?_eq_some_iff.1 hq).1
        simp at hq'
        have : q = acc.length := by omega
        subst this
        rw [List.getElem?_append_right (Nat.le_refl _)] at hq
        simp only [Nat.sub_self, List.getElem?_cons_zero, Option.some.injEq] at hq
        subst hq
        have ho := hops 0 o rfl
        have dir : ∀ j ∈ edgesOf o.after.toList, D j := fun j hj => by
          obtain ⟨e, h1, h2, h3⟩ := edgesOf_mem hj
          rw [← h3]
          exact hD acc.length o hDq (by simpa using ho) e h1 h2
        rcases gather_mem hi with h | h | ⟨j, h1, l, h2, h3⟩
        · cases h
        · exact dir i h
        · exact hacc j l h2 i h3 (dir j h1)
end Go.W
end

section
/-
  Operations in any order: numbered records. No program in it.
-/
namespace Go.W
open Go Go.RowKit

def num : Nat → List Rc → List (Nat × Rc)
  | _, [] => []
  | n, r :: rs => (n, r) :: num (n + 1) rs
theorem mem_num {k : Nat} {r : Rc} : ∀ {rs : List Rc} {n : Nat}, (k, r) ∈ num n rs ↔ n ≤ k ∧ rs[k - n]? = some r
  | [], n => by simp [num]
  | x :: rs, n => by
    simp only [num, List.mem_cons, Prod.mk.injEq, mem_num (rs := rs)]
    constructor
    · rintro (⟨rfl, rfl⟩ | ⟨h1, h2⟩)
      · simp
      · refine ⟨by omega, ?_⟩
        rw [show k - n = (k - (n + 1)) + 1 by omega, List.getElem?_cons_succ]
        exact h2
    · rintro ⟨h1, h2⟩
      by_cases e : k = n
      · subst e
        left
        simp at h2
        exact ⟨rfl, h2.symm⟩
      · right
        rw [show k - n = (k - (n + 1)) + 1 by omega, List.getElem?_cons_succ] at h2
        exact ⟨by omega, h2⟩
theorem mem_num0 {k : Nat} {r : Rc} {rs : List Rc} : (k, r) ∈ num 0 rs ↔ rs[k]? = some r := by
  rw [mem_num]; simp
theorem num_lt : ∀ (rs : List Rc) (n i : Nat), (num n rs).filter (fun p => decide (p.1 < n + i)) = num n (rs.take i)
  | [], n, i => by simp [num]
  | r :: rs, n, 0 => by
    simp only [num, List.take_zero, List.filter_eq_nil_iff]
    intro p hp
    obtain ⟨k, x⟩ := p
    have := (mem_num (rs := r :: rs)).1 (by simpa [num] using hp)
    simp
    omega
  | r :: rs, n, i + 1 => by
    simp only [num, List.take_succ_cons]
    rw [List.filter_cons_of_pos (by simp)]
    rw [← num_lt rs (n + 1) i]
    simp only [show n + 1 + i = n + (i + 1) by omega]
theorem foldS_num : ∀ (rs : List Rc) (n : Nat) (S : SF), foldS (num n rs) S = rs.foldl stepS S
  | [], _, _ => rfl
  | r :: rs, n, S => foldS_num rs (n + 1) _
theorem foldO_num : ∀ (rs : List Rc) (n : Nat) (O : Obs), foldO (num n rs) O = rs.foldl stepO O
  | [], _, _ => rfl
  | r :: rs, n, O => foldO_num rs (n + 1) _
theorem foldS_lt (rs : List Rc) (i : Nat) (S : SF) : foldS ((num 0 rs).filter fun p => decide (p.1 < i)) S = (rs.take i).foldl stepS S := by
  have := num_lt rs 0 i
  simp only [Nat.zero_add] at this
  rw [this, foldS_num]
theorem foldO_lt (rs : List Rc) (i : Nat) (O : Obs) : foldO ((num 0 rs).filter fun p => decide (p.1 < i)) O = (rs.take i).foldl stepO O := by
  have := num_lt rs 0 i
  simp only [Nat.zero_add] at this
  rw [this, foldO_num]

theorem TrOk.at {E : Env} {ops : List Oper} : ∀ {rs : List Rc} {S : SF} {O : Obs} {tm : Nat}, TrOk E ops S O tm rs → ∀ (i : Nat) (r : Rc), rs[i]? = some r →
    tm ≤ r.tk ∧ (∀ p ∈ r.out.upd, p.1 < r.tk ∧ ∃ o, (rs.take i).foldl stepO O p.1 = some o ∧ o ≠ .gone) ∧ RunOk E ops ((rs.take i).foldl stepS S) ((rs.take i).foldl stepO O) r
  | [], _, _, _, _, i, r, h => by simp at h
  | x :: rs, S, O, tm, ⟨h1, h2, h3, h4⟩, i, r, h => by
    cases i with
    | zero =>
      simp only [List.getElem?_cons_zero, Option.some.injEq] at h
      subst h
      exact ⟨h1, h2, h3⟩
    | succ i =>
      have := TrOk.at h4 i r (by simpa using h)
      exact ⟨by omega, this.2.1, this.2.2⟩
theorem TrOk.lt {E : Env} {ops : List Oper} : ∀ {rs : List Rc} {S : SF} {O : Obs} {tm : Nat}, TrOk E ops S O tm rs → ∀ (i k : Nat) (r q : Rc), i < k → rs[i]? = some r → rs[k]? = some q → r.tk + r.out.new.length < q.tk
  | [], _, _, _, _, i, k, r, q, _, h, _ => by simp at h
  | x :: rs, S, O, tm, ⟨h1, h2, h3, h4⟩, i, k, r, q, hik, hi, hk => by
    obtain ⟨k, rfl⟩ : ∃ m, k = m + 1 := ⟨k - 1, by omega⟩
    rw [List.getElem?_cons_succ] at hk
    cases i with
    | zero =>
      simp only [List.getElem?_cons_zero, Option.some.injEq] at hi
      subst hi
      have := (TrOk.at h4 k q hk).1
      omega
    | succ i => exact TrOk.lt h4 i k r q (by omega) (by simpa using hi) hk

theorem allLt_of {n : Nat} : ∀ {l : List Nat}, allLt n l = true → ∀ i ∈ l, i < n
  | [], _, i, hi => by cases hi
  | j :: l, h, i, hi => by
    obtain ⟨h1, h2⟩ := bsel_and (show bsel (Nat.blt j n) (allLt n l) false = true from h)
    rcases List.mem_cons.1 hi with rfl | hi
    · exact Nat.le_of_ble_eq_true h1
    · exact allLt_of h2 i hi
theorem mem_edgesOf {e : Edge} : ∀ {l : List Edge}, e ∈ l → Region.binds .any e = true → e.on ∈ edgesOf l
  | [], h, _ => by cases h
  | x :: l, h, hb => by
    simp only [edgesOf]
    rcases List.mem_cons.1 h with rfl | h
    · rw [hb]; exact List.mem_cons_self
    · cases Region.binds .any x with
      | true => exact List.mem_cons_of_mem _ (mem_edgesOf h hb)
      | false => exact mem_edgesOf h hb
theorem backOk_of : ∀ {ops : List Oper} {n : Nat}, backOk n ops = true → ∀ (k : Nat) (o : Oper), ops[k]? = some o → ∀ e ∈ o.after.toList, Region.binds .any e = true → e.on < n + k
  | [], _, _, k, o, h => by simp at h
  | x :: ops, n, h, k, o, hk => by
    obtain ⟨h1, h2⟩ := bsel_and (show bsel (allLt n (edgesOf x.after.toList)) (backOk n.succ ops) false = true from h)
    cases k with
    | zero =>
      simp only [List.getElem?_cons_zero, Option.some.injEq] at hk
      subst hk
      exact fun e he hb => by have := allLt_of h1 _ (mem_edgesOf he hb); omega
    | succ k => exact fun e he hb => by have := backOk_of h2 k o (by simpa using hk) e he hb; omega

/-! ### two operations -/
theorem disj_of : ∀ {l m : List Nat}, disj l m = true → ∀ x, x ∈ l → x ∈ m → False
  | [], _, _, x, h, _ => by cases h
  | y :: l, m, h, x, hx, hm => by
    simp only [disj] at h
    cases hy : memN y m with
    | true => rw [hy] at h; cases h
    | false =>
      rw [hy] at h
      rcases List.mem_cons.1 hx with rfl | hx
      · rw [memN_iff.2 hm] at hy; cases hy
      · exact disj_of h x hx hm
structure Free (ops : List Oper) (x y : Rc) : Prop where
  dr : ∀ d, x.o.dst = some d → d ∈ readsOf ops y.o → False
  rd : ∀ d, y.o.dst = some d → d ∈ readsOf ops x.o → False
  dd : ∀ d, x.o.dst = some d → y.o.dst = some d → False
  wt : ∀ j, x.touch j = true → j ∈ y.T → False
  tw : ∀ j, y.touch j = true → j ∈ x.T → False
  ww : ∀ j, x.touch j = true → y.touch j = true → False
theorem Free.of {ops : List Oper} {x y : Rc} (h : freeOf ops x.o y.o x.lg y.lg = true) : Free ops x y := by
  unfold freeOf at h
  simp only [Bool.and_eq_true] at h
  obtain ⟨⟨⟨⟨⟨h1, h2⟩, h3⟩, h4⟩, h5⟩, h6⟩ := h
  have hd : ∀ {r : Rc} {d : Nat}, r.o.dst = some d → d ∈ dstL r.o := fun e => by unfold dstL; rw [e]; exact List.mem_cons_self
  exact ⟨fun d e h => disj_of h1 d (hd e) h, fun d e h => disj_of h2 d (hd e) h, fun d e e' => disj_of h3 d (hd e) (hd e'), fun j e h => disj_of h4 j (memN_iff.1 e) h, fun j e h => disj_of h5 j (memN_iff.1 e) h, fun j e e' => disj_of h6 j (memN_iff.1 e) (memN_iff.1 e')⟩
/-- two operations: one must come ahead, or they are free of each other -/
theorem pairs {ops : List Oper} {rs : List Rc} (hops : rs.map Rc.o = ops) (h : chkD ops (rs.map Rc.lg) = true) {D : Nat → Prop} (hD : Closed ops D) {i k : Nat} {x y : Rc} (hik : i < k) (hi : rs[i]? = some x) (hk : rs[k]? = some y) : (D k → D i) ∨ Free ops x y := by
  obtain ⟨_, h2⟩ := bsel_and h
  have e1 : ops[i]? = some x.o := by rw [← hops]; simp [hi]
  have e2 : ops[k]? = some y.o := by rw [← hops]; simp [hk]
  rcases logOk_of ops h2 rfl i k x.o y.o x.lg y.lg hik (Nat.zero_le _) (by simpa using e1) (by simpa using e2) (by simp [hi]) (by simp [hk]) with ⟨p, h3, h4⟩ | h3
  · left
    exact predsOf_of hD ops (fun k o h => by simpa using h) (fun k p h => by simp at h) k p h3 i h4
  · exact .inr (Free.of h3)
end Go.W
end

section
/-
  Operations in any order: drawn regions. No program in it.
-/
namespace Go.W
open Go Go.RowKit

def SDf (rs : List Rc) (S : SF) (D : Nat → Bool) : SF := foldS ((num 0 rs).filter fun p => D p.1) S
def ODf (rs : List Rc) (O : Obs) (D : Nat → Bool) : Obs := foldO ((num 0 rs).filter fun p => D p.1) O

section
variable {E : Env} {N : Nat} {w0 : World} {K0 : Kn} {H : Nat → Prop} {G : Ghs} {ops : List Oper} {rs : List Rc} {D D' : Nat → Bool} {i : Nat} {r : Rc} {S0 : SF} {O0 : Obs} {tm0 : Nat}

/-- the operation i comes next -/
structure Nx (ops : List Oper) (rs : List Rc) (D D' : Nat → Bool) (i : Nat) (r : Rc) : Prop where
  hops : rs.map Rc.o = ops
  chk : chkD ops (rs.map Rc.lg) = true
  cl : Closed ops (fun k => D k = true)
  cl' : Closed ops (fun k => D' k = true)
  at_ : rs[i]? = some r
  no : D i = false
  self : D' i = true
  oth : ∀ k, k ≠ i → D' k = D k
theorem Nx.agree (h : Nx ops rs D D' i r) {k : Nat} {q : Rc} (hk : rs[k]? = some q) (h1 : ¬ Free ops q r) (h2 : ¬ Free ops r q) : D k = decide (k < i) := by
  rcases Nat.lt_trichotomy k i with hki | rfl | hki
  · rcases pairs h.hops h.chk h.cl' hki hk h.at_ with h3 | h3
    · have := h3 h.self
      rw [h.oth k (by omega)] at this
      rw [this]; simp [hki]
    · exact absurd h3 h1
  · rw [h.no]; simp
  · rcases pairs h.hops h.chk h.cl hki h.at_ hk with h3 | h3
    · have : D k = false := by
        cases hd : D k with
        | false => rfl
        | true => have := h3 hd; rw [h.no] at this; cases this
      rw [this]; simp; omega
    · exact absurd h3 h2
theorem wr_iff {q : Rc} {x : Nat} : q.wr x = true ↔ q.o.dst = some x := by unfold Rc.wr; simp
theorem Nx.reads (h : Nx ops rs D D' i r) (S : SF) {x : Nat} (hx : x ∈ readsOf ops r.o) : SDf rs S D x = (rs.take i).foldl stepS S x := by
  rw [← foldS_lt]
  refine foldS_same (g := fun k => decide (k < i)) fun p hp hw => ?_
  have hp := mem_num0.1 (show (p.1, p.2) ∈ num 0 rs from hp)
  exact h.agree hp (fun hf => hf.dr x (wr_iff.1 hw) hx) (fun hf => hf.rd x (wr_iff.1 hw) hx)
theorem Nx.sees (h : Nx ops rs D D' i r) (O : Obs) {j : Nat} (hx : j ∈ r.T ∨ r.touch j = true) : ODf rs O D j = (rs.take i).foldl stepO O j := by
  rw [← foldO_lt]
  refine foldO_same (g := fun k => decide (k < i)) fun p hp hw => ?_
  have hp := mem_num0.1 (show (p.1, p.2) ∈ num 0 rs from hp)
  rcases hx with hx | hx
  · exact h.agree hp (fun hf => hf.wt j hw hx) (fun hf => hf.tw j hw hx)
  · exact h.agree hp (fun hf => hf.ww j hw hx) (fun hf => hf.ww j hx hw)
theorem take_next (h : rs[i]? = some r) : rs.take (i + 1) = rs.take i ++ [r] := by
  rw [List.take_add_one, h]; rfl
theorem Nx.stepS (h : Nx ops rs D D' i r) (S : SF) : SDf rs S D' = stepS (SDf rs S D) r := by
  funext x
  cases hw : r.wr x with
  | true =>
    have e1 : SDf rs S D' x = (rs.take (i + 1)).foldl W.stepS S x := by
      rw [← foldS_lt]
      refine foldS_same (g := fun k => decide (k < i + 1)) fun p hp hw' => ?_
      have hp := mem_num0.1 (show (p.1, p.2) ∈ num 0 rs from hp)
      by_cases e : p.1 = i
      · rw [e, h.self]; simp
      · rw [h.oth _ e, h.agree hp (fun hf => hf.dd x (wr_iff.1 hw') (wr_iff.1 hw)) (fun hf => hf.dd x (wr_iff.1 hw) (wr_iff.1 hw'))]
        simp only [decide_eq_decide]; omega
    rw [e1, take_next h.at_, List.foldl_append]
    exact stepS_wr hw
  | false =>
    rw [stepS_no hw]
    refine foldS_same fun p hp hw' => ?_
    have hp := mem_num0.1 (show (p.1, p.2) ∈ num 0 rs from hp)
    refine h.oth _ fun e => ?_
    rw [e, h.at_] at hp
    injection hp with hp
    rw [← hp, hw] at hw'; cases hw'
theorem Nx.stepO (h : Nx ops rs D D' i r) (O : Obs) : ODf rs O D' = stepO (ODf rs O D) r := by
  funext x
  cases hw : r.touch x with
  | true =>
    have e1 : ODf rs O D' x = (rs.take (i + 1)).foldl W.stepO O x := by
      rw [← foldO_lt]
      refine foldO_same (g := fun k => decide (k < i + 1)) fun p hp hw' => ?_
      have hp := mem_num0.1 (show (p.1, p.2) ∈ num 0 rs from hp)
      by_cases e : p.1 = i
      · rw [e, h.self]; simp
      · rw [h.oth _ e, h.agree hp (fun hf => hf.ww x hw' hw) (fun hf => hf.ww x hw hw')]
        simp only [decide_eq_decide]; omega
    rw [e1, take_next h.at_, List.foldl_append]
    exact stepO_in hw
  | false =>
    rw [stepO_no hw]
    refine foldO_same fun p hp hw' => ?_
    have hp := mem_num0.1 (show (p.1, p.2) ∈ num 0 rs from hp)
    refine h.oth _ fun e => ?_
    rw [e, h.at_] at hp
    injection hp with hp
    rw [← hp, hw] at hw'; cases hw'

structure DR (E : Env) (N : Nat) (w0 : World) (K0 : Kn) (H : Nat → Prop) (G : Ghs) (S0 : SF) (O0 : Obs) (tm0 : Nat) (rs : List Rc) (D : Nat → Bool) (γ : Ghs) (K : Kn) (a : Act) (w : World) : Prop where
  size : a.tmps.size = N
  defers : a.defers = []
  slots : ∀ x sv, SDf rs S0 D x = some sv → RepSV γ K sv (a.tmps.getD x undef)
  hp : Hp w0 K0 H γ (ODf rs O0 D) K w
  glob : GlobOk E K
  tok : ∀ j g, γ j = some g → j < tm0 ∨ ∃ k q, rs[k]? = some q ∧ D k = true ∧ q.tk ≤ j ∧ j < q.tk + q.out.new.length
  hvW : ∀ j g, γ j = some g → g.hv < tm0 ∨ ∃ k q, rs[k]? = some q ∧ D k = true ∧ g.hv ≤ q.tk
  hvS : ∀ j g o, γ j = some g → ODf rs O0 D j = some o → o ≠ .gone → g.hv < tm0 ∨ ∃ k q, rs[k]? = some q ∧ D k = true ∧ q.touch j = true ∧ g.hv ≤ q.tk
  all : ∀ j o, ODf rs O0 D j = some o → ∃ g, γ j = some g
  fix : ∀ j g, G j = some g → g.hv = 0 ∧ γ j = some g

theorem ObOk.hv_eq {γ γ' : Ghs} {K K' : Kn} {w w' : World} {g g' : Gh} {o : Ob} (hng : o ≠ .gone) (h : ObOk γ K w g o) (h' : ObOk γ' K' w' g' o) : g'.hv = g.hv := by
  cases o with
  | box ti cs => obtain ⟨_, _, e, _⟩ := h; obtain ⟨_, _, e', _⟩ := h'; rw [e, e']
  | row hv t xs => obtain ⟨e, _⟩ := h; obtain ⟨e', _⟩ := h'; rw [e, e']
  | frz hv t xs => obtain ⟨e, _⟩ := h; obtain ⟨e', _⟩ := h'; rw [e, e']
  | iter s p => obtain ⟨_, e, _⟩ := h; obtain ⟨_, e', _⟩ := h'; rw [e, e']
  | gone => exact absurd rfl hng
theorem Nx.D_le (h : Nx ops rs D D' i r) {k : Nat} (hk : D k = true) : D' k = true := by
  rw [h.oth k fun e => by subst e; rw [h.no] at hk; cases hk]; exact hk
variable {γ : Ghs} {K : Kn} {a : Act} {w : World}
theorem DR.fresh (hR : DR E N w0 K0 H G S0 O0 tm0 rs D γ K a w) (h : Nx ops rs D D' i r) (ht : TrOk E ops S0 O0 tm0 rs) (m : Nat) (hm : m < r.out.new.length) : γ (r.tk + m) = none := by
  cases hg : γ (r.tk + m) with
  | none => rfl
  | some g =>
    have h0 := (ht.at i r h.at_).1
    rcases hR.tok _ g hg with h1 | ⟨k, q, h1, h2, h3, h4⟩
    · omega
    · rcases Nat.lt_trichotomy k i with hki | rfl | hki
      · have := ht.lt k i q r hki h1 h.at_; omega
      · rw [h.no] at h2; cases h2
      · have := ht.lt i k r q hki h.at_ h1; omega
theorem DR.updHv (hR : DR E N w0 K0 H G S0 O0 tm0 rs D γ K a w) (h : Nx ops rs D D' i r) (ht : TrOk E ops S0 O0 tm0 rs) : ∀ p ∈ r.out.upd, ∀ g, γ p.1 = some g → g.hv < r.tk := fun p hp g hg => by
  obtain ⟨h0, h1, _⟩ := ht.at i r h.at_
  obtain ⟨_, o, ho, hng⟩ := h1 p hp
  have htch : r.touch p.1 = true := touch_iff.2 (.inl ⟨p, hp, rfl⟩)
  rw [← h.sees O0 (.inr htch)] at ho
  rcases hR.hvS _ g o hg ho hng with h2 | ⟨k, q, h2, h3, h4, h5⟩
  · omega
  · have := h.agree h2 (fun hf => hf.ww _ h4 htch) (fun hf => hf.ww _ htch h4)
    rw [h3] at this
    have hki : k < i := of_decide_eq_true this.symm
    have := ht.lt k i q r hki h2 h.at_
    omega

theorem DR.step (hR : DR E N w0 K0 H G S0 O0 tm0 rs D γ K a w) (h : Nx ops rs D D' i r) (ht : TrOk E ops S0 O0 tm0 rs) (hd : ∀ d, r.o.dst = some d → d < N) {v : Value} {γ' : Ghs} {K' : Kn} {w' : World} (hs : Step w0 K0 H γ (ODf rs O0 D) K r.tk r.out v γ' K' w') : DR E N w0 K0 H G S0 O0 tm0 rs D' γ' K' (a.put r.o.dst v) w' := by
  have hO : ODf rs O0 D' = newF r.tk r.out.new (updF r.out.upd (ODf rs O0 D)) := h.stepO O0
  have hhp : Hp w0 K0 H γ' (ODf rs O0 D') K' w' := by rw [hO]; exact hs.hp
  have hup : ∀ j, (∃ p ∈ r.out.upd, p.1 = j) → ∃ o, ODf rs O0 D j = some o ∧ o ≠ .gone := fun j hj => by
    obtain ⟨p, hp, rfl⟩ := hj
    obtain ⟨_, o, ho, hng⟩ := (ht.at i r h.at_).2.1 p hp
    exact ⟨o, by rw [h.sees O0 (.inr (touch_iff.2 (.inl ⟨p, hp, rfl⟩)))]; exact ho, hng⟩
  refine ⟨?_, ?_, ?_, hhp, hR.glob.mono hs.kle, ?_, ?_, ?_, ?_, ?_⟩
  · cases hdd : r.o.dst <;> simp [Act.put, hR.size]
  · cases hdd : r.o.dst <;> simp [Act.put, hR.defers]
  · intro x sv hx
    rw [h.stepS S0] at hx
    cases hdd : r.o.dst with
    | none =>
      simp only [W.stepS, hdd] at hx
      simpa [Act.put] using (hR.slots x sv hx).mono hs.gle hs.kle
    | some d =>
      simp only [W.stepS, hdd] at hx
      by_cases e : x = d
      · subst e
        rw [fset_same] at hx
        injection hx with hx
        subst hx
        rw [getD_put_same (by rw [hR.size]; exact hd x hdd)]; exact hs.sv
      · rw [fset_ne _ _ e] at hx
        rw [getD_put_ne e]; exact (hR.slots x sv hx).mono hs.gle hs.kle
  · intro j g hg
    have old : (∃ g, γ j = some g) → j < tm0 ∨ ∃ k q, rs[k]? = some q ∧ D' k = true ∧ q.tk ≤ j ∧ j < q.tk + q.out.new.length := fun ⟨g, hg⟩ => by
      rcases hR.tok j g hg with h1 | ⟨k, q, h1, h2, h3⟩
      · exact .inl h1
      · exact .inr ⟨k, q, h1, h.D_le h2, h3⟩
    rcases hs.new j g hg with h1 | ⟨_, h1 | h1⟩
    · exact old ⟨_, h1⟩
    · exact old h1
    · exact .inr ⟨i, r, h.at_, h.self, h1⟩
  · intro j g hg
    rcases hs.new j g hg with h1 | ⟨h1, _⟩
    · rcases hR.hvW j g h1 with h1 | ⟨k, q, h1, h2, h3⟩
      · exact .inl h1
      · exact .inr ⟨k, q, h1, h.D_le h2, h3⟩
    · exact .inr ⟨i, r, h.at_, h.self, h1⟩
  · intro j g o hg ho hng
    have old : ∀ o, γ j = some g → ODf rs O0 D j = some o → o ≠ .gone → g.hv < tm0 ∨ ∃ k q, rs[k]? = some q ∧ D' k = true ∧ q.touch j = true ∧ g.hv ≤ q.tk := fun o hg ho hng => by
      rcases hR.hvS j g o hg ho hng with h1 | ⟨k, q, h1, h2, h3⟩
      · exact .inl h1
      · exact .inr ⟨k, q, h1, h.D_le h2, h3⟩
    cases htc : r.touch j with
    | true =>
      rcases hs.new j g hg with h1 | ⟨h1, _⟩
      · rcases touch_iff.1 htc with h2 | ⟨m, h2, h3⟩
        · obtain ⟨o', ho', hng'⟩ := hup j h2
          exact old o' h1 ho' hng'
        · have := hR.fresh h ht m h2
          rw [← h3, h1] at this; cases this
      · exact .inr ⟨i, r, h.at_, h.self, htc, h1⟩
    | false =>
      have ho' : ODf rs O0 D j = some o := by rw [h.stepO O0, stepO_no htc] at ho; exact ho
      rcases hs.new j g hg with h1 | ⟨_, ⟨g0, h1⟩ | h1⟩
      · exact old o h1 ho' hng
      · have e := ObOk.hv_eq hng (hR.hp.ok j o g0 ho' h1) (hhp.ok j o g ho hg)
        rcases hR.hvS j g0 o h1 ho' hng with h2 | ⟨k, q, h2, h3, h4, h5⟩
        · exact .inl (by omega)
        · exact .inr ⟨k, q, h2, h.D_le h3, h4, by omega⟩
      · have := touch_iff.2 (.inr ⟨j - r.tk, by omega, by omega⟩ : (∃ p ∈ r.out.upd, p.1 = j) ∨ (∃ i, i < r.out.new.length ∧ j = r.tk + i))
        rw [htc] at this; cases this
  · intro j o ho
    have le : (∃ g, γ j = some g) → ∃ g, γ' j = some g := fun ⟨g, hg⟩ => by obtain ⟨g', h1, _⟩ := hs.gle j g hg; exact ⟨g', h1⟩
    cases htc : r.touch j with
    | true =>
      rcases touch_iff.1 htc with h2 | ⟨m, h2, h3⟩
      · obtain ⟨o', ho', _⟩ := hup j h2
        exact le (hR.all j o' ho')
      · rw [h3]; exact hs.made m h2
    | false =>
      rw [h.stepO O0, stepO_no htc] at ho
      exact le (hR.all j o ho)
  · intro j g hg
    obtain ⟨q1, q2⟩ := hR.fix j g hg
    obtain ⟨g', q3, _, q4⟩ := hs.gle j g q2
    rw [q4 (.inr q1)] at q3
    exact ⟨q1, q3⟩
end
end Go.W
end

section
/-
  Drawn regions are what the machine on plain values says. No program in it.
-/
namespace Go.W
open Go Go.RowKit

theorem tmpsOf_mem {t : Nat} : ∀ {l : List Operand}, Operand.tmp t ∈ l → t ∈ tmpsOf l
  | [], h => by cases h
  | x :: l, h => by
    rcases List.mem_cons.1 h with h | h
    · subst h; exact List.mem_cons_self
    · have := tmpsOf_mem h
      cases x <;> simp only [tmpsOf]
      case tmp => exact List.mem_cons_of_mem _ this
      all_goals exact this
theorem reads_op {ops : List Oper} {o : Oper} {t : Nat} (h : Operand.tmp t ∈ o.op.operands.toList) : t ∈ readsOf ops o := by
  have := tmpsOf_mem h
  unfold readsOf
  split
  · exact this
  · split
    · exact List.mem_cons_of_mem _ this
    · exact this
theorem reads_guard {ops : List Oper} {o : Oper} {j g : Nat} {b : Bool} (h : o.guard = some (j, b)) (hg : dstAt ops j = some g) : g ∈ readsOf ops o := by
  unfold readsOf
  rw [h]
  simp only [hg]
  exact List.mem_cons_self

section
variable {E : Env} {N : Nat} {w0 : World} {K0 : Kn} {H : Nat → Prop} {G : Ghs} {ops : List Oper} {rs : List Rc} {D D' : Nat → Bool} {i : Nat} {r : Rc} {S0 : SF} {O0 : Obs} {tm0 : Nat} {γ : Ghs} {K : Kn} {a : Act} {w : World}

theorem DR.get (hR : DR E N w0 K0 H G S0 O0 tm0 rs D γ K a w) (x : Operand) : RepSV γ K (getF E (SDf rs S0 D) x) (a.eval x) := by
  cases x with
  | tmp t =>
    simp only [getF, Act.eval]
    cases hl : SDf rs S0 D t with
    | none => exact True.intro
    | some sv => exact hR.slots t sv hl
  | const v => exact svV_rep v
  | global g =>
    simp only [getF, Act.eval]
    cases hl : lkG E.gl g with
    | none => exact True.intro
    | some p =>
      obtain ⟨T, x⟩ := p
      obtain ⟨cs, h1, h2⟩ := hR.glob g T x hl
      exact ⟨_, cs, rfl, rfl, h1, fun j u hu => by simpa using h2 j u hu⟩
  | func f => exact rfl
theorem getF_at {S S' : SF} {x : Operand} (h : ∀ t, x = .tmp t → S t = S' t) : getF E S x = getF E S' x := by
  cases x with
  | tmp t => simp only [getF]; rw [h t rfl]
  | _ => rfl
/-- one operation -/
theorem DR.op {opa : Array Oper} (hR : DR E N w0 K0 H G S0 O0 tm0 rs D γ K a w) (h : Nx opa.toList rs D D' i r) (ht : TrOk E opa.toList S0 O0 tm0 rs) (h0 : 0 < tm0) (hd : ∀ d, r.o.dst = some d → d < N) {Q : Exit → Act → World → Prop} {k : Act → World → Prop}
    (hk : ∀ γ' K' a' w', DR E N w0 K0 H G S0 O0 tm0 rs D' γ' K' a' w' → k a' w') : wpOp E.P opa Q i k a w := by
  obtain ⟨htm, hup, hrun⟩ := ht.at i r h.at_
  have hoi : opa[i]? = some r.o := by
    rw [← Array.getElem?_toList, ← h.hops]; simp [h.at_]
  have slot : ∀ {j b g v}, r.o.guard = some (j, b) → dstAt opa.toList j = some g → getF E ((rs.take i).foldl stepS S0) (.tmp g) = v → RepSV γ K v (a.tmps.getD g undef) := fun {j b g v} h1 h2 h3 => by
    have := hR.get (.tmp g)
    rw [getF_at (S' := (rs.take i).foldl stepS S0) (fun t e => by injection e with e; subst e; exact h.reads S0 (reads_guard h1 h2)), h3] at this
    exact this
  unfold wpOp
  rw [hoi]
  simp only
  rcases hrun with ⟨hw, hop⟩ | ⟨hw, hout⟩
  · rw [if_pos]
    · left
      refine hop w0 K0 H γ (ODf rs O0 D) K a w (fun x hx => ?_) (fun j x hj => ?_) hR.hp hR.glob (hR.fresh h ht) (hR.updHv h ht) (by omega) _ _ fun v γ' K' w' hs => ?_
      · rw [← getF_at (S := SDf rs S0 D) fun t e => h.reads S0 (reads_op (by rw [← e]; exact hx))]
        exact hR.get x
      · unfold resO bsel at hj
        split at hj
        · rename_i hm
          rw [h.sees O0 (.inl (memN_iff.1 hm))]; exact hj
        · cases hj
      · exact hk γ' K' _ w' (hR.step h ht hd hs)
    · rcases hw with hw | ⟨j, b, g, h1, h2, h3⟩
      · exact wanted_none hw
      · refine (wanted_some h1 h2).2 ?_
        have := slot h1 h2 h3
        simpa [RepSV, RepV, RepCell, RepC] using this
  · rw [if_neg]
    · refine hk γ K _ w (hR.step h ht hd ?_)
      rw [hout]
      exact ⟨Ghs.le.refl γ, Kn.le.refl K, ⟨[], rfl, rfl⟩, hR.hp, fun _ _ hg => .inl hg, fun i hi => absurd hi (Nat.not_lt_zero i)⟩
    · obtain ⟨j, b, g, h1, h2, h3⟩ := hw
      intro hh
      have hv := (wanted_some h1 h2).1 hh
      rcases h3 with h3 | h3
      · have := slot h1 h2 h3
        rw [hv] at this
        have this : [Value.bool b] = [.bool !b] := this
        injection this with this
        injection this with this
        cases b <;> cases this
      · obtain ⟨vs, e1, e2⟩ := slot h1 h2 h3
        rw [hv] at e1
        cases e1
end

/-! ### all orders -/
theorem count_set : ∀ {l : List Bool} {i : Nat}, l[i]? = some false → (l.set i true).count false + 1 = l.count false
  | [], i, h => by simp at h
  | b :: l, 0, h => by
    simp only [List.getElem?_cons_zero, Option.some.injEq] at h
    subst h
    simp
  | b :: l, i + 1, h => by
    have := count_set (l := l) (i := i) (by simpa using h)
    simp only [List.set_cons_succ, List.count_cons]
    omega
theorem count_zero {l : List Bool} (h : l.count false = 0) (i : Nat) (hi : l[i]? = some false) : False := by
    have := List.count_pos_iff.2 (List.mem_of_getElem? hi)
    omega

theorem drawn_ok {E : Env} (hE : EnvOk E) {tab : List Con} (htab : CallsOk E tab) : DrawnOk E tab := by
  intro N w0 K0 H G id ops s γ K a w α k r Q hdr hd hR hk
  have hv : Vok s := ⟨fun x v sv h => (hR.slots x v sv h).1, fun j v o h => hR.obv j v o h⟩
  obtain ⟨rs, s', q1, q2, q3, q4, q5, q6, q7, q8, q9⟩ := drawC_trace hE htab ops.toList hdr hv
  simp only [List.nil_append] at q3
  have hlen : rs.length = ops.size := by
    have := congrArg List.length q1
    simpa using this
  have hback := backOk_of (bsel_and q3).1
  refine wp_region_any hE.mixed ?_
  have start : DR E N w0 K0 H G (sfOf s) (obs s) s.tm rs (fun k => (Array.replicate ops.size false).getD k false) γ K a { w with drawn := w.drawn + 1 } := by
    have hf : ∀ k, (Array.replicate ops.size false).getD k false = false := fun k => by
      rw [Array.getD_eq_getD_getElem?]
      by_cases hk : k < ops.size
      · simp [hk]
      · simp [Array.getElem?_eq_none, hk]
    have e1 : ((num 0 rs).filter fun p => (Array.replicate ops.size false).getD p.1 false) = [] := by
      rw [List.filter_eq_nil_iff]
      intro p _
      rw [hf]; simp
    have eS : SDf rs (sfOf s) (fun k => (Array.replicate ops.size false).getD k false) = sfOf s := by unfold SDf; rw [e1]; rfl
    have eO : ODf rs (obs s) (fun k => (Array.replicate ops.size false).getD k false) = obs s := by unfold ODf; rw [e1]; rfl
    refine ⟨hR.size, hR.defers, fun x sv hx => ?_, ?_, hR.glob, fun j g hg => .inl (hR.tok j g hg).1, fun j g hg => .inl (hR.tok j g hg).2, fun j g o hg _ _ => .inl (hR.tok j g hg).2, fun j o hj => ?_, hR.fix⟩
    · rw [eS] at hx
      simp only [sfOf, Option.map_eq_some_iff] at hx
      obtain ⟨⟨v, sv'⟩, h1, h2⟩ := hx
      subst h2
      exact (hR.slots x v sv' h1).2
    · rw [eO]
      have h := hR.hp
      exact ⟨h.os, h.tape, h.output, h.size, h.blk, h.mono, h.kok, fun j o g h1 h2 => (h.ok j o g h1 h2).mono (Ghs.le.refl γ) (Kn.le.refl K) (fun _ _ _ => ⟨rfl, fun _ => rfl⟩), h.own, h.sep⟩
    · rw [eO] at hj
      obtain ⟨v, hv⟩ := obs_some hj
      exact hR.all j _ hv
  have fin : ∀ {listed : Array Bool} {γ : Ghs} {K : Kn} {a : Act} {w : World}, (∀ k, k < ops.size → listed.getD k false = true) → DR E N w0 K0 H G (sfOf s) (obs s) s.tm rs (fun k => listed.getD k false) γ K a w → Q .normal a w := fun {listed γ K a w} hall h => by
    have e1 : ((num 0 rs).filter fun p => listed.getD p.1 false) = num 0 rs := by
      rw [List.filter_eq_self]
      intro p hp
      have := mem_num0.1 (show (p.1, p.2) ∈ num 0 rs from hp)
      have := (List.getElem?_eq_some_iff.1 this).1
      exact hall p.1 (by omega)
    have eS : SDf rs (sfOf s) (fun k => listed.getD k false) = sfOf s' := by unfold SDf; rw [e1, foldS_num, q7]
    have eO : ODf rs (obs s) (fun k => listed.getD k false) = obs s' := by unfold ODf; rw [e1, foldO_num, q8]
    refine hk s' γ K a w q2 q5 ⟨h.size, h.defers, fun x v sv hx => ⟨q6.sl x v sv hx, ?_⟩, ?_, h.glob, fun j g hg => ⟨?_, ?_⟩, fun j v o hj => q6.ob j v o hj, fun j e hj => ?_, h.fix, ?_⟩
    · refine h.slots x sv ?_
      rw [eS]; simp [sfOf, hx]
    · rw [← eO]; exact h.hp
    · rcases h.tok j g hg with h1 | ⟨k, q, h1, _, h3, h4⟩
      · have := q5.tm; omega
      · have := q9 q (List.mem_of_getElem? h1); omega
    · rcases h.hvW j g hg with h1 | ⟨k, q, h1, _, h3⟩
      · have := q5.tm; omega
      · have := q9 q (List.mem_of_getElem? h1); omega
    · refine h.all j e.2 ?_
      rw [eO]
      unfold obs
      rw [hj]
    · have := q5.tm; have := hR.pos; omega
  have main : ∀ (fuel : Nat) (listed : Array Bool) (γ : Ghs) (K : Kn) (a : Act) (w : World), listed.size = ops.size → listed.toList.count false ≤ fuel → Closed ops.toList (fun k => listed.getD k false = true) → DR E N w0 K0 H G (sfOf s) (obs s) s.tm rs (fun k => listed.getD k false) γ K a w → wpAny E.P .any ops Q fuel listed a w := by
    intro fuel
    have alld : ∀ {listed : Array Bool}, listed.size = ops.size → Region.ready .any ops listed = [] → ∀ k, k < ops.size → listed.getD k false = true := fun {listed} hsz hr k => by
      induction k using Nat.strongRecOn with
      | ind k ih =>
        intro hk
        cases hl : listed.getD k false with
        | true => rfl
        | false =>
          exfalso
          have hkl : k < listed.size := by omega
          have : k ∈ Region.ready .any ops listed := mem_ready.2 ⟨by simpa [hkl] using hl, ops[k], by simp [hk], fun e he hb => ih e.on (by have := hback k ops[k] (by simp [hk]) e (by simpa using he) hb; omega) (by have := hback k ops[k] (by simp [hk]) e (by simpa using he) hb; omega)⟩
          rw [hr] at this; cases this
    induction fuel with
    | zero =>
      intro listed γ K a w hsz hc hcl h
      have hz : ∀ k, k < ops.size → listed.getD k false = true := fun k hk => by
        cases hl : listed.getD k false with
        | true => rfl
        | false =>
          exfalso
          have hkl : k < listed.size := by omega
          exact count_zero (Nat.le_zero.1 hc) k (by rw [Array.getElem?_toList]; simpa [hkl] using hl)
      refine ⟨?_, fin hz h⟩
      rw [List.eq_nil_iff_forall_not_mem]
      intro k hk
      obtain ⟨h1, o, h2, _⟩ := mem_ready.1 hk
      have hkl := (Array.getElem?_eq_some_iff.1 h2).1
      have := hz k hkl
      have hkl' : k < listed.size := by omega
      simp [hkl'] at h1 this
      rw [h1] at this; cases this
    | succ fuel ih =>
      intro listed γ K a w hsz hc hcl h
      refine ⟨fun hr => fin (alld hsz hr) h, fun i hi => ?_⟩
      obtain ⟨h1, o, h2, h3⟩ := mem_ready.1 hi
      have hio := (Array.getElem?_eq_some_iff.1 h2).1
      have hil : i < listed.size := by omega
      have hif : listed[i]? = some false := by simpa [hil] using h1
      have hir : i < rs.length := by omega
      have hoi : rs[i].o = o := by
        have := congrArg (·[i]?) q1
        simp [hir, h2] at this
        exact this
      have hcl' : Closed ops.toList (fun k => (listed.setIfInBounds i true).getD k false = true) := by
        intro k o' hk ho' e he hb
        by_cases hki : k = i
        · subst hki
          rw [Array.getElem?_toList, h2] at ho'
          injection ho' with ho'
          subst ho'
          exact getD_set_true (h3 e (by simpa using he) hb)
        · rw [getD_set_ne false (Ne.symm hki)] at hk
          exact getD_set_true (hcl k o' hk ho' e he hb)
      have nx : Nx ops.toList rs (fun k => listed.getD k false) (fun k => (listed.setIfInBounds i true).getD k false) i rs[i] := by
        refine ⟨q1, q3, hcl, hcl', by simp [hir], ?_, ?_, fun k hki => getD_set_ne false (Ne.symm hki)⟩
        · simpa [hil] using h1
        · simp [hil]
      refine h.op nx q4 hR.pos (fun d hdd => hd o (Array.mem_toList_iff.2 (Array.mem_of_getElem? h2)) d (by rw [← hoi]; exact hdd)) fun γ' K' a' w' h' => ?_
      refine ih _ γ' K' a' w' (by simp [hsz]) ?_ hcl' h'
      have := count_set (l := listed.toList) (i := i) (by rw [Array.getElem?_toList]; exact hif)
      rw [Array.toList_setIfInBounds]
      omega
  exact main ops.size _ γ K a _ (by simp) (by simp) (fun k o hk => by
    exfalso
    have hk : (Array.replicate ops.size false).getD k false = true := hk
    rw [Array.getD_eq_getD_getElem?] at hk
    by_cases hkk : k < ops.size
    · simp [hkk] at hk
    · simp [Array.getElem?_eq_none, hkk] at hk) start
end Go.W
end

section
/-
  Functions of the library without a body, and what is checked at a Builder: contracts by hand. No program in it.
-/
namespace Go.W
open Go Go.RowKit

/-! ### tables of contracts -/
def AllOk (E : Env) : List Con → Prop
  | [] => True
  | c :: l => ConOk E c ∧ AllOk E l
theorem callsOk_all {E : Env} {tab : List Con} (h : AllOk E tab) : CallsOk E tab := by
  refine callsOk_of ?_
  induction tab with
  | nil => intro c hc; cases hc
  | cons d l ih =>
    intro c hc
    rcases List.mem_cons.1 hc with hc | hc
    · rw [hc]; exact h.1
    · exact ih h.2 c hc

/-! ### a call that leaves all as it is -/
theorem back_still {E : Env} {rs : List Kd} {ps : List PK} {x : Vec (kTys (kdP ps))} {r : Vec (kTys (app rs (kdB ps)))} {w : World} {K : Kn} {H : Nat → Prop} {γ : Ghs} {args : Array Value} {V : Value} {tk : Nat} (hEnt : Ent E ps x w K H γ args)
    (h1 : (unpackG tk (app rs (kdB ps)) 0 r).2 = []) (h2 : obsP (unpackG tk (app rs (kdB ps)) 0 r).1 = []) (hV : ∀ γ2, RepSV γ2 K (oneV (valsP rs (unpackG tk (app rs (kdB ps)) 0 r).1)) V) : Back rs ps x r w K H γ V w tk := by
  refine ⟨γ, obs (start ps x), K, [], [], hEnt.hp, ?_, fun j => by simp, fun i o ho => ?_, fun γ2 _ => hV γ2⟩
  · rw [h1]; exact ⟨rfl, rfl⟩
  · rw [h2] at ho; simp at ho

/-! ### the first such byte -/
def psIx : List PK := [.k (.v (.slice .u8) []), .k (.v .u8 [])]
def psIxS : List PK := [.k (.v .str []), .k (.v .u8 [])]
def rsIx : List Kd := [.v (.int .i64) []]
def hand_bytealg_IndexByte (_N : Nat) (x : List UInt8 × UInt8) : Option Int := some (Lib.indexByte x.1 x.2)
def hand_bytealg_IndexByteString (_N : Nat) (x : List UInt8 × UInt8) : Option Int := some (Lib.indexByte x.1 x.2)

theorem byte_back (x : UInt8) : (n8 x).toNat.toUInt8 = x := by
  show (Int.toNat ((x.toNat : Nat) : Int)).toUInt8 = x
  simp
theorem args_two {args : Array Value} {n : Nat} (h : args.size = n) (h2 : n = 2) : args = #[args.getD 0 undef, args.getD 1 undef] := by
  subst h2
  apply Array.ext
  · simpa using h
  · intro i h1 h3
    simp at h3
    match i, h3 with
    | 0, _ => simp [Array.getD, h]
    | 1, _ => simp [Array.getD, h]

theorem run_loadBytesX {P : Program} {w : World} : ∀ (bs : List UInt8) (ad : Addr) (acc : ByteArray), (∀ j u, (bs.map fun b => Value.int .u8 (b.toNat : Int))[j]? = some u → w.cell? (ad.add j) = some u) →
    (Extern.Bytes.loadBytes ad bs.length acc).run P w = .ok ⟨acc.data ++ bs.toArray⟩ w
  | [], ad, acc, _ => by simp [Extern.Bytes.loadBytes]
  | b :: r, ad, acc, h => by
    have h0 := h 0 (.int .u8 (b.toNat : Int)) (by simp)
    have ha : ad.add 0 = ad := by simp [Addr.add]
    rw [ha] at h0
    have ih := run_loadBytesX (P := P) (w := w) r (ad.add 1) (acc.push b) (fun j u hu => by
      rw [show (ad.add 1).add j = ad.add (j + 1) by simp [Addr.add, Nat.add_assoc, Nat.add_comm 1 j]]
      exact h (j + 1) u (by simpa using hu))
    simp only [List.length_cons, Extern.Bytes.loadBytes, Sem.run_bind, load, Sem.run, h0, Result.andThen_ok, Int.toNat_natCast]
    rw [show b.toNat.toUInt8 = b from by simp [Nat.toUInt8]]
    rw [ih]
    simp [ByteArray.push]
theorem cellsK_rep {K : Kn} {w : World} (hk : ∀ b o v, K b o = some v → ∃ cs e fz, w.heap[b]? = some (.cells cs e fz) ∧ cs[o]? = some v) {ad : Addr} (hs : ad.spot = none) {j : Nat} {u : Value} (h : K ad.block (ad.off + j) = some u) : w.cell? (ad.add j) = some u := by
  obtain ⟨cs, e, fz, h1, h2⟩ := hk _ _ _ h
  obtain ⟨b, o, sp⟩ := ad
  simp only at hs
  subst hs
  rw [add_lit, cell_row h1]
  exact h2
theorem run_bytesOf_rep {P : Program} {K : Kn} {w : World} (hk : ∀ b o v, K b o = some v → ∃ cs e fz, w.heap[b]? = some (.cells cs e fz) ∧ cs[o]? = some v) {bs : List UInt8} {v : Value} (h : RepC K (.slice .u8) bs [v]) : (Extern.Bytes.bytesOf v).run P w = .ok ⟨bs.toArray⟩ w := by
  obtain ⟨A, c, e1, _, _, es, h2, h3⟩ := h
  injection e1 with e1 _
  subst e1
  have hes := repL_u8_cells h2
  rcases h3 with h3 | ⟨ad, a1, a2, a3⟩
  · rw [h3] at hes
    have : bs = [] := by simpa using hes.symm
    subst this
    cases A <;> rfl
  · subst a1
    subst hes
    have := run_loadBytesX (P := P) (w := w) bs ad ByteArray.empty (fun j u hu => cellsK_rep hk a2 (a3 j u hu))
    simp only [Extern.Bytes.bytesOf, this]
    have e0 : ByteArray.empty.data = #[] := rfl
    rw [e0]
    simp

theorem kh_IndexByte {E : Env} {f : Nat} {fn : Func} (hf : E.P.funcs[f]? = some fn) (hname : (fn.name == "runtime.NumGoroutine") = false) (hb : fn.body.isNone = true) (hx : Extern.findNext fn = none) (he : Extern.find fn = some Extern.BytealgIndexByte.indexByte) (N : Nat) :
    ConOk E ⟨f, psIx, rsIx, hand_bytealg_IndexByte N⟩ := by
  intro x r h w K H γ args hEnt
  have h : some (Lib.indexByte x.1 x.2) = some r := h
  injection h with h
  subst h
  left
  have hs := hEnt.size
  have s0 := (hEnt.slots 0 0 (.val (.one (.v (.slice .u8) x.1))) rfl).2
  have s1 := (hEnt.slots 1 0 (.val (.one (.v .u8 x.2))) rfl).2
  have ha := args_two hs rfl
  have hk := hEnt.hp.kok
  have s1 : args.getD 1 undef = .int .u8 (n8 x.2) := by simpa [RepSV, RepV, RepCell, RepC] using s1
  have s0 : RepC K (.slice .u8) x.1 [args.getD 0 undef] := s0
  refine ⟨.int .i64 (Lib.indexByte x.1 x.2), w, ?_, fun tk _ => back_still hEnt rfl rfl fun _ => rfl⟩
  rw [ha, s1]
  have hr := run_bytesOf_rep (P := E.P) hk s0
  obtain ⟨A, c, e1, _⟩ := s0
  injection e1 with e1 _
  rw [e1] at hr ⊢
  have hrun : (Extern.BytealgIndexByte.indexByte #[.slice A x.1.length c, .int .u8 (n8 x.2)]).run E.P w = .ok (.int .i64 (Lib.indexByte x.1 x.2)) w := by
    have h2 := Lib.run_indexByteString (P := E.P) ⟨x.1.toArray⟩ (n8 x.2) w
    have e2 : ((n8 x.2).toNat.toUInt8) = x.2 := byte_back x.2
    rw [e2] at h2
    have e3 : (⟨x.1.toArray⟩ : ByteArray).data.toList = x.1 := rfl
    rw [e3] at h2
    rw [← h2]
    show ((do
      let b ← Extern.Bytes.bytesOf (.slice A x.1.length c)
      let c ← Extern.Bytes.asByte (.int .u8 (n8 x.2))
      match (List.range b.size).find? fun i => b[i]! == c with
      | some i => pure (goInt i)
      | none => pure (goInt (-1)) : Sem Value).run E.P w) = ((do
      let b ← Extern.Bytes.bytesOf (.string ⟨x.1.toArray⟩)
      let c ← Extern.Bytes.asByte (.int .u8 (n8 x.2))
      match (List.range b.size).find? fun i => b[i]! == c with
      | some i => pure (goInt i)
      | none => pure (goInt (-1)) : Sem Value).run E.P w)
    have hst : (Extern.Bytes.bytesOf (.string ⟨x.1.toArray⟩)).run E.P w = .ok ⟨x.1.toArray⟩ w := rfl
    rw [Sem.run_bind, Sem.run_bind, hr, hst]
  rw [run_callFunc_indexByte hf hname hb hx he, hrun]
  rfl
theorem kh_IndexByteString {E : Env} {f : Nat} {fn : Func} (hf : E.P.funcs[f]? = some fn) (hname : (fn.name == "runtime.NumGoroutine") = false) (hb : fn.body.isNone = true) (hx : Extern.findNext fn = none) (he : Extern.find fn = some Extern.BytealgIndexByte.indexByte) (N : Nat) :
    ConOk E ⟨f, psIxS, rsIx, hand_bytealg_IndexByteString N⟩ := by
  intro x r h w K H γ args hEnt
  have h : some (Lib.indexByte x.1 x.2) = some r := h
  injection h with h
  subst h
  left
  have hs := hEnt.size
  have s0 := (hEnt.slots 0 0 (.val (.one (.v .str x.1))) rfl).2
  have s1 := (hEnt.slots 1 0 (.val (.one (.v .u8 x.2))) rfl).2
  have ha := args_two hs rfl
  have s1 : args.getD 1 undef = .int .u8 (n8 x.2) := by simpa [RepSV, RepV, RepCell, RepC] using s1
  have s0 : args.getD 0 undef = .string (bst x.1) := by simpa [RepSV, RepV, RepCell, RepC] using s0
  refine ⟨.int .i64 (Lib.indexByte x.1 x.2), w, ?_, fun tk _ => back_still hEnt rfl rfl fun _ => rfl⟩
  rw [ha, s1, s0]
  have h2 := Lib.run_indexByteString (P := E.P) (bst x.1) (n8 x.2) w
  have e2 : ((n8 x.2).toNat.toUInt8) = x.2 := byte_back x.2
  rw [e2] at h2
  have e3 : (bst x.1).data.toList = x.1 := rfl
  rw [e3] at h2
  rw [run_callFunc_indexByte hf hname hb hx he, h2]
  rfl

/-! ### room that is not cleared -/
theorem digits_bytes : ∀ (n t : Nat) (acc : Array Value) (bs : List UInt8), acc.toList = bs.map (fun b => Value.int .u8 (b.toNat : Int)) → ∃ bs' : List UInt8, (Extern.BytealgMakeNoZero.digits n t acc).toList = bs'.map (fun b => Value.int .u8 (b.toNat : Int))
  | 0, _, acc, bs, h => ⟨bs, h⟩
  | n + 1, t, acc, bs, h => by
    rw [Extern.BytealgMakeNoZero.digits]
    refine digits_bytes n (t / 256) _ (bs ++ [UInt8.ofNat (t % 256)]) ?_
    have : (UInt8.ofNat (t % 256)).toNat = t % 256 := by
      rw [UInt8.toNat_ofNat']; omega
    simp [h, this]
theorem nz_ok {P : Program} {f : Nat} {fn : Func} {ps : Array TypeId} {t : TypeId} (hf : P.funcs[f]? = some fn) (hname : (fn.name == "runtime.NumGoroutine") = false)
    (hb : fn.body.isNone = true) (hn : Extern.findNext fn = none) (he : Extern.find fn = some (Extern.BytealgMakeNoZero.makeNoZero ps #[t])) (ht : P.underlying t = some (.slice ub)) : NzOk P f := by
  intro n w hle
  have hdef : Extern.BytealgMakeNoZero.makeNoZero ps #[t] #[.int .i64 n] =
      (do
        let .slice elem ← underlying t | stuck "bytealg.MakeNoZero: slice type expected"
        if (n : Int) < 0 || (n : Int) > 2 ^ 48 then runtimePanic (.error "makeslice: len out of range")
        let cap ← choose (.appendCap (n : Int).toNat 0 elem)
        askRoom cap
        let bytes ← choose (.extern "internal/bytealg.MakeNoZero.bytes" 0)
        let a ← newRow elem (Extern.BytealgMakeNoZero.digits cap bytes #[])
        pure (.slice (some a) (n : Int).toNat cap)) := rfl
  obtain ⟨bs, hbs⟩ := digits_bytes (grownCap w n 0 ub) ((Question.extern "internal/bytealg.MakeNoZero.bytes" 0).cut (w.tape (w.drawn + 1) (.extern "internal/bytealg.MakeNoZero.bytes" 0))) #[] [] rfl
  have hsz : bs.length = grownCap w n 0 ub := by
    have := congrArg List.length hbs
    simp only [Array.length_toList, Lib.size_digits, List.length_map, Array.size_empty, Nat.zero_add] at this
    exact this.symm
  have hA : Extern.BytealgMakeNoZero.digits (grownCap w n 0 ub) ((Question.extern "internal/bytealg.MakeNoZero.bytes" 0).cut (w.tape (w.drawn + 1) (.extern "internal/bytealg.MakeNoZero.bytes" 0))) #[] = (bs.map fun b => Value.int .u8 (b.toNat : Int)).toArray := by
    apply Array.toList_inj.1
    rw [hbs]
  refine ⟨bs, w.drawn + 1 + 1, ?_, ?_, ?_⟩
  · rw [run_callFunc_extern hf hname hb hn he, hdef]
    have h1 : ¬ (n : Int) < 0 := by omega
    have h2 : ¬ (281474976710656 : Int) < (n : Int) := by omega
    rw [← hA, hsz]
    simp [run_underlying ht, h1, h2, Question.forced, newRow, grownCap]
    rfl
  · rw [hsz]; simpa using grownCap_ge w n 0 ub
  · rw [hsz]; simpa using grownCap_le_maxLen w n 0 ub (by unfold maxLen; omega)

/-! ### the check of a Builder -/
def tyB : Ty := .st (.pair .nptr (.slice .u8))
def psCc (t : Nat) : List PK := [.k (.b t tyB [1])]
def hand_strings_Builder_copyCheck (_N : Nat) (x : Unit × List UInt8) : Option (Unit × List UInt8) := some x
/-- what the check does: the Builder's own address is put down, or stands there -/
def CcOk (P : Program) (f t : Nat) : Prop := ∀ (w : World) (b : Nat) (p v : Value), w.heap[b]? = some (.cells #[p, v] t (0, 0)) → (p = .pointer none ∨ p = .pointer (some ⟨b, 0, none⟩)) →
  ((callFunc f #[.pointer (some ⟨b, 0, none⟩)]).run P w = .ok (.enter f #[.pointer (some ⟨b, 0, none⟩)]) w) ∧ Calls P f #[.pointer (some ⟨b, 0, none⟩)] w fun e w' => e = .returned (.tuple #[]) ∧ w'.os = w.os ∧ w'.tape = w.tape ∧ w'.output = w.output ∧ w'.heap.size = w.heap.size ∧ (∀ b', b' ≠ b → w'.heap[b']? = w.heap[b']?) ∧ (∃ p', w'.heap[b]? = some (.cells #[p', v] t (0, 0)) ∧ (p' = .pointer none ∨ p' = .pointer (some ⟨b, 0, none⟩)))
theorem kh_copyCheck {E : Env} {f t : Nat} (hcc : CcOk E.P f t) (N : Nat) : ConOk E ⟨f, psCc t, [], hand_strings_Builder_copyCheck N⟩ := by
  intro x r h w K H γ args hEnt
  have h : some x = some r := h
  injection h with h
  subst h
  have hs : args.size = 1 := hEnt.size
  have o1 : obs (start (psCc t) x) 1 = some (.row 1 .u8 x.2) := rfl
  have o2 : obs (start (psCc t) x) 2 = some (.box t [.nilp, .row 1 1]) := rfl
  obtain ⟨g1, hg1⟩ := hEnt.all 1 _ (show lk (start (psCc t) x).ob 1 = some (0, .row 1 .u8 x.2) from rfl)
  obtain ⟨g2, hg2⟩ := hEnt.all 2 _ (show lk (start (psCc t) x).ob 2 = some (0, .box t [.nilp, .row 1 1]) from rfl)
  have s0 := (hEnt.slots 0 0 (.val (.one (.ptr 2 0))) rfl).2
  obtain ⟨g2', b, k1, k2, k3, k4⟩ := s0
  rw [hg2] at k1
  injection k1 with k1
  subst k1
  have ha : args = #[.pointer (some ⟨b, 0, none⟩)] := by
    apply Array.ext
    · simpa using hs
    · intro i h1 h3
      simp at h3
      subst h3
      have : args.getD 0 undef = args[0] := by simp [Array.getD, hs]
      rw [← this, k4]
      rfl
  obtain ⟨b', vs, q0, q1, ⟨us, q2, qs⟩, q3, q4⟩ := hEnt.hp.ok 2 _ g2 o2 hg2
  rw [k3] at q1
  injection q1 with q1
  injection q1 with q1
  subst q1
  obtain ⟨v1, vr, e1, e1', _, v2, vr2, e2, e3, e3', e4⟩ := q3
  have e4 : vr2 = [] := e4
  have e1' : v1 = .pointer none := e1'
  subst e4
  subst e1'
  subst e2
  subst e1
  obtain ⟨u1, u2, rfl⟩ : ∃ u1 u2, us = [u1, u2] := by
    have := qs.1
    match us, this with
    | [u1, u2], _ => exact ⟨u1, u2, rfl⟩
  have hu1 : u1 = .pointer none ∨ u1 = .pointer (some ⟨b, 0, none⟩) := by
    rcases qs.2 0 u1 (.pointer none) rfl rfl with e | ⟨_, e⟩
    · exact .inl e
    · exact .inr e
  have hu2 : u2 = v2 := by
    rcases qs.2 1 u2 v2 rfl rfl with e | ⟨e, _⟩
    · exact e
    · obtain ⟨h0, _⟩ := e3
      subst e
      cases h0
  subst hu2
  obtain ⟨c1, c2⟩ := hcc w b u1 u2 (by simpa using q2) hu1
  subst ha
  right
  refine ⟨c1, c2.mono fun e w' he => ?_⟩
  obtain ⟨rfl, d1, d2, d3, d4, d5, p', d6, d7⟩ := he
  intro tk h0
  obtain ⟨r1, r2, r3, r4, r5, vi, r6, r7, r8⟩ := hEnt.hp.ok 1 _ g1 o1 hg1
  have hslf : Slf b [p', u2] [.pointer none, u2] := by
    refine ⟨rfl, fun i u v hu hv => ?_⟩
    match i with
    | 0 =>
      simp at hu hv
      subst hu
      subst hv
      rcases d7 with d7 | d7
      · exact .inl d7
      · exact .inr ⟨rfl, d7⟩
    | 1 =>
      simp at hu hv
      subst hu
      subst hv
      exact .inl rfl
    | i + 2 => simp at hu
  have hH : Hp w K H γ (obs (start (psCc t) x)) K w' := by
    obtain ⟨_, t2⟩ := hEnt.hp.turn (w' := w') 2 g2 (.box t [.nilp, .row 1 1]) d1 d2 d3 (Nat.le_of_eq d4.symm) (fun gg hgg => by rw [hg2] at hgg; injection hgg with hgg; subst hgg; exact ⟨Nat.le_refl _, fun _ => rfl⟩)
      (fun b2 _ hne => d5 b2 (hne _ g2 _ o2 hg2 rfl k3))
      (fun _ ad had => .inr ⟨_, g2, ad, o2, hg2, rfl, had, rfl⟩)
      (by
        rw [fset_id hg2]
        exact ⟨b, [.pointer none, u2], q0, k3, ⟨[p', u2], by simpa using d6, hslf⟩, ⟨_, _, rfl, rfl, rfl, _, _, rfl, e3, e3', rfl⟩, q4⟩)
    rw [fset_id hg2, fset_id o2] at t2
    exact t2
  have hrow : ∀ γ2, ObOk γ2 K w' ⟨g1.a, g1.c, g1.n, g1.sz, tk⟩ (.row tk .u8 x.2) := fun γ2 => by
    refine ⟨rfl, h0, r3, r4, r5, vi, ⟨r6.1, ?_⟩, r7, r8⟩
    rcases r6.2 with z | ⟨b2, cur, ee, fz, z1, z2, z3, z4⟩
    · exact .inl z
    · refine .inr ⟨b2, cur, ee, fz, z1, ?_, z3, z4⟩
      rw [d5 b2 (hEnt.hp.sep 1 2 _ _ g1 g2 o1 o2 hg1 hg2 rfl rfl (by decide) ⟨b2, 0, none⟩ ⟨b, 0, none⟩ z1 k3)]
      exact z2
  refine ⟨γ, obs (start (psCc t) x), K, [⟨g1.a, g1.c, g1.n, g1.sz, tk⟩], [some 1], hH, ⟨_, _, _, _, rfl, rfl, ⟨rfl, hrow, rfl, .inr ⟨1, g1, _, rfl, hg1, o1, rfl, rfl⟩⟩, rfl, rfl⟩, fun j => ?_, fun i o ho => ?_, fun γ2 _ => ⟨[], rfl, rfl⟩⟩
  · rw [List.count_cons, List.count_nil]; split <;> simp
  · match i with
    | 0 =>
      have ho : some (Ob.box t [.nilp, .row (tk + 0) tk]) = some o := ho
      injection ho with ho
      subst ho
      refine ⟨(by decide : List.count (some 2) [some 1] = 0), rfl, ⟨_, o2, rfl⟩, fun γ2 hG g hg => ?_⟩
      have hg : γ 2 = some g := hg
      rw [hg2] at hg
      injection hg with hg
      subst hg
      have hn := hG 0 _ rfl
      refine ⟨b, [.pointer none, u2], q0, k3, ⟨[p', u2], by simpa using d6, hslf⟩, ⟨_, _, rfl, rfl, rfl, _, _, rfl, ?_, e3', rfl⟩, q4⟩
      obtain ⟨y0, gy, y1, y2, y3, y4⟩ := e3
      rw [hg1] at y1
      injection y1 with y1
      subst y1
      exact ⟨y0, ⟨g1.a, g1.c, g1.n, g1.sz, tk⟩, by simpa using hn, h0, Nat.le_refl _, fun _ => y4 r1⟩
    | i + 1 =>
      have ho : ([] : List Ob)[i]? = some o := ho
      simp at ho
/-- unicode/utf8.ValidString -/
def hand_utf8_ValidString (_N : Nat) (x : List UInt8) : Option Bool := grd (catOk (len x)) (some (Lib.validD x))
end Go.W
end

section
/-
  The table of types of this program, as the machine on plain values sees them, and the package variables that are known.
-/
namespace Go.Mo
open Go Go.W Go.Proofs
noncomputable section
def tt : List (Option Ty) := [none,
  none,
  some (.int .i64),
  some (.int .i64),
  some (.bool),
  some (.u8),
  none,
  none,
  none,
  some (.str),
  none,
  none,
  some (.int .u64),
  none,
  none,
  some (.nptr),
  some (.nptr),
  some (.nptr),
  none,
  none,
  some (.nif),
  some (.int .i32),
  some (.u8),
  some (.st (.pair (.int .i64) (.pair (.int .i64) (.pair (.int .i64) (.pair (.int .i64) (.bool)))))),
  some (.st (.pair (.int .i64) (.pair (.int .i64) (.pair (.int .i64) (.pair (.int .i64) (.bool)))))),
  some (.st (.pair (.u8) (.pair (.str) (.pair (.str) (.pair (.int .i64) (.pair (.int .i64) (.pair (.st (.pair (.int .i64) (.pair (.int .i64) (.pair (.int .i64) (.pair (.int .i64) (.bool)))))) (.pair (.st (.pair (.int .i64) (.pair (.int .i64) (.pair (.int .i64) (.pair (.int .i64) (.bool)))))) (.pair (.int .i64) (.int .i64)))))))))),
  some (.st (.pair (.u8) (.pair (.str) (.pair (.str) (.pair (.int .i64) (.pair (.int .i64) (.pair (.st (.pair (.int .i64) (.pair (.int .i64) (.pair (.int .i64) (.pair (.int .i64) (.bool)))))) (.pair (.st (.pair (.int .i64) (.pair (.int .i64) (.pair (.int .i64) (.pair (.int .i64) (.bool)))))) (.pair (.int .i64) (.int .i64)))))))))),
  none,
  some (.slice (.u8)),
  some (.int .i64),
  none,
  none,
  none,
  none,
  none,
  none,
  none,
  none,
  some (.u8),
  some (.st (.pair (.int .i64) (.pair (.int .i64) (.pair (.u8) (.pair (.u8) (.pair (.st (.pair (.int .i64) (.pair (.int .i64) (.pair (.int .i64) (.pair (.int .i64) (.bool)))))) (.pair (.st (.pair (.int .i64) (.pair (.int .i64) (.pair (.int .i64) (.pair (.int .i64) (.bool)))))) (.pair (.int .i64) (.pair (.u8) (.pair (.bool) (.slice (.u8)))))))))))),
  some (.st (.pair (.int .i64) (.pair (.int .i64) (.pair (.u8) (.pair (.u8) (.pair (.st (.pair (.int .i64) (.pair (.int .i64) (.pair (.int .i64) (.pair (.int .i64) (.bool)))))) (.pair (.st (.pair (.int .i64) (.pair (.int .i64) (.pair (.int .i64) (.pair (.int .i64) (.bool)))))) (.pair (.int .i64) (.pair (.u8) (.pair (.bool) (.slice (.u8)))))))))))),
  none,
  some (.slice (.st (.pair (.int .i64) (.pair (.int .i64) (.pair (.u8) (.pair (.u8) (.pair (.st (.pair (.int .i64) (.pair (.int .i64) (.pair (.int .i64) (.pair (.int .i64) (.bool)))))) (.pair (.st (.pair (.int .i64) (.pair (.int .i64) (.pair (.int .i64) (.pair (.int .i64) (.bool)))))) (.pair (.int .i64) (.pair (.u8) (.pair (.bool) (.slice (.u8))))))))))))),
  none,
  none,
  none,
  none,
  none,
  none,
  none,
  none,
  none,
  some (.arr 2 (.st (.pair (.int .i64) (.pair (.int .i64) (.pair (.int .i64) (.pair (.int .i64) (.bool))))))),
  none,
  none,
  none,
  none,
  none,
  none,
  none,
  some (.int .u64),
  none,
  none,
  none,
  none,
  none,
  none,
  none,
  some (.slice (.int .i32)),
  none,
  none,
  none,
  none,
  none,
  none,
  some (.arr 256 (.bool)),
  some (.arr 256 (.bool)),
  none,
  none,
  none,
  some (.nptr),
  some (.nptr),
  some (.st (.pair (.nptr) (.slice (.u8)))),
  some (.st (.pair (.nptr) (.slice (.u8)))),
  none,
  none,
  some (.nif),
  some (.nif),
  none,
  none,
  none,
  none,
  none,
  none,
  none,
  none,
  some (.int .u32),
  none,
  none,
  some (.int .u64),
  none,
  none,
  none,
  none,
  none,
  none,
  none,
  some (.arr 256 (.u8)),
  some (.st (.pair (.u8) (.u8))),
  some (.st (.pair (.u8) (.u8))),
  some (.arr 16 (.st (.pair (.u8) (.u8)))),
  none,
  none,
  some (.st (.pair (.str) (.pair (.int .i64) (.pair (.int .i64) (.bool))))),
  some (.st (.pair (.str) (.pair (.int .i64) (.pair (.int .i64) (.bool))))),
  none,
  some (.arr 2 (.int .i32)),
  none,
  some (.nptr),
  some (.slice (.int .i64)),
  some (.arr 8 (.st (.pair (.str) (.pair (.int .i64) (.pair (.int .i64) (.bool)))))),
  none,
  none,
  none,
  none,
  none,
  none,
  none,
  none,
  none,
  none,
  none,
  none,
  none,
  none,
  none,
  none,
  none,
  none]
def gl1 : List UInt8 := Go.Pinned.utf8FirstZ.map fun n => UInt8.ofNat n
def gl2 : List (UInt8 × UInt8) := [(128, 191), (160, 191), (128, 159), (144, 191), (128, 143), (0, 0), (0, 0), (0, 0), (0, 0), (0, 0), (0, 0), (0, 0), (0, 0), (0, 0), (0, 0), (0, 0)]
noncomputable def E : Env := ⟨Tryd.prog, tt, [(1, ⟨.arr 256 (.u8), gl1⟩), (2, ⟨.arr 16 (.st (.pair (.u8) (.u8))), gl2⟩)], some 36, some (54, 83)⟩
set_option maxRecDepth 100000 in
theorem chk : chkAll E 0 E.ty = true := by kernel_rfl
theorem mixed : E.P.follows .mixedOrders = true := by kernel_rfl
end
end Go.Mo
end

section
/-
  Two functions of strings.Builder, walked by hand. The numbers are printed by a program.
-/
set_option linter.unusedVariables false
namespace Go.Mo
open Go Go.W Go.Proofs Go.RowKit

theorem sizeB : (Tryd.prog.info? 83).map (·.size) = some 2 := by kernel_rfl
theorem liesB : liesAt Tryd.prog Tryd.prog.depth 83 (2 / Tryd.prog.cellsOf 83) 0 83 1 = true := by kernel_rfl
theorem cellsByte : Tryd.prog.cellsOf 5 = 1 := by kernel_rfl
theorem undP : Tryd.prog.underlying 81 = some (.pointer 83) := by kernel_rfl
theorem undU : Tryd.prog.underlying 121 = some .unsafePointer := by kernel_rfl
theorem undBP : Tryd.prog.underlying 118 = some (.pointer 5) := by kernel_rfl
theorem undSl : Tryd.prog.underlying 28 = some (.slice 5) := by kernel_rfl
theorem mixedB : Tryd.prog.follows .mixedOrders = true := by kernel_rfl
theorem fNe : Tryd.prog.funcs[90]? = some Tryd.f90 := by kernel_rfl

set_option maxHeartbeats 1000000 in
set_option maxRecDepth 100000 in
theorem cc_used (b : Nat) (w : World) (h0 : w.cell? ⟨b, 0, none⟩ = some (.pointer (some ⟨b, 0, none⟩))) :
    Calls Tryd.prog 82 #[.pointer (some ⟨b, 0, none⟩)] w fun e w' => e = .returned (.tuple #[]) ∧ w' = w := by
  obtain ⟨j, hj, _⟩ := Option.map_eq_some_iff.1 sizeB
  go_enter Tryd.func82, Tryd.ntmps82
  go_wp2
  rw [Lib.run_neq_ptr_same w _ undP hj]
  go_wp2
  go_end0
  exact ⟨rfl, rfl⟩

set_option maxHeartbeats 1000000 in
set_option maxRecDepth 100000 in
theorem cc_fresh (b : Nat) (w : World) (h0 : w.cell? ⟨b, 0, none⟩ = some (.pointer none)) (hsh : w.shape? b = some (83, 2)) (hfz : w.frozen? ⟨b, 0, none⟩ = false) :
    Calls Tryd.prog 82 #[.pointer (some ⟨b, 0, none⟩)] w fun e w' => e = .returned (.tuple #[]) ∧ w' = w.setCell ⟨b, 0, none⟩ (.pointer (some ⟨b, 0, none⟩)) := by
  obtain ⟨j, hj, hjs⟩ := Option.map_eq_some_iff.1 sizeB
  go_enter Tryd.func82, Tryd.ntmps82
  go_wp2
  rw [Lib.run_to_unsafe w ⟨b, 0, none⟩ undP undU hj (by rw [hjs]; decide) hsh (Nat.zero_lt_succ 1)]
  simp only [Result.andThen]
  rw [Oper.upon_value]
  go_wp2
  rw [run_callFunc_extern fNe (by kernel_rfl) (by kernel_rfl) (by kernel_rfl) (e := Extern.AbiNoEscape.same) (by kernel_rfl)]
  rw [Lib.run_noEscape]
  simp only [Result.andThen]
  rw [Oper.upon_value]
  go_wp2
  rw [Lib.run_from_unsafe w ⟨b, 0, none⟩ undU undP hj hsh liesB]
  simp only [Result.andThen]
  rw [Oper.upon_value]
  go_wp2
  go_end0
  exact ⟨rfl, rfl⟩

theorem ccOk : CcOk Tryd.prog 82 83 := by
  intro w b p v hb hp
  refine ⟨by
    unfold callFunc
    simp only [program, Sem.run_bind, Sem.run, Result.andThen_ok, show Tryd.prog.funcs[82]? = some Tryd.f82 from by kernel_rfl]
    rfl, ?_⟩
  have c0 : w.cell? ⟨b, 0, none⟩ = some p := by rw [Lib.cell_of_heap hb]; rfl
  rcases hp with hp | hp
  · subst hp
    refine (cc_fresh b w c0 (by simp [World.shape?, hb]) (Lib.frozen_of_heap hb 0)).mono ?_
    rintro e w' ⟨rfl, rfl⟩
    refine ⟨rfl, rfl, rfl, rfl, by simp [World.setCell], fun b' hb' => ?_, .pointer (some ⟨b, 0, none⟩), ?_, .inr rfl⟩
    · simp [World.setCell, Array.getElem?_modify, Ne.symm hb']
    · simp [World.setCell, Array.getElem?_modify, hb]
  · subst hp
    refine (cc_used b w c0).mono ?_
    rintro e w' ⟨rfl, rfl⟩
    exact ⟨rfl, rfl, rfl, rfl, rfl, fun _ _ => rfl, _, hb, .inr rfl⟩

/-! ### String -/
section
variable (b : Nat) (p : Value) (w : World)
set_option maxHeartbeats 2000000 in
set_option maxRecDepth 100000 in
theorem bs_some (l : List UInt8) (h0 : l ≠ []) (g cap : Nat) (cur : Array Value) (fz : Nat × Nat) (hbk : w.heap[b]? = some (.cells #[p, .slice (some ⟨g, 0, none⟩) l.length cap] 83 (0, 0))) (hg : w.heap[g]? = some (.cells cur 5 fz)) (hnc : l.length ≤ cap) (hcm : cap ≤ maxLen) (hcs : cap ≤ cur.size) (htake : cur.toList.take l.length = l.map fun b => Value.int .u8 (b.toNat : Int)) :
    Calls Tryd.prog 54 #[.pointer (some ⟨b, 0, none⟩)] w fun e w' => e = .returned (.string ⟨l.toArray⟩) ∧ w' = w.drew.freeze ⟨g, 0, none⟩ l.length := by
  have hl0 : l.length ≠ 0 := by simpa using h0
  have c1 : w.drew.cell? ⟨b, 1, none⟩ = some (.slice (some ⟨g, 0, none⟩) l.length cap) := by
    have : w.drew.heap[b]? = some (.cells #[p, .slice (some ⟨g, 0, none⟩) l.length cap] 83 (0, 0)) := hbk
    rw [Lib.cell_of_heap this]; rfl
  have hSD : (Builtin.unsafeSliceData_ #[28] 118 #[.slice (some ⟨g, 0, none⟩) l.length cap]).run Tryd.prog w.drew = .ok (.pointer (some ⟨g, 0, none⟩)) w.drew :=
    Lib.run_unsafeSliceData_row _ _ _ _ _ _ (by omega)
  have hUS : (Builtin.unsafeString_ #[118, 3] 9 #[.pointer (some ⟨g, 0, none⟩), .int .i64 l.length]).run Tryd.prog w.drew = .ok (.string ⟨l.toArray⟩) (w.drew.freeze ⟨g, 0, none⟩ l.length) := by
    refine Lib.run_unsafeString_row w.drew 118 3 9 5 undBP cellsByte g cur.size (by have hg' : w.drew.heap[g]? = some (.cells cur 5 fz) := hg; simp [World.shape?, hg']) l h0 (by omega) (by unfold maxLen at hcm; omega) ?_
    intro j x hx
    have hg' : w.drew.heap[g]? = some (.cells cur 5 fz) := hg
    rw [add_lit, cell_row hg', Nat.zero_add]
    have hj : j < l.length := (List.getElem?_eq_some_iff.1 hx).1
    have := congrArg (·[j]?) htake
    simp only [List.getElem?_take, hj, if_true, List.getElem?_map, hx, Option.map_some] at this
    simpa using this
  go_enter Tryd.func54, Tryd.ntmps54
  go_wp2
  go_region
  all_goals (go_wp2; go_ret; exact ⟨rfl, rfl⟩)

theorem us_none (W : World) (q : Option Addr) : (Builtin.unsafeString_ #[118, 3] 9 #[.pointer q, .int .i64 0]).run Tryd.prog W = .ok (.string .empty) W := Lib.run_unsafeString_none W _ _ _ q

set_option maxHeartbeats 2000000 in
set_option maxRecDepth 100000 in
theorem bs_nil (hbk : w.heap[b]? = some (.cells #[p, .slice none 0 0] 83 (0, 0))) :
    Calls Tryd.prog 54 #[.pointer (some ⟨b, 0, none⟩)] w fun e w' => e = .returned (.string ⟨#[]⟩) ∧ w' = w.drew := by
  have hUS := us_none
  have c1 : w.drew.cell? ⟨b, 1, none⟩ = some (.slice none 0 0) := by
    have : w.drew.heap[b]? = some (.cells #[p, .slice none 0 0] 83 (0, 0)) := hbk
    rw [Lib.cell_of_heap this]; rfl
  have hSD : (Builtin.unsafeSliceData_ #[28] 118 #[.slice none 0 0]).run Tryd.prog w.drew = .ok (.pointer none) w.drew := rfl
  go_enter Tryd.func54, Tryd.ntmps54
  go_wp2
  go_region
  all_goals (go_wp2; go_ret; exact ⟨rfl, rfl⟩)

set_option maxHeartbeats 2000000 in
set_option maxRecDepth 100000 in
theorem bs_noroom (g : Nat) (cur : Array Value) (fz : Nat × Nat) (hbk : w.heap[b]? = some (.cells #[p, .slice (some ⟨g, 0, none⟩) 0 0] 83 (0, 0))) (hg : w.heap[g]? = some (.cells cur 5 fz)) :
    Calls Tryd.prog 54 #[.pointer (some ⟨b, 0, none⟩)] w fun e w' => e = .returned (.string ⟨#[]⟩) ∧ ∃ d o, w' = World.alloc { w with drawn := d } o := by
  have hUS := us_none
  have hlt : b < w.heap.size := (Array.getElem?_eq_some_iff.1 hbk).1
  have c1 : w.drew.cell? ⟨b, 1, none⟩ = some (.slice (some ⟨g, 0, none⟩) 0 0) := by
    have : w.drew.heap[b]? = some (.cells #[p, .slice (some ⟨g, 0, none⟩) 0 0] 83 (0, 0)) := hbk
    rw [Lib.cell_of_heap this]; rfl
  have hSD : (Builtin.unsafeSliceData_ #[28] 118 #[.slice (some ⟨g, 0, none⟩) 0 0]).run Tryd.prog w.drew = .ok (.pointer (some ⟨w.drew.heap.size, 0, none⟩)) (w.drew.alloc (.view ⟨g, 0, none⟩ 5)) :=
    Lib.run_unsafeSliceData_zero w.drew _ _ 5 undBP ⟨g, 0, none⟩ 0 (5, cur.size) (by have hg' : w.drew.heap[g]? = some (.cells cur 5 fz) := hg; simp [World.shape?, hg'])
  have c2 : (w.drew.alloc (.view ⟨g, 0, none⟩ 5)).cell? ⟨b, 1, none⟩ = some (.slice (some ⟨g, 0, none⟩) 0 0) := by
    have : (w.drew.alloc (.view ⟨g, 0, none⟩ 5)).heap[b]? = _ := (Lib.alloc_old w.drew _ b hlt).trans hbk
    rw [Lib.cell_of_heap this]; rfl
  have c3 : (w.alloc (.view ⟨g, 0, none⟩ 5)).drew.cell? ⟨b, 1, none⟩ = some (.slice (some ⟨g, 0, none⟩) 0 0) := c2
  have c0 : w.cell? ⟨b, 1, none⟩ = some (.slice (some ⟨g, 0, none⟩) 0 0) := c1
  go_enter Tryd.func54, Tryd.ntmps54
  go_wp2
  go_region
  all_goals (go_wp2; go_ret; exact ⟨rfl, w.drawn + 1, .view ⟨g, 0, none⟩ 5, rfl⟩)

set_option maxHeartbeats 2000000 in
set_option maxRecDepth 100000 in
theorem bs_room (g cap : Nat) (hc0 : cap ≠ 0) (hbk : w.heap[b]? = some (.cells #[p, .slice (some ⟨g, 0, none⟩) 0 cap] 83 (0, 0))) :
    Calls Tryd.prog 54 #[.pointer (some ⟨b, 0, none⟩)] w fun e w' => e = .returned (.string ⟨#[]⟩) ∧ w' = w.drew := by
  have hUS := us_none
  have c1 : w.drew.cell? ⟨b, 1, none⟩ = some (.slice (some ⟨g, 0, none⟩) 0 cap) := by
    have : w.drew.heap[b]? = some (.cells #[p, .slice (some ⟨g, 0, none⟩) 0 cap] 83 (0, 0)) := hbk
    rw [Lib.cell_of_heap this]; rfl
  have hSD : (Builtin.unsafeSliceData_ #[28] 118 #[.slice (some ⟨g, 0, none⟩) 0 cap]).run Tryd.prog w.drew = .ok (.pointer (some ⟨g, 0, none⟩)) w.drew :=
    Lib.run_unsafeSliceData_row _ _ _ _ _ _ hc0
  clear hc0
  go_enter Tryd.func54, Tryd.ntmps54
  go_wp2
  go_region
  all_goals (go_wp2; go_ret; exact ⟨rfl, rfl⟩)
end
theorem bsOk : BsOk Tryd.prog 54 83 := by
  intro w b p A c xs hb hcm hpre
  refine ⟨by
    unfold callFunc
    simp only [program, Sem.run_bind, Sem.run, Result.andThen_ok, show Tryd.prog.funcs[54]? = some Tryd.f54 from by kernel_rfl]
    rfl, ?_⟩
  have same : ∀ (A : Option Addr) (w' : World), w' = w.drew → SameBut w w' A := fun A w' e => by
    subst e
    exact ⟨rfl, rfl, rfl, Nat.le_refl _, fun _ _ _ => rfl, fun ad _ cs e fz h => ⟨fz, h⟩⟩
  rcases hpre with ⟨rfl, rfl, rfl⟩ | ⟨g, cur, fz, rfl, h1, h2, h3, h4, h5⟩
  · exact (bs_nil b p w hb).mono fun e w' ⟨he, hw⟩ => ⟨he, same _ _ hw⟩
  · by_cases hx : xs = []
    · subst hx
      by_cases hc : c = 0
      · subst hc
        refine (bs_noroom b p w g cur fz hb h1).mono fun e w' ⟨he, d, o, hw⟩ => ⟨he, ?_⟩
        subst hw
        have old : ∀ b', b' < w.heap.size → (World.alloc { w with drawn := d } o).heap[b']? = w.heap[b']? := fun b' hb' => Below.heap_alloc { w with drawn := d } o b' hb'
        exact ⟨rfl, rfl, rfl, by simp [World.alloc], fun b' hb' _ => old b' hb', fun ad _ cs e fz h => ⟨fz, by rw [old _ (Array.getElem?_eq_some_iff.1 h).1]; exact h⟩⟩
      · exact (bs_room b p w g c hc hb).mono fun e w' ⟨he, hw⟩ => ⟨he, same _ _ hw⟩
    · refine (bs_some b p w xs hx g c cur fz hb h1 h3 hcm h4 h5).mono fun e w' ⟨he, hw⟩ => ⟨he, ?_⟩
      subst hw
      have hne : xs.length ≠ 0 := by simpa using hx
      unfold World.freeze
      rw [if_neg hne]
      refine ⟨rfl, rfl, rfl, by simp, fun b' _ hb' => ?_, fun ad had cs e fz' h => ?_⟩
      · have hgb : g ≠ b' := fun e => hb' _ rfl e.symm
        show (w.heap.modify g _)[b']? = w.heap[b']?
        rw [Array.getElem?_modify, if_neg hgb]
      · injection had with had
        subst had
        have h : w.heap[g]? = some (.cells cs e fz') := h
        obtain ⟨lo, hi⟩ := fz'
        refine ⟨if lo == hi then (0, 0 + xs.length) else (min lo 0, max hi (0 + xs.length)), ?_⟩
        show (w.heap.modify g _)[g]? = _
        rw [Array.getElem?_modify, if_pos rfl, h]
        rfl
end Go.Mo
end

section
/-
  unicode/utf8.ValidString: the library's contract. The numbers are printed by a program.
-/
set_option linter.unusedVariables false
namespace Go.Mo
open Go Go.W Go.Proofs Go.Shelf Go.RowKit
set_option maxRecDepth 100000
def rhoV : Ren := ⟨fun n => match n with | 196 => 43 | 259 => 73 | n => n, fun n => match n with | 46 => 60 | 53 => 99 | 119 => 107 | 138 => 109 | 139 => 110 | n => n, fun n => match n with | 3 => 1 | 4 => 2 | n => n⟩
theorem laysV : Lays.n196 Tryd.prog rhoV := { mixed := by kernel_rfl, f196 := by kernel_rfl, f259 := by kernel_rfl, t0 := by kernel_rfl, a0 := fun _ => by kernel_rfl, z0 := fun _ => by kernel_rfl, v0 := fun _ => by kernel_rfl, t3 := by kernel_rfl, a3 := fun _ => by kernel_rfl, z3 := fun _ => by kernel_rfl, v3 := fun _ => by kernel_rfl, t4 := by kernel_rfl, a4 := fun _ => by kernel_rfl, z4 := fun _ => by kernel_rfl, v4 := fun _ => by kernel_rfl, t5 := by kernel_rfl, a5 := fun _ => by kernel_rfl, z5 := fun _ => by kernel_rfl, v5 := fun _ => by kernel_rfl, t9 := by kernel_rfl, a9 := fun _ => by kernel_rfl, z9 := fun _ => by kernel_rfl, v9 := fun _ => by kernel_rfl, t12 := by kernel_rfl, a12 := fun _ => by kernel_rfl, z12 := fun _ => by kernel_rfl, v12 := fun _ => by kernel_rfl, t46 := by kernel_rfl, a46 := fun _ => by kernel_rfl, z46 := fun _ => by kernel_rfl, v46 := fun _ => by kernel_rfl, t53 := by kernel_rfl, a53 := fun _ => by kernel_rfl, z53 := fun _ => by kernel_rfl, v53 := fun _ => by kernel_rfl, t119 := by kernel_rfl, a119 := fun _ => by kernel_rfl, z119 := fun _ => by kernel_rfl, t138 := by kernel_rfl, a138 := fun _ => by kernel_rfl, z138 := fun _ => by kernel_rfl, v138 := fun _ => by kernel_rfl, t139 := by kernel_rfl, a139 := fun _ => by kernel_rfl, z139 := fun _ => by kernel_rfl, v139 := fun _ => by kernel_rfl, g3 := by kernel_rfl, g4 := by kernel_rfl }
theorem first_tab : ((List.range 256).all fun c => Nat.beq ((gl1.getD c 0).toNat) (Lib.firstT c) && Nat.beq gl1.length 256) = true := by kernel_rfl
theorem acc_tab : ((List.range 16).all fun c => Nat.beq ((gl2.getD c (0, 0)).1.toNat) (Lib.accLo c) && Nat.beq ((gl2.getD c (0, 0)).2.toNat) (Lib.accHi c) && Nat.beq gl2.length 16) = true := by kernel_rfl
theorem rep_pairs {K : Kn} : ∀ {xs : List (UInt8 × UInt8)} {vs : List Value}, RepL (RepC K (.st (.pair .u8 .u8))) xs vs → ∀ i x, xs[i]? = some x → vs[2 * i]? = some (.int .u8 (n8 x.1)) ∧ vs[2 * i + 1]? = some (.int .u8 (n8 x.2))
  | [], vs, h, i, x, hx => by simp at hx
  | y :: xs, vs, ⟨c1, c2, e, h1, h2⟩, i, x, hx => by
    obtain ⟨d1, d2, e1, e2, e3⟩ := h1
    have e2 : d1 = [.int .u8 (n8 y.1)] := e2
    have e3 : d2 = [.int .u8 (n8 y.2)] := e3
    subst e2
    subst e3
    subst e1
    subst e
    cases i with
    | zero => simp at hx; subst hx; exact ⟨rfl, rfl⟩
    | succ i =>
      have := rep_pairs h2 i x (by simpa using hx)
      rw [show 2 * (i + 1) = 2 * i + 1 + 1 by omega]
      simpa using this
theorem tabsV {K : Kn} {w : World} (hg : GlobOk E K) (hk : ∀ b o v, K b o = some v → ∃ cs e fz, w.heap[b]? = some (.cells cs e fz) ∧ cs[o]? = some v) : Lib.Utf8Tabs 1 2 w := by
  have cell : ∀ {b o : Nat} {v : Value}, K b o = some v → w.cell? ⟨b, o, none⟩ = some v := fun {b o v} h => by
    obtain ⟨cs, e, fz, h1, h2⟩ := hk b o v h
    rw [cell_row h1]
    exact h2
  constructor
  · obtain ⟨cs, ⟨_, r2⟩, r3⟩ := hg 1 _ _ (show lkG E.gl 1 = some ⟨.arr 256 .u8, gl1⟩ from by kernel_rfl)
    have hcs := repL_u8_cells r2
    intro c hc
    have ht := List.all_eq_true.1 first_tab c (List.mem_range.2 hc)
    simp only [Bool.and_eq_true] at ht
    have ht1 := Nat.eq_of_beq_eq_true ht.1
    have ht2 := Nat.eq_of_beq_eq_true ht.2
    have hlt : c < gl1.length := by rw [ht2]; exact hc
    refine cell (r3 c _ ?_)
    rw [hcs, List.getElem?_map, List.getElem?_eq_getElem hlt]
    have : gl1.getD c 0 = gl1[c] := by simp [hlt]
    rw [this] at ht1
    simp [ht1]
  · obtain ⟨cs, ⟨_, r2⟩, r3⟩ := hg 2 _ _ (show lkG E.gl 2 = some ⟨.arr 16 (.st (.pair .u8 .u8)), gl2⟩ from by kernel_rfl)
    intro c hc
    have ht := List.all_eq_true.1 acc_tab c (List.mem_range.2 hc)
    simp only [Bool.and_eq_true] at ht
    have ht1 := Nat.eq_of_beq_eq_true ht.1.1
    have ht2 := Nat.eq_of_beq_eq_true ht.1.2
    have ht3 := Nat.eq_of_beq_eq_true ht.2
    have hlt : c < gl2.length := by rw [ht3]; exact hc
    obtain ⟨q1, q2⟩ := rep_pairs r2 c _ (List.getElem?_eq_getElem hlt)
    have : gl2.getD c (0, 0) = gl2[c] := by simp [hlt]
    rw [this] at ht1 ht2
    refine ⟨cell (r3 _ _ (by rw [q1]; unfold n8; rw [ht1])), cell (r3 _ _ (by rw [q2]; unfold n8; rw [ht2]))⟩
theorem khV (N : Nat) : ConOk E ⟨43, [.k (.v .str [])], [.v .bool []], hand_utf8_ValidString N⟩ := by
  intro x r h w K H γ args hEnt
  obtain ⟨hgd, h⟩ := grd_some (show grd (catOk (len x)) (some (Lib.validD x)) = some r from h)
  injection h with h
  subst h
  have hgd : (x.length : Int) ≤ 9223372036854775807 := of_decide_eq_true hgd
  right
  have hs : args.size = 1 := hEnt.size
  have s0 := (hEnt.slots 0 0 (.val (.one (.v .str x))) rfl).2
  have s0 : args.getD 0 undef = .string (bst x) := by simpa [RepSV, RepV, RepCell, RepC] using s0
  have ha : args = #[.string (bst x)] := by
    apply Array.ext
    · simpa using hs
    · intro i h1 h3
      simp at h3
      subst h3
      have : args.getD 0 undef = args[0] := by simp [Array.getD, hs]
      rw [← this, s0]
      rfl
  subst ha
  have hsz : (bst x).size = x.length := bst_size x
  refine ⟨by
    unfold callFunc
    simp only [program, Sem.run_bind, Sem.run, Result.andThen_ok, show E.P.funcs[43]? = some Tryd.f43 from by kernel_rfl]
    rfl, ?_⟩
  have hT := tabsV hEnt.glob hEnt.hp.kok
  refine (Any.utf8_ValidString laysV (bst x) w (by rw [hsz]; omega) hT).mono fun e w' he => ?_
  obtain ⟨rfl, hb⟩ := he
  intro tk _
  refine ⟨γ, obs (W.start [.k (.v .str [])] x), K, [], [], ?_, ⟨rfl, rfl⟩, fun j => by simp, fun i o ho => ?_, fun γ2 _ => rfl⟩
  · have hn : ∀ j, obs (W.start [.k (.v .str [])] x) j = none := fun j => rfl
    refine ⟨hb.os, hb.tape, hb.output, hb.size, fun b hlt _ => ⟨hb.block b hlt, fun _ => rfl⟩, Kn.le.refl K, fun b o v hv => ?_, fun j o g hj => (by rw [hn] at hj; cases hj), fun j o g hj => (by rw [hn] at hj; cases hj), fun i j p q g g' hi => (by rw [hn] at hi; cases hi)⟩
    obtain ⟨cs, ee, fz, h1, h2⟩ := hEnt.hp.kok b o v hv
    exact ⟨cs, ee, fz, by rw [hb.block b (Array.getElem?_eq_some_iff.1 h1).1]; exact h1, h2⟩
  · have ho : ([] : List Ob)[i]? = some o := ho
    simp at ho
end Go.Mo
end

section
/-
  What the functions of the program compute, on plain values. Printed by a program.
-/
namespace Go.Mo
open Go Go.W
noncomputable section
def ps_l23_example : List PK := []
def rs_l23_example : List Kd := [.v (.st (.pair (.int .i64) (.pair (.int .i64) (.pair (.u8) (.pair (.u8) (.pair (.st (.pair (.int .i64) (.pair (.int .i64) (.pair (.int .i64) (.pair (.int .i64) (.bool)))))) (.pair (.st (.pair (.int .i64) (.pair (.int .i64) (.pair (.int .i64) (.pair (.int .i64) (.bool)))))) (.pair (.int .i64) (.pair (.u8) (.pair (.bool) (.slice (.u8)))))))))))) [17]]
def l23_example (N : Nat) (x : Unit) : Option (Int × Int × UInt8 × UInt8 × (Int × Int × Int × Int × Bool) × (Int × Int × Int × Int × Bool) × Int × UInt8 × Bool × List UInt8) :=
  grd (ilt (0 : Int) (len ([65] : List UInt8))) <|
  some ((0 : Int), (258 : Int), (255 : UInt8), (0 : UInt8), ((1 : Int), (2 : Int), (3 : Int), (4 : Int), false), ((1 : Int), (2 : Int), (5 : Int), (0 : Int), false), (13 : Int), (2 : UInt8), false, ([65] : List UInt8))
def ps_tape_timed : List PK := [.k (.v (.st (.pair (.int .i64) (.pair (.int .i64) (.pair (.int .i64) (.pair (.int .i64) (.bool)))))) [])]
def rs_tape_timed : List Kd := [.v (.int .i64) []]
def tape_timed (N : Nat) (x : Int × Int × Int × Int × Bool) : Option (Int) :=
  cnd (ilt x.1 (0 : Int))
    (some (2 : Int))
    (cnd (ilt (23 : Int) x.1)
      (some (2 : Int))
      (cnd (ilt x.2.1 (0 : Int))
        (some (2 : Int))
        (cnd (ilt (59 : Int) x.2.1)
          (some (2 : Int))
          (cnd (ilt x.2.2.1 (0 : Int))
            (some (2 : Int))
            (cnd (ilt (59 : Int) x.2.2.1)
              (some (2 : Int))
              (cnd (ilt x.2.2.2.1 (0 : Int))
                (some (2 : Int))
                (cnd (ilt (29 : Int) x.2.2.2.1)
                  (some (2 : Int))
                  (some (0 : Int)))))))))
def ps_bytealg_IndexByte : List PK := [.k (.v (.slice (.u8)) []), .k (.v (.u8) [])]
def rs_bytealg_IndexByte : List Kd := [.v (.int .i64) []]
def bytealg_IndexByte (N : Nat) (x : List UInt8 × UInt8) : Option (Int) := hand_bytealg_IndexByte N x
def ps_bytes_IndexByte : List PK := [.k (.v (.slice (.u8)) []), .k (.v (.u8) [])]
def rs_bytes_IndexByte : List Kd := [.v (.int .i64) []]
def bytes_IndexByte (N : Nat) (x : List UInt8 × UInt8) : Option (Int) :=
  bnd (bytealg_IndexByte N x) fun v0 =>
  some v0
def ps_tape_Check : List PK := [.k (.v (.st (.pair (.int .i64) (.pair (.int .i64) (.pair (.u8) (.pair (.u8) (.pair (.st (.pair (.int .i64) (.pair (.int .i64) (.pair (.int .i64) (.pair (.int .i64) (.bool)))))) (.pair (.st (.pair (.int .i64) (.pair (.int .i64) (.pair (.int .i64) (.pair (.int .i64) (.bool)))))) (.pair (.int .i64) (.pair (.u8) (.pair (.bool) (.slice (.u8)))))))))))) [])]
def rs_tape_Check : List Kd := [.v (.int .i64) []]
def tape_Check (N : Nat) (x : Int × Int × UInt8 × UInt8 × (Int × Int × Int × Int × Bool) × (Int × Int × Int × Int × Bool) × Int × UInt8 × Bool × List UInt8) : Option (Int) :=
  cnd (ilt x.1 (0 : Int))
    (some (2 : Int))
    (cnd (ilt (255 : Int) x.1)
      (some (2 : Int))
      (cnd (ilt x.2.1 (0 : Int))
        (some (2 : Int))
        (cnd (ilt (65535 : Int) x.2.1)
          (some (2 : Int))
          (jn (fun (v0 : Bool) =>
            cnd v0
              (some (3 : Int))
              (bnd (tape_timed N x.2.2.2.2.1) fun v1 =>
              cnd (ine v1 (0 : Int))
                (some (2 : Int))
                (bnd (tape_timed N x.2.2.2.2.2.1) fun v2 =>
                cnd (ine v2 (0 : Int))
                  (some (2 : Int))
                  (cnd x.2.2.2.2.1.2.2.2.2
                    (some (13 : Int))
                    (cnd x.2.2.2.2.2.1.2.2.2.2
                      (some (13 : Int))
                      (cnd (ilt x.2.2.2.2.2.2.1 (0 : Int))
                        (some (2 : Int))
                        (cnd (ile (15 : Int) x.2.2.2.2.2.2.1)
                          (some (2 : Int))
                          (cnd (ilt (n8 x.2.2.2.2.2.2.2.1) (n8 (1 : UInt8)))
                            (some (3 : Int))
                            (cnd (ilt (n8 (3 : UInt8)) (n8 x.2.2.2.2.2.2.2.1))
                              (some (3 : Int))
                              (cnd (ilt (112 : Int) (len x.2.2.2.2.2.2.2.2.2))
                                (some (9 : Int))
                                (bnd (bytes_IndexByte N (x.2.2.2.2.2.2.2.2.2, (143 : UInt8))) fun v3 =>
                                cnd (ile (0 : Int) v3)
                                  (some (4 : Int))
                                  (some (0 : Int)))))))))))))
          fun v4 =>
          cnd (ile (n8 (240 : UInt8)) (n8 x.2.2.1))
            (cnd (ilt (n8 x.2.2.1) (n8 (255 : UInt8)))
              (v4 true)
              (v4 (ilt (n8 (3 : UInt8)) (n8 x.2.2.2.1))))
            (v4 (ilt (n8 (3 : UInt8)) (n8 x.2.2.2.1)))))))
def ps_bits_Mul32 : List PK := [.k (.v (.int .u32) []), .k (.v (.int .u32) [])]
def rs_bits_Mul32 : List Kd := [.v (.int .u32) [], .v (.int .u32) []]
def bits_Mul32 (N : Nat) (x : Int × Int) : Option (Int × Int) :=
  some (wr .u32 (shrk .u64 (wr .u64 (imul (wr .u64 x.1) (wr .u64 x.2))) (32 : Int)), wr .u32 (wr .u64 (imul (wr .u64 x.1) (wr .u64 x.2))))
def ps_bits_Mul64 : List PK := [.k (.v (.int .u64) []), .k (.v (.int .u64) [])]
def rs_bits_Mul64 : List Kd := [.v (.int .u64) [], .v (.int .u64) []]
def bits_Mul64 (N : Nat) (x : Int × Int) : Option (Int × Int) :=
  some (wr .u64 (iadd (wr .u64 (iadd (wr .u64 (imul (shrk .u64 x.1 (32 : Int)) (shrk .u64 x.2 (32 : Int)))) (shrk .u64 (wr .u64 (iadd (wr .u64 (imul (shrk .u64 x.1 (32 : Int)) (bitb .and .u64 x.2 (4294967295 : Int)))) (shrk .u64 (wr .u64 (imul (bitb .and .u64 x.1 (4294967295 : Int)) (bitb .and .u64 x.2 (4294967295 : Int)))) (32 : Int)))) (32 : Int)))) (shrk .u64 (wr .u64 (iadd (bitb .and .u64 (wr .u64 (iadd (wr .u64 (imul (shrk .u64 x.1 (32 : Int)) (bitb .and .u64 x.2 (4294967295 : Int)))) (shrk .u64 (wr .u64 (imul (bitb .and .u64 x.1 (4294967295 : Int)) (bitb .and .u64 x.2 (4294967295 : Int)))) (32 : Int)))) (4294967295 : Int)) (wr .u64 (imul (bitb .and .u64 x.1 (4294967295 : Int)) (shrk .u64 x.2 (32 : Int)))))) (32 : Int))), wr .u64 (imul x.1 x.2))
def ps_bits_Mul : List PK := [.k (.v (.int .u64) []), .k (.v (.int .u64) [])]
def rs_bits_Mul : List Kd := [.v (.int .u64) [], .v (.int .u64) []]
def bits_Mul (N : Nat) (x : Int × Int) : Option (Int × Int) :=
  bnd (bits_Mul64 N x) fun v0 =>
  some v0
def ps_bytes_Repeat : List PK := [.k (.v (.slice (.u8)) []), .k (.v (.int .i64) [])]
def rs_bytes_Repeat : List Kd := [.v (.slice (.u8)) [0]]
def bytes_Repeat (N : Nat) (x : List UInt8 × Int) : Option (List UInt8) :=
  cnd (ieq x.2 (0 : Int))
    (some ([] : List UInt8))
    (cnd (ilt x.2 (0 : Int))
      none
      (bnd (bits_Mul N (wr .u64 (len x.1), wr .u64 x.2)) fun v0 =>
      cnd (ilt (0 : Int) v0.1)
        none
        (cnd (ilt (9223372036854775807 : Int) v0.2)
          none
          (cnd (ieq (len x.1) (0 : Int))
            (some ([] : List UInt8))
            (jn (fun (v1 : Int) =>
              grd (mkOk (w64 v0.2) (w64 v0.2) 1) <|
              univL (toN (w64 v0.2)) fun v2 =>
              grd (in3 (w64 v0.2) (w64 v0.2) (len v2)) <|
              jn (fun (v3 : List UInt8) =>
                some v3)
              fun v4 =>
              fixN (fun v5 (v6 : Int × List UInt8) =>
                cnd (ilt v6.1 (w64 v0.2))
                  (grd (in2 v6.1 (ofN (nlen v6.2)))
                    (grd (in2 (imin v6.1 v1) (ofN (nlen v6.2)))
                      (v5 (w64 (iadd v6.1 (imin (len (cutl v6.2 0 (toN (imin v6.1 v1)))) (ofN (nsub (nlen v6.2) (toN v6.1))))), putl v6.2 (toN v6.1) (ltake (nsub (nlen v6.2) (toN v6.1)) (cutl v6.2 0 (toN (imin v6.1 v1))))))))
                  (v4 v6.2)) N (imin (len x.1) (len (ltake (toN (w64 v0.2)) v2)), putl (ltake (toN (w64 v0.2)) v2) 0 (ltake (nlen (ltake (toN (w64 v0.2)) v2)) x.1)))
            fun v7 =>
            cnd (ilt (8192 : Int) (w64 v0.2))
              (grd (ine (len x.1) (0 : Int))
                (cnd (ieq (w64 (imul (w64 (idiv (8192 : Int) (len x.1))) (len x.1))) (0 : Int))
                  (v7 (len x.1))
                  (v7 (w64 (imul (w64 (idiv (8192 : Int) (len x.1))) (len x.1))))))
              (v7 (w64 v0.2)))))))
def ps_tape_Put : List PK := [.k (.v (.st (.pair (.int .i64) (.pair (.int .i64) (.pair (.u8) (.pair (.u8) (.pair (.st (.pair (.int .i64) (.pair (.int .i64) (.pair (.int .i64) (.pair (.int .i64) (.bool)))))) (.pair (.st (.pair (.int .i64) (.pair (.int .i64) (.pair (.int .i64) (.pair (.int .i64) (.bool)))))) (.pair (.int .i64) (.pair (.u8) (.pair (.bool) (.slice (.u8)))))))))))) [])]
def rs_tape_Put : List Kd := [.v (.slice (.u8)) [0], .v (.int .i64) []]
def tape_Put (N : Nat) (x : Int × Int × UInt8 × UInt8 × (Int × Int × Int × Int × Bool) × (Int × Int × Int × Int × Bool) × Int × UInt8 × Bool × List UInt8) : Option (List UInt8 × Int) :=
  bnd (tape_Check N x) fun v0 =>
  cnd (ine v0 (0 : Int))
    (some (([] : List UInt8), v0))
    (jn (fun (v1 : UInt8) =>
      grd (room (iadd (len ([b8 x.1, b8 x.2.1, b8 (shrk .i64 x.2.1 (8 : Int)), x.2.2.1, x.2.2.2.1, b8 x.2.2.2.2.1.1, b8 x.2.2.2.2.1.2.1, b8 x.2.2.2.2.1.2.2.1, b8 x.2.2.2.2.1.2.2.2.1, b8 x.2.2.2.2.2.1.1, b8 x.2.2.2.2.2.1.2.1, b8 x.2.2.2.2.2.1.2.2.1, b8 x.2.2.2.2.2.1.2.2.2.1, b8 x.2.2.2.2.2.2.1, x.2.2.2.2.2.2.2.1, v1] : List UInt8)) (len x.2.2.2.2.2.2.2.2.2)) 1) <|
      bnd (bytes_Repeat N (([143] : List UInt8), w64 (isub (128 : Int) (len (lapp ([b8 x.1, b8 x.2.1, b8 (shrk .i64 x.2.1 (8 : Int)), x.2.2.1, x.2.2.2.1, b8 x.2.2.2.2.1.1, b8 x.2.2.2.2.1.2.1, b8 x.2.2.2.2.1.2.2.1, b8 x.2.2.2.2.1.2.2.2.1, b8 x.2.2.2.2.2.1.1, b8 x.2.2.2.2.2.1.2.1, b8 x.2.2.2.2.2.1.2.2.1, b8 x.2.2.2.2.2.1.2.2.2.1, b8 x.2.2.2.2.2.2.1, x.2.2.2.2.2.2.2.1, v1] : List UInt8) x.2.2.2.2.2.2.2.2.2))))) fun v2 =>
      grd (room (iadd (len (lapp ([b8 x.1, b8 x.2.1, b8 (shrk .i64 x.2.1 (8 : Int)), x.2.2.1, x.2.2.2.1, b8 x.2.2.2.2.1.1, b8 x.2.2.2.2.1.2.1, b8 x.2.2.2.2.1.2.2.1, b8 x.2.2.2.2.1.2.2.2.1, b8 x.2.2.2.2.2.1.1, b8 x.2.2.2.2.2.1.2.1, b8 x.2.2.2.2.2.1.2.2.1, b8 x.2.2.2.2.2.1.2.2.2.1, b8 x.2.2.2.2.2.2.1, x.2.2.2.2.2.2.2.1, v1] : List UInt8) x.2.2.2.2.2.2.2.2.2)) (len v2)) 1) <|
      some (lapp (lapp ([b8 x.1, b8 x.2.1, b8 (shrk .i64 x.2.1 (8 : Int)), x.2.2.1, x.2.2.2.1, b8 x.2.2.2.2.1.1, b8 x.2.2.2.2.1.2.1, b8 x.2.2.2.2.1.2.2.1, b8 x.2.2.2.2.1.2.2.2.1, b8 x.2.2.2.2.2.1.1, b8 x.2.2.2.2.2.1.2.1, b8 x.2.2.2.2.2.1.2.2.1, b8 x.2.2.2.2.2.1.2.2.2.1, b8 x.2.2.2.2.2.2.1, x.2.2.2.2.2.2.2.1, v1] : List UInt8) x.2.2.2.2.2.2.2.2.2) v2, (0 : Int)))
    fun v3 =>
    cnd x.2.2.2.2.2.2.2.2.1
      (v3 (1 : UInt8))
      (v3 (0 : UInt8)))
def ps_slices_Equal_Lbyte_byte : List PK := [.k (.v (.slice (.u8)) []), .k (.v (.slice (.u8)) [])]
def rs_slices_Equal_Lbyte_byte : List Kd := [.v (.bool) []]
def slices_Equal_Lbyte_byte (N : Nat) (x : List UInt8 × List UInt8) : Option (Bool) :=
  cnd (ine (len x.1) (len x.2))
    (some false)
    (jn (fun (v0 : Unit) =>
      some true)
    fun v1 =>
    fixN (fun v2 (v3 : Int) =>
      cnd (ilt v3 (len x.1))
        (grd (inb v3 (len x.1))
          (grd (inb v3 (len x.2))
            (cnd (ine (n8 (lget x.1 (toN v3) (0 : UInt8))) (n8 (lget x.2 (toN v3) (0 : UInt8))))
              (some false)
              (v2 (w64 (iadd v3 (1 : Int)))))))
        (v1 ())) N (0 : Int))
def ps_bytes_Clone : List PK := [.k (.v (.slice (.u8)) [])]
def rs_bytes_Clone : List Kd := [.v (.slice (.u8)) [0]]
def bytes_Clone (N : Nat) (x : List UInt8) : Option (List UInt8) :=
  cnd (ine (len x) (0 : Int))
    (grd (room (iadd (len ([] : List UInt8)) (len x)) 1)
      (some (lapp ([] : List UInt8) x)))
    (univ fun v0 =>
    cnd v0
      (some ([] : List UInt8))
      (grd (room (iadd (len ([] : List UInt8)) (len x)) 1)
        (some (lapp ([] : List UInt8) x))))
def ps_tape_Split : List PK := [.k (.v (.st (.pair (.int .i64) (.pair (.int .i64) (.pair (.u8) (.pair (.u8) (.pair (.st (.pair (.int .i64) (.pair (.int .i64) (.pair (.int .i64) (.pair (.int .i64) (.bool)))))) (.pair (.st (.pair (.int .i64) (.pair (.int .i64) (.pair (.int .i64) (.pair (.int .i64) (.bool)))))) (.pair (.int .i64) (.pair (.u8) (.pair (.bool) (.slice (.u8)))))))))))) []), .k (.v (.slice (.u8)) [])]
def rs_tape_Split : List Kd := [.v (.slice (.st (.pair (.int .i64) (.pair (.int .i64) (.pair (.u8) (.pair (.u8) (.pair (.st (.pair (.int .i64) (.pair (.int .i64) (.pair (.int .i64) (.pair (.int .i64) (.bool)))))) (.pair (.st (.pair (.int .i64) (.pair (.int .i64) (.pair (.int .i64) (.pair (.int .i64) (.bool)))))) (.pair (.int .i64) (.pair (.u8) (.pair (.bool) (.slice (.u8))))))))))))) [0], .v (.int .i64) []]
def tape_Split (N : Nat) (x : (Int × Int × UInt8 × UInt8 × (Int × Int × Int × Int × Bool) × (Int × Int × Int × Int × Bool) × Int × UInt8 × Bool × List UInt8) × List UInt8) : Option ((List (Int × Int × UInt8 × UInt8 × (Int × Int × Int × Int × Bool) × (Int × Int × Int × Int × Bool) × Int × UInt8 × Bool × List UInt8)) × Int) :=
  bnd (tape_Check N (x.1.1, x.1.2.1, (0 : UInt8), x.1.2.2.2.1, x.1.2.2.2.2.1, x.1.2.2.2.2.2.1, x.1.2.2.2.2.2.2.1, x.1.2.2.2.2.2.2.2.1, x.1.2.2.2.2.2.2.2.2.1, ([] : List UInt8))) fun v0 =>
  cnd (ine v0 (0 : Int))
    (some (([] : List (Int × Int × UInt8 × UInt8 × (Int × Int × Int × Int × Bool) × (Int × Int × Int × Int × Bool) × Int × UInt8 × Bool × List UInt8)), v0))
    (cnd (ilt (241 : Int) (imax (1 : Int) (w64 (idiv (w64 (isub (w64 (iadd (len x.2) (112 : Int))) (1 : Int))) (112 : Int)))))
      (some (([] : List (Int × Int × UInt8 × UInt8 × (Int × Int × Int × Int × Bool) × (Int × Int × Int × Int × Bool) × Int × UInt8 × Bool × List UInt8)), (9 : Int)))
      (bnd (bytes_IndexByte N (x.2, (143 : UInt8))) fun v1 =>
      cnd (ile (0 : Int) v1)
        (some (([] : List (Int × Int × UInt8 × UInt8 × (Int × Int × Int × Int × Bool) × (Int × Int × Int × Int × Bool) × Int × UInt8 × Bool × List UInt8)), (4 : Int)))
        (jn (fun (v2 : List (Int × Int × UInt8 × UInt8 × (Int × Int × Int × Int × Bool) × (Int × Int × Int × Int × Bool) × Int × UInt8 × Bool × List UInt8)) =>
          some (v2, (0 : Int)))
        fun v3 =>
        fixN (fun v4 (v5 : (List (Int × Int × UInt8 × UInt8 × (Int × Int × Int × Int × Bool) × (Int × Int × Int × Int × Bool) × Int × UInt8 × Bool × List UInt8)) × Int) =>
          cnd (ilt v5.2 (imax (1 : Int) (w64 (idiv (w64 (isub (w64 (iadd (len x.2) (112 : Int))) (1 : Int))) (112 : Int)))))
            (jn (fun (v6 : Int × Int × UInt8 × UInt8 × (Int × Int × Int × Int × Bool) × (Int × Int × Int × Int × Bool) × Int × UInt8 × Bool × List UInt8) =>
              grd (in3 (w64 (imul v5.2 (112 : Int))) (imin (len x.2) (w64 (imul (w64 (iadd v5.2 (1 : Int))) (112 : Int)))) (len x.2)) <|
              bnd (bytes_Clone N (ldrop (toN (w64 (imul v5.2 (112 : Int)))) (ltake (toN (imin (len x.2) (w64 (imul (w64 (iadd v5.2 (1 : Int))) (112 : Int))))) x.2))) fun v7 =>
              grd (room (iadd (len v5.1) (len ([(v6.1, v6.2.1, v6.2.2.1, v6.2.2.2.1, v6.2.2.2.2.1, v6.2.2.2.2.2.1, v6.2.2.2.2.2.2.1, v6.2.2.2.2.2.2.2.1, v6.2.2.2.2.2.2.2.2.1, v7)] : List (Int × Int × UInt8 × UInt8 × (Int × Int × Int × Int × Bool) × (Int × Int × Int × Int × Bool) × Int × UInt8 × Bool × List UInt8)))) 144) <|
              v4 (lapp v5.1 ([(v6.1, v6.2.1, v6.2.2.1, v6.2.2.2.1, v6.2.2.2.2.1, v6.2.2.2.2.2.1, v6.2.2.2.2.2.2.1, v6.2.2.2.2.2.2.2.1, v6.2.2.2.2.2.2.2.2.1, v7)] : List (Int × Int × UInt8 × UInt8 × (Int × Int × Int × Int × Bool) × (Int × Int × Int × Int × Bool) × Int × UInt8 × Bool × List UInt8)), w64 (iadd v5.2 (1 : Int))))
            fun v8 =>
            cnd (ieq v5.2 (w64 (isub (imax (1 : Int) (w64 (idiv (w64 (isub (w64 (iadd (len x.2) (112 : Int))) (1 : Int))) (112 : Int)))) (1 : Int))))
              (v8 (x.1.1, x.1.2.1, (255 : UInt8), x.1.2.2.2.1, x.1.2.2.2.2.1, x.1.2.2.2.2.2.1, x.1.2.2.2.2.2.2.1, x.1.2.2.2.2.2.2.2.1, x.1.2.2.2.2.2.2.2.2.1, ([] : List UInt8)))
              (v8 (x.1.1, x.1.2.1, b8 v5.2, x.1.2.2.2.1, x.1.2.2.2.2.1, x.1.2.2.2.2.2.1, x.1.2.2.2.2.2.2.1, x.1.2.2.2.2.2.2.2.1, x.1.2.2.2.2.2.2.2.2.1, ([] : List UInt8))))
            (v3 v5.1)) N (([] : List (Int × Int × UInt8 × UInt8 × (Int × Int × Int × Int × Bool) × (Int × Int × Int × Int × Bool) × Int × UInt8 × Bool × List UInt8)), (0 : Int)))))
def ps_l23_awake : List PK := []
def rs_l23_awake : List Kd := [.v (.bool) []]
def l23_awake (N : Nat) (x : Unit) : Option (Bool) :=
  bnd (l23_example N ()) fun v0 =>
  bnd (tape_Put N v0) fun v1 =>
  cnd (ine v1.2 (0 : Int))
    (some false)
    (cnd (ine (len v1.1) (128 : Int))
      (some false)
      (grd (in2 (17 : Int) (ofN (nlen v1.1)))
        (bnd (slices_Equal_Lbyte_byte N (cutl v1.1 0 (toN (17 : Int)), ([0, 2, 1, 255, 0, 1, 2, 3, 4, 1, 2, 5, 0, 13, 2, 0, 65] : List UInt8))) fun v2 =>
        cnd (bnot v2)
          (some false)
          (grd (inb (17 : Int) (len v1.1))
            (cnd (ine (n8 (lget v1.1 (toN (17 : Int)) (0 : UInt8))) (n8 (143 : UInt8)))
              (some false)
              (grd (inb (127 : Int) (len v1.1))
                (cnd (ine (n8 (lget v1.1 (toN (127 : Int)) (0 : UInt8))) (n8 (143 : UInt8)))
                  (some false)
                  (bnd (l23_example N ()) fun v3 =>
                  grd (mkOk (113 : Int) (113 : Int) 1) <|
                  bnd (tape_Split N (v3, lrep (toN (113 : Int)) (0 : UInt8))) fun v4 =>
                  cnd (ieq v4.2 (0 : Int))
                    (cnd (ieq (len v4.1) (2 : Int))
                      (grd (inb (0 : Int) (len v4.1))
                        (cnd (ieq (n8 (lget v4.1 (toN (0 : Int)) ((0 : Int), ((0 : Int), ((0 : UInt8), ((0 : UInt8), (((0 : Int), ((0 : Int), ((0 : Int), ((0 : Int), false)))), (((0 : Int), ((0 : Int), ((0 : Int), ((0 : Int), false)))), ((0 : Int), ((0 : UInt8), (false, [])))))))))).2.2.1) (n8 (0 : UInt8)))
                          (grd (inb (1 : Int) (len v4.1))
                            (cnd (ieq (n8 (lget v4.1 (toN (1 : Int)) ((0 : Int), ((0 : Int), ((0 : UInt8), ((0 : UInt8), (((0 : Int), ((0 : Int), ((0 : Int), ((0 : Int), false)))), (((0 : Int), ((0 : Int), ((0 : Int), ((0 : Int), false)))), ((0 : Int), ((0 : UInt8), (false, [])))))))))).2.2.1) (n8 (255 : UInt8)))
                              (grd (inb (0 : Int) (len v4.1))
                                (cnd (ieq (len (lget v4.1 (toN (0 : Int)) ((0 : Int), ((0 : Int), ((0 : UInt8), ((0 : UInt8), (((0 : Int), ((0 : Int), ((0 : Int), ((0 : Int), false)))), (((0 : Int), ((0 : Int), ((0 : Int), ((0 : Int), false)))), ((0 : Int), ((0 : UInt8), (false, [])))))))))).2.2.2.2.2.2.2.2.2) (112 : Int))
                                  (grd (inb (1 : Int) (len v4.1))
                                    (some (ieq (len (lget v4.1 (toN (1 : Int)) ((0 : Int), ((0 : Int), ((0 : UInt8), ((0 : UInt8), (((0 : Int), ((0 : Int), ((0 : Int), ((0 : Int), false)))), (((0 : Int), ((0 : Int), ((0 : Int), ((0 : Int), false)))), ((0 : Int), ((0 : UInt8), (false, [])))))))))).2.2.2.2.2.2.2.2.2) (1 : Int))))
                                  (some false)))
                              (some false)))
                          (some false)))
                      (some false))
                    (some false)))))))))
def ps_lines_Name : List PK := [.k (.v (.str) [])]
def rs_lines_Name : List Kd := [.v (.bool) []]
def lines_Name (N : Nat) (x : List UInt8) : Option (Bool) :=
  cnd (ilt (len x) (1 : Int))
    (some false)
    (cnd (ilt (16 : Int) (len x))
      (some false)
      (grd (inb (0 : Int) (len x))
        (cnd (ilt (n8 (lget x (toN (0 : Int)) (0 : UInt8))) (n8 (65 : UInt8)))
          (some false)
          (grd (inb (0 : Int) (len x))
            (cnd (ilt (n8 (90 : UInt8)) (n8 (lget x (toN (0 : Int)) (0 : UInt8))))
              (some false)
              (jn (fun (v0 : Unit) =>
                some true)
              fun v1 =>
              fixN (fun v2 (v3 : Int) =>
                cnd (ilt v3 (len x))
                  (jn (fun (v4 : Unit) =>
                    v2 (w64 (iadd v3 (1 : Int))))
                  fun v5 =>
                  grd (inb v3 (len x)) <|
                  cnd (ilt (n8 (lget x (toN v3) (0 : UInt8))) (n8 (65 : UInt8)))
                    (cnd (ilt (n8 (lget x (toN v3) (0 : UInt8))) (n8 (48 : UInt8)))
                      (cnd (ine (n8 (lget x (toN v3) (0 : UInt8))) (n8 (95 : UInt8)))
                        (cnd (ine (n8 (lget x (toN v3) (0 : UInt8))) (n8 (45 : UInt8)))
                          (some false)
                          (v5 ()))
                        (v5 ()))
                      (cnd (ilt (n8 (57 : UInt8)) (n8 (lget x (toN v3) (0 : UInt8))))
                        (cnd (ine (n8 (lget x (toN v3) (0 : UInt8))) (n8 (95 : UInt8)))
                          (cnd (ine (n8 (lget x (toN v3) (0 : UInt8))) (n8 (45 : UInt8)))
                            (some false)
                            (v5 ()))
                          (v5 ()))
                        (v5 ())))
                    (cnd (ilt (n8 (90 : UInt8)) (n8 (lget x (toN v3) (0 : UInt8))))
                      (cnd (ilt (n8 (lget x (toN v3) (0 : UInt8))) (n8 (48 : UInt8)))
                        (cnd (ine (n8 (lget x (toN v3) (0 : UInt8))) (n8 (95 : UInt8)))
                          (cnd (ine (n8 (lget x (toN v3) (0 : UInt8))) (n8 (45 : UInt8)))
                            (some false)
                            (v5 ()))
                          (v5 ()))
                        (cnd (ilt (n8 (57 : UInt8)) (n8 (lget x (toN v3) (0 : UInt8))))
                          (cnd (ine (n8 (lget x (toN v3) (0 : UInt8))) (n8 (95 : UInt8)))
                            (cnd (ine (n8 (lget x (toN v3) (0 : UInt8))) (n8 (45 : UInt8)))
                              (some false)
                              (v5 ()))
                            (v5 ()))
                          (v5 ())))
                      (v5 ())))
                  (v1 ())) N (0 : Int)))))))
def ps_utf8_word_string : List PK := [.k (.v (.str) [])]
def rs_utf8_word_string : List Kd := [.v (.int .u64) []]
def utf8_word_string (N : Nat) (x : List UInt8) : Option (Int) :=
  grd (inb (0 : Int) (len x)) <|
  grd (inb (1 : Int) (len x)) <|
  grd (inb (2 : Int) (len x)) <|
  grd (inb (3 : Int) (len x)) <|
  grd (inb (4 : Int) (len x)) <|
  grd (inb (5 : Int) (len x)) <|
  grd (inb (6 : Int) (len x)) <|
  grd (inb (7 : Int) (len x)) <|
  some (bitb .or .u64 (bitb .or .u64 (bitb .or .u64 (bitb .or .u64 (bitb .or .u64 (bitb .or .u64 (bitb .or .u64 (wr .u64 (n8 (lget x (toN (0 : Int)) (0 : UInt8)))) (wr .u64 (shlk .u64 (wr .u64 (n8 (lget x (toN (1 : Int)) (0 : UInt8)))) (8 : Int)))) (wr .u64 (shlk .u64 (wr .u64 (n8 (lget x (toN (2 : Int)) (0 : UInt8)))) (16 : Int)))) (wr .u64 (shlk .u64 (wr .u64 (n8 (lget x (toN (3 : Int)) (0 : UInt8)))) (24 : Int)))) (wr .u64 (shlk .u64 (wr .u64 (n8 (lget x (toN (4 : Int)) (0 : UInt8)))) (32 : Int)))) (wr .u64 (shlk .u64 (wr .u64 (n8 (lget x (toN (5 : Int)) (0 : UInt8)))) (40 : Int)))) (wr .u64 (shlk .u64 (wr .u64 (n8 (lget x (toN (6 : Int)) (0 : UInt8)))) (48 : Int)))) (wr .u64 (shlk .u64 (wr .u64 (n8 (lget x (toN (7 : Int)) (0 : UInt8)))) (56 : Int))))
def ps_utf8_ValidString : List PK := [.k (.v (.str) [])]
def rs_utf8_ValidString : List Kd := [.v (.bool) []]
def utf8_ValidString (N : Nat) (x : List UInt8) : Option (Bool) := hand_utf8_ValidString N x
def ps_charset_place : List PK := [.k (.v (.str) []), .k (.v (.int .i32) [])]
def rs_charset_place : List Kd := [.v (.int .i64) []]
def charset_place (N : Nat) (x : List UInt8 × Int) : Option (Int) :=
  jn (fun (v0 : Unit) =>
    some (-1 : Int))
  fun v1 =>
  fixN (fun v2 (v3 : Int × (List UInt8) × Int) =>
    cnd (nlt (toN v3.2.2) (nlen v3.2.1))
      (cnd (ieq (decR v3.2.1 (toN v3.2.2)) x.2)
        (some v3.1)
        (v2 (w64 (iadd v3.1 (1 : Int)), v3.2.1, ofN (nadd (toN v3.2.2) (decW v3.2.1 (toN v3.2.2))))))
      (v1 ())) N ((0 : Int), x.1, ofN 0)
def ps_charset_Index : List PK := [.k (.v (.int .i32) [])]
def rs_charset_Index : List Kd := [.v (.int .i64) []]
def charset_Index (N : Nat) (x : Int) : Option (Int) :=
  cnd (ile (32 : Int) x)
    (cnd (ile x (126 : Int))
      (some (w64 (wr .i32 (isub x (32 : Int)))))
      (bnd (charset_place N (([32, 33, 34, 35, 36, 37, 38, 39, 40, 41, 42, 43, 44, 45, 46, 47, 48, 49, 50, 51, 52, 53, 54, 55, 56, 57, 58, 59, 60, 61, 62, 63, 64, 65, 66, 67, 68, 69, 70, 71, 72, 73, 74, 75, 76, 77, 78, 79, 80, 81, 82, 83, 84, 85, 86, 87, 88, 89, 90, 91, 92, 93, 94, 95, 96, 97, 98, 99, 100, 101, 102, 103, 104, 105, 106, 107, 108, 109, 110, 111, 112, 113, 114, 115, 116, 117, 118, 119, 120, 121, 122, 123, 124, 125, 126, 194, 161, 194, 162, 194, 163, 194, 164, 194, 165, 194, 166, 194, 167, 194, 169, 194, 171, 194, 174, 194, 176, 194, 183, 194, 187, 194, 189, 194, 191, 195, 128, 195, 129, 195, 130, 195, 131, 195, 132, 195, 133, 195, 134, 195, 135, 195, 136, 195, 137, 195, 138, 195, 139, 195, 140, 195, 141, 195, 142, 195, 143, 195, 145, 195, 146, 195, 147, 195, 148, 195, 149, 195, 150, 195, 152, 195, 153, 195, 154, 195, 155, 195, 156, 195, 159, 195, 160, 195, 161, 195, 162, 195, 163, 195, 164, 195, 165, 195, 166, 195, 167, 195, 168, 195, 169, 195, 170, 195, 171, 195, 172, 195, 173, 195, 174, 195, 175, 195, 177, 195, 178, 195, 179, 195, 180, 195, 181, 195, 182, 195, 184, 195, 185, 195, 186, 195, 187, 195, 188, 197, 146, 197, 147, 226, 128, 148, 226, 128, 152, 226, 128, 153, 226, 128, 156, 226, 128, 157, 226, 128, 162, 226, 128, 166, 226, 132, 162, 226, 153, 170] : List UInt8), x)) fun v0 =>
      some v0))
    (bnd (charset_place N (([32, 33, 34, 35, 36, 37, 38, 39, 40, 41, 42, 43, 44, 45, 46, 47, 48, 49, 50, 51, 52, 53, 54, 55, 56, 57, 58, 59, 60, 61, 62, 63, 64, 65, 66, 67, 68, 69, 70, 71, 72, 73, 74, 75, 76, 77, 78, 79, 80, 81, 82, 83, 84, 85, 86, 87, 88, 89, 90, 91, 92, 93, 94, 95, 96, 97, 98, 99, 100, 101, 102, 103, 104, 105, 106, 107, 108, 109, 110, 111, 112, 113, 114, 115, 116, 117, 118, 119, 120, 121, 122, 123, 124, 125, 126, 194, 161, 194, 162, 194, 163, 194, 164, 194, 165, 194, 166, 194, 167, 194, 169, 194, 171, 194, 174, 194, 176, 194, 183, 194, 187, 194, 189, 194, 191, 195, 128, 195, 129, 195, 130, 195, 131, 195, 132, 195, 133, 195, 134, 195, 135, 195, 136, 195, 137, 195, 138, 195, 139, 195, 140, 195, 141, 195, 142, 195, 143, 195, 145, 195, 146, 195, 147, 195, 148, 195, 149, 195, 150, 195, 152, 195, 153, 195, 154, 195, 155, 195, 156, 195, 159, 195, 160, 195, 161, 195, 162, 195, 163, 195, 164, 195, 165, 195, 166, 195, 167, 195, 168, 195, 169, 195, 170, 195, 171, 195, 172, 195, 173, 195, 174, 195, 175, 195, 177, 195, 178, 195, 179, 195, 180, 195, 181, 195, 182, 195, 184, 195, 185, 195, 186, 195, 187, 195, 188, 197, 146, 197, 147, 226, 128, 148, 226, 128, 152, 226, 128, 153, 226, 128, 156, 226, 128, 157, 226, 128, 162, 226, 128, 166, 226, 132, 162, 226, 153, 170] : List UInt8), x)) fun v1 =>
    some v1)
def ps_charset_Valid : List PK := [.k (.v (.str) [])]
def rs_charset_Valid : List Kd := [.v (.bool) []]
def charset_Valid (N : Nat) (x : List UInt8) : Option (Bool) :=
  bnd (utf8_ValidString N x) fun v0 =>
  cnd (bnot v0)
    (some false)
    (jn (fun (v1 : Unit) =>
      some true)
    fun v2 =>
    fixN (fun v3 (v4 : (List UInt8) × Int) =>
      cnd (nlt (toN v4.2) (nlen v4.1))
        (bnd (charset_Index N (decR v4.1 (toN v4.2))) fun v5 =>
        cnd (ilt v5 (0 : Int))
          (some false)
          (v3 (v4.1, ofN (nadd (toN v4.2) (decW v4.1 (toN v4.2))))))
        (v2 ())) N (x, ofN 0))
def ps_timebase_of : List PK := [.k (.v (.u8) [])]
def rs_timebase_of : List Kd := [.v (.st (.pair (.str) (.pair (.int .i64) (.pair (.int .i64) (.bool))))) []]
def timebase_of (N : Nat) (x : UInt8) : Option ((List UInt8) × Int × Int × Bool) :=
  grd (ieq (len (lrep 8 (([] : List UInt8), (0 : Int), (0 : Int), false))) (ofN 8)) <|
  cnd (ile (8 : Int) (w64 (n8 x)))
    (some (([] : List UInt8), (0 : Int), (0 : Int), false))
    (grd (inb (n8 x) (ofN 8))
      (grd (ilt (n8 x) (len ([(([] : List UInt8), (0 : Int), (0 : Int), false), (([50, 51, 46, 57, 55, 54] : List UInt8), (5005 : Int), (24 : Int), false), (([50, 52] : List UInt8), (5000 : Int), (24 : Int), false), (([50, 53] : List UInt8), (4800 : Int), (25 : Int), false), (([50, 57, 46, 57, 55] : List UInt8), (4004 : Int), (30 : Int), true), (([51, 48] : List UInt8), (4000 : Int), (30 : Int), false), (([53, 48] : List UInt8), (2400 : Int), (50 : Int), false), (([53, 57, 46, 57, 52] : List UInt8), (2002 : Int), (60 : Int), true)] : List ((List UInt8) × Int × Int × Bool))))
        (some (lget ([(([] : List UInt8), (0 : Int), (0 : Int), false), (([50, 51, 46, 57, 55, 54] : List UInt8), (5005 : Int), (24 : Int), false), (([50, 52] : List UInt8), (5000 : Int), (24 : Int), false), (([50, 53] : List UInt8), (4800 : Int), (25 : Int), false), (([50, 57, 46, 57, 55] : List UInt8), (4004 : Int), (30 : Int), true), (([51, 48] : List UInt8), (4000 : Int), (30 : Int), false), (([53, 48] : List UInt8), (2400 : Int), (50 : Int), false), (([53, 57, 46, 57, 52] : List UInt8), (2002 : Int), (60 : Int), true)] : List ((List UInt8) × Int × Int × Bool)) (toN (n8 x)) ([], ((0 : Int), ((0 : Int), false)))))))
def ps_timebase_Valid : List PK := [.k (.v (.u8) [])]
def rs_timebase_Valid : List Kd := [.v (.bool) []]
def timebase_Valid (N : Nat) (x : UInt8) : Option (Bool) :=
  bnd (timebase_of N x) fun v0 =>
  some (ilt (0 : Int) v0.2.1)
def ps_timebase_CanDrop : List PK := [.k (.v (.u8) [])]
def rs_timebase_CanDrop : List Kd := [.v (.bool) []]
def timebase_CanDrop (N : Nat) (x : UInt8) : Option (Bool) :=
  bnd (timebase_of N x) fun v0 =>
  some v0.2.2.2
def ps_timecode_rateError : List PK := [.k (.v (.u8) []), .k (.v (.bool) [])]
def rs_timecode_rateError : List Kd := [.v (.int .i64) []]
def timecode_rateError (N : Nat) (x : UInt8 × Bool) : Option (Int) :=
  bnd (timebase_Valid N x.1) fun v0 =>
  cnd (bnot v0)
    (some (3 : Int))
    (cnd x.2
      (bnd (timebase_CanDrop N x.1) fun v1 =>
      cnd (bnot v1)
        (some (13 : Int))
        (some (0 : Int)))
      (some (0 : Int)))
def ps_timebase_Nominal : List PK := [.k (.v (.u8) [])]
def rs_timebase_Nominal : List Kd := [.v (.int .i64) []]
def timebase_Nominal (N : Nat) (x : UInt8) : Option (Int) :=
  bnd (timebase_of N x) fun v0 =>
  some v0.2.2.1
def ps_timecode_dropped : List PK := [.k (.v (.u8) []), .k (.v (.bool) [])]
def rs_timecode_dropped : List Kd := [.v (.int .i64) []]
def timecode_dropped (N : Nat) (x : UInt8 × Bool) : Option (Int) :=
  cnd (bnot x.2)
    (some (0 : Int))
    (cnd (ieq (n8 x.1) (n8 (7 : UInt8)))
      (some (4 : Int))
      (some (2 : Int)))
def ps_timecode_Check : List PK := [.k (.v (.u8) []), .k (.v (.st (.pair (.int .i64) (.pair (.int .i64) (.pair (.int .i64) (.pair (.int .i64) (.bool)))))) [])]
def rs_timecode_Check : List Kd := [.v (.int .i64) []]
def timecode_Check (N : Nat) (x : UInt8 × Int × Int × Int × Int × Bool) : Option (Int) :=
  bnd (timecode_rateError N (x.1, x.2.2.2.2.2)) fun v0 =>
  cnd (ine v0 (0 : Int))
    (some v0)
    (cnd (ilt x.2.1 (0 : Int))
      (some (2 : Int))
      (cnd (ilt (23 : Int) x.2.1)
        (some (2 : Int))
        (cnd (ilt x.2.2.1 (0 : Int))
          (some (2 : Int))
          (cnd (ilt (59 : Int) x.2.2.1)
            (some (2 : Int))
            (cnd (ilt x.2.2.2.1 (0 : Int))
              (some (2 : Int))
              (cnd (ilt (59 : Int) x.2.2.2.1)
                (some (2 : Int))
                (cnd (ilt x.2.2.2.2.1 (0 : Int))
                  (some (2 : Int))
                  (bnd (timebase_Nominal N x.1) fun v1 =>
                  cnd (ile v1 x.2.2.2.2.1)
                    (some (2 : Int))
                    (cnd (ieq x.2.2.2.1 (0 : Int))
                      (cnd (ine (imod x.2.2.1 (10 : Int)) (0 : Int))
                        (bnd (timecode_dropped N (x.1, x.2.2.2.2.2)) fun v2 =>
                        cnd (ilt x.2.2.2.2.1 v2)
                          (some (6 : Int))
                          (some (0 : Int)))
                        (some (0 : Int)))
                      (some (0 : Int)))))))))))
def ps_tape_CheckHeader : List PK := [.k (.v (.st (.pair (.u8) (.pair (.str) (.pair (.str) (.pair (.int .i64) (.pair (.int .i64) (.pair (.st (.pair (.int .i64) (.pair (.int .i64) (.pair (.int .i64) (.pair (.int .i64) (.bool)))))) (.pair (.st (.pair (.int .i64) (.pair (.int .i64) (.pair (.int .i64) (.pair (.int .i64) (.bool)))))) (.pair (.int .i64) (.int .i64)))))))))) [])]
def rs_tape_CheckHeader : List Kd := [.v (.int .i64) []]
def tape_CheckHeader (N : Nat) (x : UInt8 × (List UInt8) × (List UInt8) × Int × Int × (Int × Int × Int × Int × Bool) × (Int × Int × Int × Int × Bool) × Int × Int) : Option (Int) :=
  jn (fun (v0 : Bool) =>
    cnd v0
      (some (13 : Int))
      (jn (fun (v1 : Bool) =>
        cnd v1
          (some (5 : Int))
          (bnd (charset_Valid N x.2.2.1) fun v2 =>
          cnd (bnot v2)
            (some (10 : Int))
            (cnd (ilt (400 : Int) (len x.2.2.1))
              (some (9 : Int))
              (cnd (ilt x.2.2.2.1 (0 : Int))
                (some (2 : Int))
                (cnd (ilt (99999 : Int) x.2.2.2.1)
                  (some (2 : Int))
                  (cnd (ilt x.2.2.2.2.1 (0 : Int))
                    (some (2 : Int))
                    (cnd (ilt (99999 : Int) x.2.2.2.2.1)
                      (some (2 : Int))
                      (cnd (ilt x.2.2.2.2.2.2.2.1 (0 : Int))
                        (some (2 : Int))
                        (cnd (ilt (99 : Int) x.2.2.2.2.2.2.2.1)
                          (some (2 : Int))
                          (cnd (ilt x.2.2.2.2.2.2.2.2 (0 : Int))
                            (some (2 : Int))
                            (cnd (ilt (99 : Int) x.2.2.2.2.2.2.2.2)
                              (some (2 : Int))
                              (cnd (ilt x.2.2.2.1 x.2.2.2.2.1)
                                (some (8 : Int))
                                (jn (fun (v3 : Unit) =>
                                  cnd x.2.2.2.2.2.1.2.2.2.2
                                    (some (13 : Int))
                                    (cnd x.2.2.2.2.2.2.1.2.2.2.2
                                      (some (13 : Int))
                                      (some (0 : Int))))
                                fun v4 =>
                                fixN (fun v5 (v6 : Int) =>
                                  cnd (ilt v6 (2 : Int))
                                    (grd (inb v6 (ofN 2))
                                      (bnd (timecode_Check N (x.1, lget ([x.2.2.2.2.2.1, x.2.2.2.2.2.2.1] : List (Int × Int × Int × Int × Bool)) (toN v6) ((0 : Int), ((0 : Int), ((0 : Int), ((0 : Int), false)))))) fun v7 =>
                                      cnd (ine v7 (0 : Int))
                                        (some v7)
                                        (v5 (w64 (iadd v6 (1 : Int))))))
                                    (v4 ())) N (0 : Int))))))))))))))
      fun v8 =>
      cnd (sne x.2.1 ([] : List UInt8))
        (bnd (lines_Name N x.2.1) fun v9 =>
        v8 (bnot v9))
        (v8 false)))
  fun v10 =>
  cnd (ine (n8 x.1) (n8 (3 : UInt8)))
    (v10 (ine (n8 x.1) (n8 (5 : UInt8))))
    (v10 false)
def ps_latin_Carries : List PK := [.k (.v (.int .i32) [])]
def rs_latin_Carries : List Kd := [.v (.bool) []]
def latin_Carries (N : Nat) (x : Int) : Option (Bool) :=
  bnd (charset_Index N x) fun v0 =>
  some (ile (0 : Int) v0)
def ps_latin_accented : List PK := [.k (.v (.u8) [])]
def rs_latin_accented : List Kd := [.v (.str) []]
def latin_accented (N : Nat) (x : UInt8) : Option (List UInt8) :=
  cnd (ieq (n8 x) (n8 (193 : UInt8)))
    (some ([195, 128, 195, 136, 195, 140, 195, 146, 195, 153] : List UInt8))
    (cnd (ieq (n8 x) (n8 (194 : UInt8)))
      (some ([195, 129, 195, 137, 195, 141, 195, 147, 195, 154] : List UInt8))
      (cnd (ieq (n8 x) (n8 (195 : UInt8)))
        (some ([195, 130, 195, 138, 195, 142, 195, 148, 195, 155] : List UInt8))
        (cnd (ieq (n8 x) (n8 (196 : UInt8)))
          (some ([195, 131, 195, 145, 195, 149] : List UInt8))
          (cnd (ieq (n8 x) (n8 (200 : UInt8)))
            (some ([195, 132, 195, 139, 195, 143, 195, 150, 195, 156] : List UInt8))
            (cnd (ieq (n8 x) (n8 (202 : UInt8)))
              (some ([195, 133] : List UInt8))
              (cnd (ieq (n8 x) (n8 (203 : UInt8)))
                (some ([195, 135] : List UInt8))
                (some ([] : List UInt8))))))))
def ps_charset_Upper : List PK := [.k (.v (.int .i32) [])]
def rs_charset_Upper : List Kd := [.v (.int .i32) []]
def charset_Upper (N : Nat) (x : Int) : Option (Int) :=
  bnd (charset_Index N x) fun v0 =>
  cnd (ilt v0 (0 : Int))
    (some (0 : Int))
    (jn (fun (v1 : Bool) =>
      cnd v1
        (some (wr .i32 (isub x (32 : Int))))
        (cnd (ieq x (339 : Int))
          (some (338 : Int))
          (some x)))
    fun v2 =>
    cnd (ile (97 : Int) x)
      (cnd (ile x (122 : Int))
        (v2 (ile x (122 : Int)))
        (cnd (ile (224 : Int) x)
          (v2 (ile x (255 : Int)))
          (v2 false)))
      (cnd (ile (224 : Int) x)
        (v2 (ile x (255 : Int)))
        (v2 false)))
def ps_bytealg_IndexByteString : List PK := [.k (.v (.str) []), .k (.v (.u8) [])]
def rs_bytealg_IndexByteString : List Kd := [.v (.int .i64) []]
def bytealg_IndexByteString (N : Nat) (x : List UInt8 × UInt8) : Option (Int) := hand_bytealg_IndexByteString N x
def ps_stringslite_IndexByte : List PK := [.k (.v (.str) []), .k (.v (.u8) [])]
def rs_stringslite_IndexByte : List Kd := [.v (.int .i64) []]
def stringslite_IndexByte (N : Nat) (x : List UInt8 × UInt8) : Option (Int) :=
  bnd (bytealg_IndexByteString N x) fun v0 =>
  some v0
def ps_strings_IndexByte : List PK := [.k (.v (.str) []), .k (.v (.u8) [])]
def rs_strings_IndexByte : List Kd := [.v (.int .i64) []]
def strings_IndexByte (N : Nat) (x : List UInt8 × UInt8) : Option (Int) :=
  bnd (stringslite_IndexByte N x) fun v0 =>
  some v0
def ps_utf8_ValidRune : List PK := [.k (.v (.int .i32) [])]
def rs_utf8_ValidRune : List Kd := [.v (.bool) []]
def utf8_ValidRune (N : Nat) (x : Int) : Option (Bool) :=
  cnd (ile (0 : Int) x)
    (cnd (ilt x (55296 : Int))
      (some true)
      (cnd (ilt (57343 : Int) x)
        (cnd (ile x (1114111 : Int))
          (some true)
          (some false))
        (some false)))
    (cnd (ilt (57343 : Int) x)
      (cnd (ile x (1114111 : Int))
        (some true)
        (some false))
      (some false))
def ps_bytealg_Cutover : List PK := [.k (.v (.int .i64) [])]
def rs_bytealg_Cutover : List Kd := [.v (.int .i64) []]
def bytealg_Cutover (N : Nat) (x : Int) : Option (Int) :=
  some (w64 (idiv (w64 (iadd x (16 : Int))) (8 : Int)))
def ps_strings_IndexRune : List PK := [.k (.v (.str) []), .k (.v (.int .i32) [])]
def rs_strings_IndexRune : List Kd := [.v (.int .i64) []]
def strings_IndexRune (N : Nat) (x : List UInt8 × Int) : Option (Int) :=
  jn (fun (v0 : Bool) =>
    cnd v0
      (bnd (strings_IndexByte N (x.1, b8 x.2)) fun v1 =>
      some v1)
      (cnd (ieq x.2 (65533 : Int))
        (jn (fun (v2 : Unit) =>
          some (-1 : Int))
        fun v3 =>
        fixN (fun v4 (v5 : (List UInt8) × Int) =>
          cnd (nlt (toN v5.2) (nlen v5.1))
            (cnd (ieq (decR v5.1 (toN v5.2)) (65533 : Int))
              (some (ofN (toN v5.2)))
              (v4 (v5.1, ofN (nadd (toN v5.2) (decW v5.1 (toN v5.2))))))
            (v3 ())) N (x.1, ofN 0))
        (bnd (utf8_ValidRune N x.2) fun v6 =>
        cnd (bnot v6)
          (some (-1 : Int))
          (jn (fun (v7 : Unit) =>
            some (-1 : Int))
          fun v8 =>
          fixN (fun v9 (v10 : Int × Int) =>
            cnd (ilt v10.1 (len x.1))
              (jn (fun (v11 : Int) =>
                jn (fun (v12 : Unit) =>
                  some (w64 (isub v11 (w64 (isub (len (enc x.2)) (1 : Int))))))
                fun v13 =>
                fixN (fun v14 (v15 : Int) =>
                  cnd (ilt v15 (len (enc x.2)))
                    (grd (inb (w64 (isub v11 v15)) (len x.1))
                      (grd (inb (w64 (isub (w64 (isub (len (enc x.2)) (1 : Int))) v15)) (len (enc x.2)))
                        (cnd (ine (n8 (lget x.1 (toN (w64 (isub v11 v15))) (0 : UInt8))) (n8 (lget (enc x.2) (toN (w64 (isub (w64 (isub (len (enc x.2)) (1 : Int))) v15))) (0 : UInt8))))
                          (bnd (bytealg_Cutover N (w64 (iadd v11 (1 : Int)))) fun v16 =>
                          cnd (ilt v16 (w64 (iadd v10.2 (1 : Int))))
                            (cnd (ilt (w64 (iadd v11 (1 : Int))) (len x.1))
                              (grd (in2 (w64 (isub (w64 (iadd v11 (1 : Int))) (w64 (isub (len (enc x.2)) (1 : Int))))) (len x.1))
                                none)
                              (v9 (w64 (iadd v11 (1 : Int)), w64 (iadd v10.2 (1 : Int)))))
                            (v9 (w64 (iadd v11 (1 : Int)), w64 (iadd v10.2 (1 : Int)))))
                          (v14 (w64 (iadd v15 (1 : Int)))))))
                    (v13 ())) N (1 : Int))
              fun v17 =>
              grd (inb v10.1 (len x.1)) <|
              grd (inb (w64 (isub (len (enc x.2)) (1 : Int))) (len (enc x.2))) <|
              cnd (ine (n8 (lget x.1 (toN v10.1) (0 : UInt8))) (n8 (lget (enc x.2) (toN (w64 (isub (len (enc x.2)) (1 : Int)))) (0 : UInt8))))
                (grd (in2 (w64 (iadd v10.1 (1 : Int))) (len x.1))
                  (grd (inb (w64 (isub (len (enc x.2)) (1 : Int))) (len (enc x.2)))
                    (bnd (strings_IndexByte N (ldrop (toN (w64 (iadd v10.1 (1 : Int)))) x.1, lget (enc x.2) (toN (w64 (isub (len (enc x.2)) (1 : Int)))) (0 : UInt8))) fun v18 =>
                    cnd (ilt v18 (0 : Int))
                      (some (-1 : Int))
                      (v17 (w64 (iadd v10.1 (w64 (iadd v18 (1 : Int)))))))))
                (v17 v10.1))
              (v8 ())) N (w64 (isub (len (enc x.2)) (1 : Int)), (0 : Int))))))
  fun v19 =>
  cnd (ile (0 : Int) x.2)
    (v19 (ilt x.2 (128 : Int)))
    (v19 false)
def ps_strings_ContainsRune : List PK := [.k (.v (.str) []), .k (.v (.int .i32) [])]
def rs_strings_ContainsRune : List Kd := [.v (.bool) []]
def strings_ContainsRune (N : Nat) (x : List UInt8 × Int) : Option (Bool) :=
  bnd (strings_IndexRune N x) fun v0 =>
  some (ile (0 : Int) v0)
def ps_charset_Base : List PK := [.k (.v (.int .i32) [])]
def rs_charset_Base : List Kd := [.v (.int .i32) []]
def charset_Base (N : Nat) (x : Int) : Option (Int) :=
  bnd (charset_Index N x) fun v0 =>
  cnd (ilt v0 (0 : Int))
    (some (0 : Int))
    (cnd (ilt v0 (95 : Int))
      (some x)
      (grd (inb (w64 (isub v0 (95 : Int))) (len ([33, 99, 76, 36, 89, 124, 83, 67, 34, 82, 111, 46, 34, 50, 63, 65, 65, 65, 65, 65, 65, 65, 67, 69, 69, 69, 69, 73, 73, 73, 73, 78, 79, 79, 79, 79, 79, 79, 85, 85, 85, 85, 115, 97, 97, 97, 97, 97, 97, 97, 99, 101, 101, 101, 101, 105, 105, 105, 105, 110, 111, 111, 111, 111, 111, 111, 117, 117, 117, 117, 79, 111, 45, 39, 39, 34, 34, 46, 46, 84, 35] : List UInt8)))
        (some (wr .i32 (n8 (lget ([33, 99, 76, 36, 89, 124, 83, 67, 34, 82, 111, 46, 34, 50, 63, 65, 65, 65, 65, 65, 65, 65, 67, 69, 69, 69, 69, 73, 73, 73, 73, 78, 79, 79, 79, 79, 79, 79, 85, 85, 85, 85, 115, 97, 97, 97, 97, 97, 97, 97, 99, 101, 101, 101, 101, 105, 105, 105, 105, 110, 111, 111, 111, 111, 111, 111, 117, 117, 117, 117, 79, 111, 45, 39, 39, 34, 34, 46, 46, 84, 35] : List UInt8) (toN (w64 (isub v0 (95 : Int)))) (0 : UInt8)))))))
def ps_latin_Put : List PK := [.k (.v (.int .i32) [])]
def rs_latin_Put : List Kd := [.v (.slice (.u8)) [0]]
def latin_Put (N : Nat) (x : Int) : Option (List UInt8) :=
  bnd (latin_Carries N x) fun v0 =>
  cnd (bnot v0)
    (some ([] : List UInt8))
    (cnd (ilt x (127 : Int))
      (some ([b8 x] : List UInt8))
      (jn (fun (v1 : Unit) =>
        jn (fun (v2 : Unit) =>
          some ([] : List UInt8))
        fun v3 =>
        fixN (fun v4 (v5 : UInt8) =>
          cnd (ile (n8 v5) (n8 (203 : UInt8)))
            (bnd (latin_accented N v5) fun v6 =>
            bnd (charset_Upper N x) fun v7 =>
            bnd (strings_ContainsRune N (v6, v7)) fun v8 =>
            cnd v8
              (bnd (charset_Base N x) fun v9 =>
              some ([v5, b8 v9] : List UInt8))
              (v4 (b8 (iadd (n8 v5) (n8 (1 : UInt8))))))
            (v3 ())) N (193 : UInt8))
      fun v10 =>
      fixN (fun v11 (v12 : Int × (List UInt8) × Int) =>
        cnd (nlt (toN v12.2.2) (nlen v12.2.1))
          (cnd (ieq (decR v12.2.1 (toN v12.2.2)) x)
            (grd (inb v12.1 (len ([161, 162, 163, 164, 165, 166, 167, 168, 169, 170, 171, 172, 173, 174, 175, 176, 180, 183, 185, 186, 187, 189, 191, 213, 225, 233, 234, 241, 249, 250, 251] : List UInt8)))
              (some ([lget ([161, 162, 163, 164, 165, 166, 167, 168, 169, 170, 171, 172, 173, 174, 175, 176, 180, 183, 185, 186, 187, 189, 191, 213, 225, 233, 234, 241, 249, 250, 251] : List UInt8) (toN v12.1) (0 : UInt8)] : List UInt8)))
            (v11 (w64 (iadd v12.1 (1 : Int)), v12.2.1, ofN (nadd (toN v12.2.2) (decW v12.2.1 (toN v12.2.2))))))
          (v10 ())) N ((0 : Int), ([194, 161, 194, 162, 194, 163, 194, 164, 194, 165, 194, 166, 194, 167, 194, 169, 226, 128, 152, 226, 128, 156, 194, 171, 194, 174, 226, 128, 148, 226, 128, 162, 226, 128, 166, 194, 176, 226, 132, 162, 194, 183, 226, 128, 153, 226, 128, 157, 194, 187, 194, 189, 194, 191, 226, 153, 170, 195, 134, 195, 152, 197, 146, 195, 166, 195, 184, 197, 147, 195, 159] : List UInt8), ofN 0)))
def ps_latin_Encode : List PK := [.k (.v (.str) [])]
def rs_latin_Encode : List Kd := [.v (.slice (.u8)) [0], .v (.int .i64) []]
def latin_Encode (N : Nat) (x : List UInt8) : Option (List UInt8 × Int) :=
  bnd (charset_Valid N x) fun v0 =>
  cnd (bnot v0)
    (some (([] : List UInt8), (10 : Int)))
    (jn (fun (v1 : List UInt8) =>
      some (v1, (0 : Int)))
    fun v2 =>
    fixN (fun v3 (v4 : (List UInt8) × (List UInt8) × Int) =>
      cnd (nlt (toN v4.2.2) (nlen v4.2.1))
        (bnd (latin_Put N (decR v4.2.1 (toN v4.2.2))) fun v5 =>
        grd (room (iadd (len v4.1) (len v5)) 1) <|
        v3 (lapp v4.1 v5, v4.2.1, ofN (nadd (toN v4.2.2) (decW v4.2.1 (toN v4.2.2)))))
        (v2 v4.1)) N (([] : List UInt8), x, ofN 0))
def ps_tape_signature : List PK := [.k (.v (.u8) [])]
def rs_tape_signature : List Kd := [.v (.str) []]
def tape_signature (N : Nat) (x : UInt8) : Option (List UInt8) :=
  cnd (ieq (n8 x) (n8 (5 : UInt8)))
    (some ([83, 84, 76, 51, 48, 46, 48, 49] : List UInt8))
    (some ([83, 84, 76, 50, 53, 46, 48, 49] : List UInt8))
def ps_tape_digits : List PK := [.k (.v (.int .i64) []), .k (.v (.int .i64) [])]
def rs_tape_digits : List Kd := [.v (.str) []]
def tape_digits (N : Nat) (x : Int × Int) : Option (List UInt8) :=
  grd (mkOk x.2 x.2 1) <|
  jn (fun (v0 : List UInt8) =>
    some v0)
  fun v1 =>
  fixN (fun v2 (v3 : Int × Int × List UInt8) =>
    cnd (ile (0 : Int) v3.2.1)
      (grd (inb v3.2.1 (len v3.2.2))
        (v2 (w64 (idiv v3.1 (10 : Int)), w64 (isub v3.2.1 (1 : Int)), lset v3.2.2 (toN v3.2.1) (b8 (w64 (iadd (48 : Int) (imod v3.1 (10 : Int))))))))
      (v1 v3.2.2)) N (x.1, w64 (isub x.2 (1 : Int)), lrep (toN x.2) (0 : UInt8))
def ps_tape_clock : List PK := [.k (.v (.st (.pair (.int .i64) (.pair (.int .i64) (.pair (.int .i64) (.pair (.int .i64) (.bool)))))) [])]
def rs_tape_clock : List Kd := [.v (.str) []]
def tape_clock (N : Nat) (x : Int × Int × Int × Int × Bool) : Option (List UInt8) :=
  bnd (tape_digits N (x.1, (2 : Int))) fun v0 =>
  bnd (tape_digits N (x.2.1, (2 : Int))) fun v1 =>
  grd (catOk (iadd (len v0) (len v1))) <|
  bnd (tape_digits N (x.2.2.1, (2 : Int))) fun v2 =>
  grd (catOk (iadd (len (lapp v0 v1)) (len v2))) <|
  bnd (tape_digits N (x.2.2.2.1, (2 : Int))) fun v3 =>
  grd (catOk (iadd (len (lapp (lapp v0 v1) v2)) (len v3))) <|
  some (lapp (lapp (lapp v0 v1) v2) v3)
def ps_tape_PutHeader : List PK := [.k (.v (.st (.pair (.u8) (.pair (.str) (.pair (.str) (.pair (.int .i64) (.pair (.int .i64) (.pair (.st (.pair (.int .i64) (.pair (.int .i64) (.pair (.int .i64) (.pair (.int .i64) (.bool)))))) (.pair (.st (.pair (.int .i64) (.pair (.int .i64) (.pair (.int .i64) (.pair (.int .i64) (.bool)))))) (.pair (.int .i64) (.int .i64)))))))))) [])]
def rs_tape_PutHeader : List Kd := [.v (.slice (.u8)) [0], .v (.int .i64) []]
def tape_PutHeader (N : Nat) (x : UInt8 × (List UInt8) × (List UInt8) × Int × Int × (Int × Int × Int × Int × Bool) × (Int × Int × Int × Int × Bool) × Int × Int) : Option (List UInt8 × Int) :=
  bnd (tape_CheckHeader N x) fun v0 =>
  cnd (ine v0 (0 : Int))
    (some (([] : List UInt8), v0))
    (bnd (latin_Encode N x.2.2.1) fun v1 =>
    grd (ilt (0 : Int) (len ([32] : List UInt8))) <|
    bnd (bytes_Repeat N (([32] : List UInt8), (1024 : Int))) fun v2 =>
    bnd (tape_signature N x.1) fun v3 =>
    grd (in2 (8 : Int) (ofN (nlen (putl v2 0 (ltake (nlen v2) v3))))) <|
    grd (in2 (24 : Int) (ofN (nlen (putl (putl v2 0 (ltake (nlen v2) v3)) (toN (8 : Int)) (ltake (nsub (nlen (putl v2 0 (ltake (nlen v2) v3))) (toN (8 : Int))) x.2.1))))) <|
    bnd (tape_digits N (len v1.1, (3 : Int))) fun v4 =>
    bnd (tape_digits N (x.2.2.2.1, (5 : Int))) fun v5 =>
    grd (catOk (iadd (len v4) (len v5))) <|
    bnd (tape_digits N (x.2.2.2.2.1, (5 : Int))) fun v6 =>
    grd (catOk (iadd (len (lapp v4 v5)) (len v6))) <|
    bnd (tape_clock N x.2.2.2.2.2.1) fun v7 =>
    grd (catOk (iadd (len (lapp (lapp v4 v5) v6)) (len v7))) <|
    bnd (tape_clock N x.2.2.2.2.2.2.1) fun v8 =>
    grd (catOk (iadd (len (lapp (lapp (lapp v4 v5) v6) v7)) (len v8))) <|
    bnd (tape_digits N (x.2.2.2.2.2.2.2.1, (2 : Int))) fun v9 =>
    grd (catOk (iadd (len (lapp (lapp (lapp (lapp v4 v5) v6) v7) v8)) (len v9))) <|
    bnd (tape_digits N (x.2.2.2.2.2.2.2.2, (2 : Int))) fun v10 =>
    grd (catOk (iadd (len (lapp (lapp (lapp (lapp (lapp v4 v5) v6) v7) v8) v9)) (len v10))) <|
    grd (in2 (64 : Int) (ofN (nlen (putl (putl (putl v2 0 (ltake (nlen v2) v3)) (toN (8 : Int)) (ltake (nsub (nlen (putl v2 0 (ltake (nlen v2) v3))) (toN (8 : Int))) x.2.1)) (toN (24 : Int)) (ltake (nsub (nlen (putl (putl v2 0 (ltake (nlen v2) v3)) (toN (8 : Int)) (ltake (nsub (nlen (putl v2 0 (ltake (nlen v2) v3))) (toN (8 : Int))) x.2.1))) (toN (24 : Int))) (lapp (lapp (lapp (lapp (lapp (lapp v4 v5) v6) v7) v8) v9) v10)))))) <|
    some (putl (putl (putl (putl v2 0 (ltake (nlen v2) v3)) (toN (8 : Int)) (ltake (nsub (nlen (putl v2 0 (ltake (nlen v2) v3))) (toN (8 : Int))) x.2.1)) (toN (24 : Int)) (ltake (nsub (nlen (putl (putl v2 0 (ltake (nlen v2) v3)) (toN (8 : Int)) (ltake (nsub (nlen (putl v2 0 (ltake (nlen v2) v3))) (toN (8 : Int))) x.2.1))) (toN (24 : Int))) (lapp (lapp (lapp (lapp (lapp (lapp v4 v5) v6) v7) v8) v9) v10))) (toN (64 : Int)) (ltake (nsub (nlen (putl (putl (putl v2 0 (ltake (nlen v2) v3)) (toN (8 : Int)) (ltake (nsub (nlen (putl v2 0 (ltake (nlen v2) v3))) (toN (8 : Int))) x.2.1)) (toN (24 : Int)) (ltake (nsub (nlen (putl (putl v2 0 (ltake (nlen v2) v3)) (toN (8 : Int)) (ltake (nsub (nlen (putl v2 0 (ltake (nlen v2) v3))) (toN (8 : Int))) x.2.1))) (toN (24 : Int))) (lapp (lapp (lapp (lapp (lapp (lapp v4 v5) v6) v7) v8) v9) v10)))) (toN (64 : Int))) v1.1), (0 : Int)))
def ps_r07_digit : List PK := [.k (.v (.u8) [])]
def rs_r07_digit : List Kd := [.v (.bool) []]
def r07_digit (N : Nat) (x : UInt8) : Option (Bool) :=
  cnd (ile (n8 (48 : UInt8)) (n8 x))
    (some (ile (n8 x) (n8 (57 : UInt8))))
    (some false)
def ps_r07_Name : List PK := [.k (.v (.str) [])]
def rs_r07_Name : List Kd := [.v (.bool) []]
def r07_Name (N : Nat) (x : List UInt8) : Option (Bool) :=
  cnd (ilt (len x) (1 : Int))
    (some false)
    (cnd (ilt (16 : Int) (len x))
      (some false)
      (jn (fun (v0 : Unit) =>
        some true)
      fun v1 =>
      fixN (fun v2 (v3 : Int) =>
        cnd (ilt v3 (len x))
          (jn (fun (v4 : Bool) =>
            cnd (bnot v4)
              (cnd (ieq v3 (0 : Int))
                (some false)
                (grd (inb v3 (len x))
                  (bnd (r07_digit N (lget x (toN v3) (0 : UInt8))) fun v5 =>
                  cnd (bnot v5)
                    (grd (inb v3 (len x))
                      (cnd (ine (n8 (lget x (toN v3) (0 : UInt8))) (n8 (95 : UInt8)))
                        (grd (inb v3 (len x))
                          (cnd (ine (n8 (lget x (toN v3) (0 : UInt8))) (n8 (45 : UInt8)))
                            (some false)
                            (v2 (w64 (iadd v3 (1 : Int))))))
                        (v2 (w64 (iadd v3 (1 : Int))))))
                    (v2 (w64 (iadd v3 (1 : Int)))))))
              (v2 (w64 (iadd v3 (1 : Int)))))
          fun v6 =>
          grd (inb v3 (len x)) <|
          cnd (ile (n8 (65 : UInt8)) (n8 (lget x (toN v3) (0 : UInt8))))
            (grd (inb v3 (len x))
              (v6 (ile (n8 (lget x (toN v3) (0 : UInt8))) (n8 (90 : UInt8)))))
            (v6 false))
          (v1 ())) N (0 : Int)))
def ps_r08_Repertoire : List PK := []
def rs_r08_Repertoire : List Kd := [.v (.str) []]
def r08_Repertoire (N : Nat) (x : Unit) : Option (List UInt8) :=
  some ([32, 33, 34, 35, 36, 37, 38, 39, 40, 41, 42, 43, 44, 45, 46, 47, 48, 49, 50, 51, 52, 53, 54, 55, 56, 57, 58, 59, 60, 61, 62, 63, 64, 65, 66, 67, 68, 69, 70, 71, 72, 73, 74, 75, 76, 77, 78, 79, 80, 81, 82, 83, 84, 85, 86, 87, 88, 89, 90, 91, 92, 93, 94, 95, 96, 97, 98, 99, 100, 101, 102, 103, 104, 105, 106, 107, 108, 109, 110, 111, 112, 113, 114, 115, 116, 117, 118, 119, 120, 121, 122, 123, 124, 125, 126, 194, 161, 194, 162, 194, 163, 194, 164, 194, 165, 194, 166, 194, 167, 194, 169, 194, 171, 194, 174, 194, 176, 194, 183, 194, 187, 194, 189, 194, 191, 195, 128, 195, 129, 195, 130, 195, 131, 195, 132, 195, 133, 195, 134, 195, 135, 195, 136, 195, 137, 195, 138, 195, 139, 195, 140, 195, 141, 195, 142, 195, 143, 195, 145, 195, 146, 195, 147, 195, 148, 195, 149, 195, 150, 195, 152, 195, 153, 195, 154, 195, 155, 195, 156, 195, 159, 195, 160, 195, 161, 195, 162, 195, 163, 195, 164, 195, 165, 195, 166, 195, 167, 195, 168, 195, 169, 195, 170, 195, 171, 195, 172, 195, 173, 195, 174, 195, 175, 195, 177, 195, 178, 195, 179, 195, 180, 195, 181, 195, 182, 195, 184, 195, 185, 195, 186, 195, 187, 195, 188, 197, 146, 197, 147, 226, 128, 148, 226, 128, 152, 226, 128, 153, 226, 128, 156, 226, 128, 157, 226, 128, 162, 226, 128, 166, 226, 132, 162, 226, 153, 170] : List UInt8)
def ps_r08_Index : List PK := [.k (.v (.int .i32) [])]
def rs_r08_Index : List Kd := [.v (.int .i64) []]
def r08_Index (N : Nat) (x : Int) : Option (Int) :=
  jn (fun (v0 : Unit) =>
    jn (fun (v1 : Unit) =>
      some (-1 : Int))
    fun v2 =>
    bnd (r08_Repertoire N ()) fun v3 =>
    fixN (fun v4 (v5 : Int × (List UInt8) × Int) =>
      cnd (nlt (toN v5.2.2) (nlen v5.2.1))
        (cnd (ieq (decR v5.2.1 (toN v5.2.2)) x)
          (some v5.1)
          (v4 (w64 (iadd v5.1 (1 : Int)), v5.2.1, ofN (nadd (toN v5.2.2) (decW v5.2.1 (toN v5.2.2))))))
        (v2 ())) N ((0 : Int), v3, ofN 0))
  fun v6 =>
  cnd (ile (32 : Int) x)
    (cnd (ile x (126 : Int))
      (some (w64 (wr .i32 (isub x (32 : Int)))))
      (v6 ()))
    (v6 ())
def ps_r08_Valid : List PK := [.k (.v (.str) [])]
def rs_r08_Valid : List Kd := [.v (.bool) []]
def r08_Valid (N : Nat) (x : List UInt8) : Option (Bool) :=
  jn (fun (v0 : Unit) =>
    some true)
  fun v1 =>
  fixN (fun v2 (v3 : (List UInt8) × Int) =>
    cnd (nlt (toN v3.2) (nlen v3.1))
      (bnd (r08_Index N (decR v3.1 (toN v3.2))) fun v4 =>
      cnd (ilt v4 (0 : Int))
        (some false)
        (v2 (v3.1, ofN (nadd (toN v3.2) (decW v3.1 (toN v3.2))))))
      (v1 ())) N (x, ofN 0)
def ps_r23_within : List PK := [.k (.v (.int .i64) []), .k (.v (.int .i64) []), .k (.v (.int .i64) [])]
def rs_r23_within : List Kd := [.v (.bool) []]
def r23_within (N : Nat) (x : Int × Int × Int) : Option (Bool) :=
  cnd (ile x.2.1 x.1)
    (some (ile x.1 x.2.2))
    (some false)
def ps_r02_Valid : List PK := [.k (.v (.u8) [])]
def rs_r02_Valid : List Kd := [.v (.bool) []]
def r02_Valid (N : Nat) (x : UInt8) : Option (Bool) :=
  cnd (ile (n8 (1 : UInt8)) (n8 x))
    (some (ile (n8 x) (n8 (7 : UInt8))))
    (some false)
def ps_r02_CanDrop : List PK := [.k (.v (.u8) [])]
def rs_r02_CanDrop : List Kd := [.v (.bool) []]
def r02_CanDrop (N : Nat) (x : UInt8) : Option (Bool) :=
  cnd (ieq (n8 x) (n8 (4 : UInt8)))
    (some true)
    (some (ieq (n8 x) (n8 (7 : UInt8))))
def ps_r03_kind : List PK := [.k (.v (.u8) []), .k (.v (.bool) [])]
def rs_r03_kind : List Kd := [.v (.int .i64) []]
def r03_kind (N : Nat) (x : UInt8 × Bool) : Option (Int) :=
  bnd (r02_Valid N x.1) fun v0 =>
  cnd (bnot v0)
    (some (3 : Int))
    (cnd x.2
      (bnd (r02_CanDrop N x.1) fun v1 =>
      cnd (bnot v1)
        (some (13 : Int))
        (some (0 : Int)))
      (some (0 : Int)))
def ps_r02_Nominal : List PK := [.k (.v (.u8) [])]
def rs_r02_Nominal : List Kd := [.v (.int .i64) []]
def r02_Nominal (N : Nat) (x : UInt8) : Option (Int) :=
  bnd (r02_Valid N x) fun v0 =>
  cnd (bnot v0)
    (some (0 : Int))
    (grd (inb (n8 (b8 (isub (n8 x) (n8 (1 : UInt8))))) (len ([24, 24, 25, 30, 30, 50, 60] : List Int)))
      (some (lget ([24, 24, 25, 30, 30, 50, 60] : List Int) (toN (n8 (b8 (isub (n8 x) (n8 (1 : UInt8)))))) (0 : Int))))
def ps_r03_Dropped : List PK := [.k (.v (.u8) [])]
def rs_r03_Dropped : List Kd := [.v (.int .i64) []]
def r03_Dropped (N : Nat) (x : UInt8) : Option (Int) :=
  cnd (ieq (n8 x) (n8 (7 : UInt8)))
    (some (4 : Int))
    (some (2 : Int))
def ps_r03_Check : List PK := [.k (.v (.u8) []), .k (.v (.st (.pair (.int .i64) (.pair (.int .i64) (.pair (.int .i64) (.pair (.int .i64) (.bool)))))) [])]
def rs_r03_Check : List Kd := [.v (.int .i64) []]
def r03_Check (N : Nat) (x : UInt8 × Int × Int × Int × Int × Bool) : Option (Int) :=
  bnd (r03_kind N (x.1, x.2.2.2.2.2)) fun v0 =>
  cnd (ine v0 (0 : Int))
    (some v0)
    (cnd (ilt x.2.1 (0 : Int))
      (some (2 : Int))
      (cnd (ilt (23 : Int) x.2.1)
        (some (2 : Int))
        (cnd (ilt x.2.2.1 (0 : Int))
          (some (2 : Int))
          (cnd (ilt (59 : Int) x.2.2.1)
            (some (2 : Int))
            (cnd (ilt x.2.2.2.1 (0 : Int))
              (some (2 : Int))
              (cnd (ilt (59 : Int) x.2.2.2.1)
                (some (2 : Int))
                (cnd (ilt x.2.2.2.2.1 (0 : Int))
                  (some (2 : Int))
                  (bnd (r02_Nominal N x.1) fun v1 =>
                  cnd (ile v1 x.2.2.2.2.1)
                    (some (2 : Int))
                    (cnd x.2.2.2.2.2
                      (cnd (ieq x.2.2.2.1 (0 : Int))
                        (cnd (ine (imod x.2.2.1 (10 : Int)) (0 : Int))
                          (bnd (r03_Dropped N x.1) fun v2 =>
                          cnd (ilt x.2.2.2.2.1 v2)
                            (some (6 : Int))
                            (some (0 : Int)))
                          (some (0 : Int)))
                        (some (0 : Int)))
                      (some (0 : Int)))))))))))
def ps_r23_CheckHeader : List PK := [.k (.v (.st (.pair (.u8) (.pair (.str) (.pair (.str) (.pair (.int .i64) (.pair (.int .i64) (.pair (.st (.pair (.int .i64) (.pair (.int .i64) (.pair (.int .i64) (.pair (.int .i64) (.bool)))))) (.pair (.st (.pair (.int .i64) (.pair (.int .i64) (.pair (.int .i64) (.pair (.int .i64) (.bool)))))) (.pair (.int .i64) (.int .i64)))))))))) [])]
def rs_r23_CheckHeader : List Kd := [.v (.int .i64) []]
def r23_CheckHeader (N : Nat) (x : UInt8 × (List UInt8) × (List UInt8) × Int × Int × (Int × Int × Int × Int × Bool) × (Int × Int × Int × Int × Bool) × Int × Int) : Option (Int) :=
  jn (fun (v0 : Bool) =>
    cnd v0
      (some (13 : Int))
      (jn (fun (v1 : Bool) =>
        cnd v1
          (some (5 : Int))
          (bnd (r08_Valid N x.2.2.1) fun v2 =>
          cnd (bnot v2)
            (some (10 : Int))
            (cnd (ilt (400 : Int) (len x.2.2.1))
              (some (9 : Int))
              (bnd (r23_within N (x.2.2.2.1, (0 : Int), (99999 : Int))) fun v3 =>
              cnd (bnot v3)
                (some (2 : Int))
                (bnd (r23_within N (x.2.2.2.2.1, (0 : Int), (99999 : Int))) fun v4 =>
                cnd (bnot v4)
                  (some (2 : Int))
                  (bnd (r23_within N (x.2.2.2.2.2.2.2.1, (0 : Int), (99 : Int))) fun v5 =>
                  cnd (bnot v5)
                    (some (2 : Int))
                    (bnd (r23_within N (x.2.2.2.2.2.2.2.2, (0 : Int), (99 : Int))) fun v6 =>
                    cnd (bnot v6)
                      (some (2 : Int))
                      (cnd (ilt x.2.2.2.1 x.2.2.2.2.1)
                        (some (8 : Int))
                        (bnd (r03_Check N (x.1, x.2.2.2.2.2.1)) fun v7 =>
                        cnd (ine v7 (0 : Int))
                          (some v7)
                          (bnd (r03_Check N (x.1, x.2.2.2.2.2.2.1)) fun v8 =>
                          cnd (ine v8 (0 : Int))
                            (some v8)
                            (cnd x.2.2.2.2.2.1.2.2.2.2
                              (some (13 : Int))
                              (cnd x.2.2.2.2.2.2.1.2.2.2.2
                                (some (13 : Int))
                                (some (0 : Int))))))))))))))
      fun v9 =>
      cnd (sne x.2.1 ([] : List UInt8))
        (bnd (r07_Name N x.2.1) fun v10 =>
        v9 (bnot v10))
        (v9 false)))
  fun v11 =>
  cnd (ine (n8 x.1) (n8 (3 : UInt8)))
    (v11 (ine (n8 x.1) (n8 (5 : UInt8))))
    (v11 false)
def ps_r08_runes : List PK := [.k (.v (.str) [])]
def rs_r08_runes : List Kd := [.v (.slice (.int .i32)) [0]]
def r08_runes (N : Nat) (x : List UInt8) : Option (List Int) :=
  jn (fun (v0 : List Int) =>
    some v0)
  fun v1 =>
  fixN (fun v2 (v3 : (List Int) × (List UInt8) × Int) =>
    cnd (nlt (toN v3.2.2) (nlen v3.2.1))
      (grd (room (iadd (len v3.1) (len ([decR v3.2.1 (toN v3.2.2)] : List Int))) 4)
        (v2 (lapp v3.1 ([decR v3.2.1 (toN v3.2.2)] : List Int), v3.2.1, ofN (nadd (toN v3.2.2) (decW v3.2.1 (toN v3.2.2))))))
      (v1 v3.1)) N (([] : List Int), x, ofN 0)
def ps_r08_Chars : List PK := [.k (.v (.str) [])]
def rs_r08_Chars : List Kd := [.v (.slice (.int .i32)) [0]]
def r08_Chars (N : Nat) (x : List UInt8) : Option (List Int) :=
  bnd (r08_Valid N x) fun v0 =>
  cnd (bnot v0)
    (some ([] : List Int))
    (bnd (r08_runes N x) fun v1 =>
    some v1)
def ps_r22_Carries : List PK := [.k (.v (.int .i32) [])]
def rs_r22_Carries : List Kd := [.v (.bool) []]
def r22_Carries (N : Nat) (x : Int) : Option (Bool) :=
  bnd (r08_Index N x) fun v0 =>
  some (ile (0 : Int) v0)
def ps_r22_single : List PK := [.k (.v (.u8) [])]
def rs_r22_single : List Kd := [.v (.int .i32) []]
def r22_single (N : Nat) (x : UInt8) : Option (Int) :=
  jn (fun (v0 : Unit) =>
    jn (fun (v1 : Unit) =>
      some (0 : Int))
    fun v2 =>
    fixN (fun v3 (v4 : Int) =>
      cnd (ilt v4 (len ([161, 162, 163, 164, 165, 166, 167, 168, 169, 170, 171, 172, 173, 174, 175, 176, 180, 183, 185, 186, 187, 189, 191, 213, 225, 233, 234, 241, 249, 250, 251] : List UInt8)))
        (grd (inb v4 (len ([161, 162, 163, 164, 165, 166, 167, 168, 169, 170, 171, 172, 173, 174, 175, 176, 180, 183, 185, 186, 187, 189, 191, 213, 225, 233, 234, 241, 249, 250, 251] : List UInt8)))
          (cnd (ieq (n8 (lget ([161, 162, 163, 164, 165, 166, 167, 168, 169, 170, 171, 172, 173, 174, 175, 176, 180, 183, 185, 186, 187, 189, 191, 213, 225, 233, 234, 241, 249, 250, 251] : List UInt8) (toN v4) (0 : UInt8))) (n8 x))
            (grd (inb v4 (len ([161, 162, 163, 164, 165, 166, 167, 169, 8216, 8220, 171, 174, 8212, 8226, 8230, 176, 8482, 183, 8217, 8221, 187, 189, 191, 9834, 198, 216, 338, 230, 248, 339, 223] : List Int)))
              (some (lget ([161, 162, 163, 164, 165, 166, 167, 169, 8216, 8220, 171, 174, 8212, 8226, 8230, 176, 8482, 183, 8217, 8221, 187, 189, 191, 9834, 198, 216, 338, 230, 248, 339, 223] : List Int) (toN v4) (0 : Int))))
            (v3 (w64 (iadd v4 (1 : Int))))))
        (v2 ())) N (0 : Int))
  fun v5 =>
  cnd (ile (n8 (32 : UInt8)) (n8 x))
    (cnd (ile (n8 x) (n8 (126 : UInt8)))
      (some (wr .i32 (n8 x)))
      (v5 ()))
    (v5 ())
def ps_r22_double : List PK := [.k (.v (.u8) []), .k (.v (.u8) [])]
def rs_r22_double : List Kd := [.v (.int .i32) []]
def r22_double (N : Nat) (x : UInt8 × UInt8) : Option (Int) :=
  jn (fun (v0 : Bool) =>
    jn (fun (v1 : UInt8) =>
      jn (fun (v2 : Unit) =>
        some (0 : Int))
      fun v3 =>
      fixN (fun v4 (v5 : Int) =>
        cnd (ilt v5 (len ([193, 193, 193, 193, 193, 194, 194, 194, 194, 194, 195, 195, 195, 195, 195, 196, 196, 196, 200, 200, 200, 200, 200, 202, 203] : List UInt8)))
          (grd (inb v5 (len ([193, 193, 193, 193, 193, 194, 194, 194, 194, 194, 195, 195, 195, 195, 195, 196, 196, 196, 200, 200, 200, 200, 200, 202, 203] : List UInt8)))
            (cnd (ieq (n8 (lget ([193, 193, 193, 193, 193, 194, 194, 194, 194, 194, 195, 195, 195, 195, 195, 196, 196, 196, 200, 200, 200, 200, 200, 202, 203] : List UInt8) (toN v5) (0 : UInt8))) (n8 x.1))
              (grd (inb v5 (len ([65, 69, 73, 79, 85, 65, 69, 73, 79, 85, 65, 69, 73, 79, 85, 65, 78, 79, 65, 69, 73, 79, 85, 65, 67] : List UInt8)))
                (cnd (ieq (n8 (lget ([65, 69, 73, 79, 85, 65, 69, 73, 79, 85, 65, 69, 73, 79, 85, 65, 78, 79, 65, 69, 73, 79, 85, 65, 67] : List UInt8) (toN v5) (0 : UInt8))) (n8 v1))
                  (cnd v0
                    (grd (inb v5 (len ([192, 200, 204, 210, 217, 193, 201, 205, 211, 218, 194, 202, 206, 212, 219, 195, 209, 213, 196, 203, 207, 214, 220, 197, 199] : List Int)))
                      (some (wr .i32 (iadd (lget ([192, 200, 204, 210, 217, 193, 201, 205, 211, 218, 194, 202, 206, 212, 219, 195, 209, 213, 196, 203, 207, 214, 220, 197, 199] : List Int) (toN v5) (0 : Int)) (32 : Int)))))
                    (grd (inb v5 (len ([192, 200, 204, 210, 217, 193, 201, 205, 211, 218, 194, 202, 206, 212, 219, 195, 209, 213, 196, 203, 207, 214, 220, 197, 199] : List Int)))
                      (some (lget ([192, 200, 204, 210, 217, 193, 201, 205, 211, 218, 194, 202, 206, 212, 219, 195, 209, 213, 196, 203, 207, 214, 220, 197, 199] : List Int) (toN v5) (0 : Int)))))
                  (v4 (w64 (iadd v5 (1 : Int))))))
              (v4 (w64 (iadd v5 (1 : Int))))))
          (v3 ())) N (0 : Int))
    fun v6 =>
    cnd v0
      (v6 (b8 (isub (n8 x.2) (n8 (32 : UInt8)))))
      (v6 x.2))
  fun v7 =>
  cnd (ile (n8 (97 : UInt8)) (n8 x.2))
    (v7 (ile (n8 x.2) (n8 (122 : UInt8))))
    (v7 false)
def ps_r22_Put : List PK := [.k (.v (.int .i32) [])]
def rs_r22_Put : List Kd := [.v (.slice (.u8)) [0]]
def r22_Put (N : Nat) (x : Int) : Option (List UInt8) :=
  bnd (r22_Carries N x) fun v0 =>
  cnd (bnot v0)
    (some ([] : List UInt8))
    (jn (fun (v1 : Unit) =>
      jn (fun (v2 : Unit) =>
        some ([] : List UInt8))
      fun v3 =>
      fixN (fun v4 (v5 : Int) =>
        cnd (ile v5 (203 : Int))
          (jn (fun (v6 : Unit) =>
            v4 (w64 (iadd v5 (1 : Int))))
          fun v7 =>
          fixN (fun v8 (v9 : Int) =>
            cnd (ile v9 (122 : Int))
              (bnd (r22_double N (b8 v5, b8 v9)) fun v10 =>
              cnd (ieq v10 x)
                (some ([b8 v5, b8 v9] : List UInt8))
                (v8 (wr .i32 (iadd v9 (1 : Int)))))
              (v7 ())) N (65 : Int))
          (v3 ())) N (193 : Int))
    fun v11 =>
    fixN (fun v12 (v13 : Int) =>
      cnd (ilt v13 (256 : Int))
        (bnd (r22_single N (b8 v13)) fun v14 =>
        cnd (ieq v14 x)
          (some ([b8 v13] : List UInt8))
          (v12 (w64 (iadd v13 (1 : Int)))))
        (v11 ())) N (0 : Int))
def ps_r22_Encode : List PK := [.k (.v (.str) [])]
def rs_r22_Encode : List Kd := [.v (.slice (.u8)) [0], .v (.int .i64) []]
def r22_Encode (N : Nat) (x : List UInt8) : Option (List UInt8 × Int) :=
  bnd (r08_Valid N x) fun v0 =>
  cnd (bnot v0)
    (some (([] : List UInt8), (10 : Int)))
    (jn (fun (v1 : List UInt8) =>
      some (v1, (0 : Int)))
    fun v2 =>
    bnd (r08_Chars N x) fun v3 =>
    fixN (fun v4 (v5 : (List UInt8) × Int) =>
      cnd (ilt v5.2 (len v3))
        (grd (inb v5.2 (len v3))
          (bnd (r22_Put N (lget v3 (toN v5.2) (0 : Int))) fun v6 =>
          grd (room (iadd (len v5.1) (len v6)) 1) <|
          v4 (lapp v5.1 v6, w64 (iadd v5.2 (1 : Int)))))
        (v2 v5.1)) N (([] : List UInt8), (0 : Int)))
def ps_r23_fill : List PK := [.k (.v (.slice (.u8)) []), .k (.v (.int .i64) []), .k (.v (.u8) [])]
def rs_r23_fill : List Kd := [.v (.slice (.u8)) [0]]
def r23_fill (N : Nat) (x : List UInt8 × Int × UInt8) : Option (List UInt8) :=
  grd (room (iadd (len ([] : List UInt8)) (len x.1)) 1) <|
  jn (fun (v0 : List UInt8) =>
    some v0)
  fun v1 =>
  fixN (fun v2 (v3 : List UInt8) =>
    cnd (ilt (len v3) x.2.1)
      (grd (room (iadd (len v3) (len ([x.2.2] : List UInt8))) 1)
        (v2 (lapp v3 ([x.2.2] : List UInt8))))
      (v1 v3)) N (lapp ([] : List UInt8) x.1)
def ps_r23_digits : List PK := [.k (.v (.int .i64) []), .k (.v (.int .i64) [])]
def rs_r23_digits : List Kd := [.v (.str) []]
def r23_digits_r (N : Nat) : Nat → (Int × Int) → Option (List UInt8)
  | 0, _ => none
  | D + 1, x => cnd (ieq x.2 (0 : Int))
      (some ([] : List UInt8))
      (bnd (r23_digits_r N D (w64 (idiv x.1 (10 : Int)), w64 (isub x.2 (1 : Int)))) fun v0 =>
      grd (catOk (iadd (len v0) (len ([b8 (w64 (iadd (48 : Int) (imod x.1 (10 : Int))))] : List UInt8)))) <|
      some (lapp v0 ([b8 (w64 (iadd (48 : Int) (imod x.1 (10 : Int))))] : List UInt8)))
def r23_digits (N : Nat) (x : Int × Int) : Option (List UInt8) := r23_digits_r N N x
def ps_r23_label : List PK := [.k (.v (.st (.pair (.int .i64) (.pair (.int .i64) (.pair (.int .i64) (.pair (.int .i64) (.bool)))))) [])]
def rs_r23_label : List Kd := [.v (.str) []]
def r23_label (N : Nat) (x : Int × Int × Int × Int × Bool) : Option (List UInt8) :=
  bnd (r23_digits N (x.1, (2 : Int))) fun v0 =>
  bnd (r23_digits N (x.2.1, (2 : Int))) fun v1 =>
  grd (catOk (iadd (len v0) (len v1))) <|
  bnd (r23_digits N (x.2.2.1, (2 : Int))) fun v2 =>
  grd (catOk (iadd (len (lapp v0 v1)) (len v2))) <|
  bnd (r23_digits N (x.2.2.2.1, (2 : Int))) fun v3 =>
  grd (catOk (iadd (len (lapp (lapp v0 v1) v2)) (len v3))) <|
  some (lapp (lapp (lapp v0 v1) v2) v3)
def ps_r23_PutHeader : List PK := [.k (.v (.st (.pair (.u8) (.pair (.str) (.pair (.str) (.pair (.int .i64) (.pair (.int .i64) (.pair (.st (.pair (.int .i64) (.pair (.int .i64) (.pair (.int .i64) (.pair (.int .i64) (.bool)))))) (.pair (.st (.pair (.int .i64) (.pair (.int .i64) (.pair (.int .i64) (.pair (.int .i64) (.bool)))))) (.pair (.int .i64) (.int .i64)))))))))) [])]
def rs_r23_PutHeader : List Kd := [.v (.slice (.u8)) [0], .v (.int .i64) []]
def r23_PutHeader (N : Nat) (x : UInt8 × (List UInt8) × (List UInt8) × Int × Int × (Int × Int × Int × Int × Bool) × (Int × Int × Int × Int × Bool) × Int × Int) : Option (List UInt8 × Int) :=
  bnd (r23_CheckHeader N x) fun v0 =>
  cnd (ine v0 (0 : Int))
    (some (([] : List UInt8), v0))
    (jn (fun (v1 : List UInt8) =>
      bnd (r22_Encode N x.2.2.1) fun v2 =>
      grd (catOk (len v1)) <|
      grd (catOk (len x.2.1)) <|
      bnd (r23_fill N (x.2.1, (16 : Int), (32 : UInt8))) fun v3 =>
      grd (room (iadd (len v1) (len v3)) 1) <|
      bnd (r23_digits N (len v2.1, (3 : Int))) fun v4 =>
      bnd (r23_digits N (x.2.2.2.1, (5 : Int))) fun v5 =>
      grd (catOk (iadd (len v4) (len v5))) <|
      bnd (r23_digits N (x.2.2.2.2.1, (5 : Int))) fun v6 =>
      grd (catOk (iadd (len (lapp v4 v5)) (len v6))) <|
      bnd (r23_label N x.2.2.2.2.2.1) fun v7 =>
      grd (catOk (iadd (len (lapp (lapp v4 v5) v6)) (len v7))) <|
      bnd (r23_label N x.2.2.2.2.2.2.1) fun v8 =>
      grd (catOk (iadd (len (lapp (lapp (lapp v4 v5) v6) v7)) (len v8))) <|
      bnd (r23_digits N (x.2.2.2.2.2.2.2.1, (2 : Int))) fun v9 =>
      grd (catOk (iadd (len (lapp (lapp (lapp (lapp v4 v5) v6) v7) v8)) (len v9))) <|
      bnd (r23_digits N (x.2.2.2.2.2.2.2.2, (2 : Int))) fun v10 =>
      grd (catOk (iadd (len (lapp (lapp (lapp (lapp (lapp v4 v5) v6) v7) v8) v9)) (len v10))) <|
      grd (catOk (len (lapp (lapp (lapp (lapp (lapp (lapp v4 v5) v6) v7) v8) v9) v10))) <|
      bnd (r23_fill N (lapp (lapp (lapp (lapp (lapp (lapp v4 v5) v6) v7) v8) v9) v10, (40 : Int), (32 : UInt8))) fun v11 =>
      grd (room (iadd (len (lapp v1 v3)) (len v11)) 1) <|
      grd (room (iadd (len (lapp (lapp v1 v3) v11)) (len v2.1)) 1) <|
      bnd (r23_fill N (lapp (lapp (lapp v1 v3) v11) v2.1, (1024 : Int), (32 : UInt8))) fun v12 =>
      some (v12, (0 : Int)))
    fun v13 =>
    cnd (ieq (n8 x.1) (n8 (5 : UInt8)))
      (v13 ([83, 84, 76, 51, 48, 46, 48, 49] : List UInt8))
      (v13 ([83, 84, 76, 50, 53, 46, 48, 49] : List UInt8)))
def ps_tape_number : List PK := [.k (.v (.slice (.u8)) [])]
def rs_tape_number : List Kd := [.v (.int .i64) []]
def tape_number (N : Nat) (x : List UInt8) : Option (Int) :=
  jn (fun (v0 : Int) =>
    some v0)
  fun v1 =>
  fixN (fun v2 (v3 : Int × Int) =>
    cnd (ilt v3.2 (len x))
      (grd (inb v3.2 (len x))
        (cnd (ilt (n8 (lget x (toN v3.2) (0 : UInt8))) (n8 (48 : UInt8)))
          (some (0 : Int))
          (cnd (ilt (n8 (57 : UInt8)) (n8 (lget x (toN v3.2) (0 : UInt8))))
            (some (0 : Int))
            (v2 (w64 (iadd (w64 (imul (10 : Int) v3.1)) (w64 (n8 (b8 (isub (n8 (lget x (toN v3.2) (0 : UInt8))) (n8 (48 : UInt8))))))), w64 (iadd v3.2 (1 : Int)))))))
      (v1 v3.1)) N ((0 : Int), (0 : Int))
def ps_tape_label : List PK := [.k (.v (.slice (.u8)) [])]
def rs_tape_label : List Kd := [.v (.st (.pair (.int .i64) (.pair (.int .i64) (.pair (.int .i64) (.pair (.int .i64) (.bool)))))) []]
def tape_label (N : Nat) (x : List UInt8) : Option (Int × Int × Int × Int × Bool) :=
  grd (in2 (2 : Int) (len x)) <|
  bnd (tape_number N (ltake (toN (2 : Int)) x)) fun v0 =>
  grd (in3 (2 : Int) (4 : Int) (len x)) <|
  bnd (tape_number N (ldrop (toN (2 : Int)) (ltake (toN (4 : Int)) x))) fun v1 =>
  grd (in3 (4 : Int) (6 : Int) (len x)) <|
  bnd (tape_number N (ldrop (toN (4 : Int)) (ltake (toN (6 : Int)) x))) fun v2 =>
  grd (in3 (6 : Int) (8 : Int) (len x)) <|
  bnd (tape_number N (ldrop (toN (6 : Int)) (ltake (toN (8 : Int)) x))) fun v3 =>
  some (v0, v1, v2, v3, false)
def ps_bytes_trimRightByte : List PK := [.k (.v (.slice (.u8)) []), .k (.v (.u8) [])]
def rs_bytes_trimRightByte : List Kd := [.v (.slice (.u8)) []]
def bytes_trimRightByte (N : Nat) (x : List UInt8 × UInt8) : Option (List UInt8) :=
  jn (fun (v0 : List UInt8) =>
    some v0)
  fun v1 =>
  fixN (fun v2 (v3 : List UInt8) =>
    cnd (ilt (0 : Int) (len v3))
      (grd (inb (w64 (isub (len v3) (1 : Int))) (len v3))
        (cnd (ieq (n8 (lget v3 (toN (w64 (isub (len v3) (1 : Int)))) (0 : UInt8))) (n8 x.2))
          (grd (in2 (w64 (isub (len v3) (1 : Int))) (len v3))
            (v2 (ltake (toN (w64 (isub (len v3) (1 : Int)))) v3)))
          (v1 v3)))
      (v1 v3)) N x.1
def ps_bytes_trimRightASCII : List PK := [.k (.v (.slice (.u8)) []), .k (.b 76 (.arr 256 (.bool)) [])]
def rs_bytes_trimRightASCII : List Kd := [.v (.slice (.u8)) []]
def bytes_trimRightASCII (N : Nat) (x : List UInt8 × List Bool) : Option (List UInt8 × List Bool) :=
  jn (fun (v0 : Unit) =>
    none)
  fun v1 =>
  fixN (fun v2 (v3 : Unit) =>
    cnd (ilt (0 : Int) (len x.1))
      (grd (inb (w64 (isub (len x.1) (1 : Int))) (len x.1))
        none)
      (v1 ())) N ()
def ps_utf8_RuneStart : List PK := [.k (.v (.u8) [])]
def rs_utf8_RuneStart : List Kd := [.v (.bool) []]
def utf8_RuneStart (N : Nat) (x : UInt8) : Option (Bool) :=
  some (ine (n8 (b8 (bitb .and .u8 (n8 x) (n8 (192 : UInt8))))) (n8 (128 : UInt8)))
def ps_utf8_decodeRuneSlow : List PK := [.k (.v (.slice (.u8)) [])]
def rs_utf8_decodeRuneSlow : List Kd := [.v (.int .i32) [], .v (.int .i64) []]
def utf8_decodeRuneSlow (N : Nat) (x : List UInt8) : Option (Int × Int) :=
  cnd (ilt (len x) (1 : Int))
    (some ((65533 : Int), (0 : Int)))
    (grd (inb (0 : Int) (len x))
      (grd (inb (n8 (lget x (toN (0 : Int)) (0 : UInt8))) (ofN 256))
        (cnd (ile (n8 (240 : UInt8)) (n8 (lget gl1 (toN (n8 (lget x (toN (0 : Int)) (0 : UInt8)))) (0 : UInt8))))
          (grd (inb (0 : Int) (len x))
            (some (bitb .or .i32 (bitb .andNot .i32 (wr .i32 (n8 (lget x (toN (0 : Int)) (0 : UInt8)))) (shrk .i32 (wr .i32 (shlk .i32 (wr .i32 (n8 (lget gl1 (toN (n8 (lget x (toN (0 : Int)) (0 : UInt8)))) (0 : UInt8)))) (31 : Int))) (31 : Int))) (bitb .and .i32 (65533 : Int) (shrk .i32 (wr .i32 (shlk .i32 (wr .i32 (n8 (lget gl1 (toN (n8 (lget x (toN (0 : Int)) (0 : UInt8)))) (0 : UInt8)))) (31 : Int))) (31 : Int))), (1 : Int))))
          (grd (inb (n8 (b8 (shrk .u8 (n8 (lget gl1 (toN (n8 (lget x (toN (0 : Int)) (0 : UInt8)))) (0 : UInt8))) (4 : Int)))) (ofN 16))
            (cnd (ilt (len x) (w64 (n8 (b8 (bitb .and .u8 (n8 (lget gl1 (toN (n8 (lget x (toN (0 : Int)) (0 : UInt8)))) (0 : UInt8))) (n8 (7 : UInt8)))))))
              (some ((65533 : Int), (1 : Int)))
              (grd (inb (1 : Int) (len x))
                (cnd (ilt (n8 (lget x (toN (1 : Int)) (0 : UInt8))) (n8 (lget gl2 (toN (n8 (b8 (shrk .u8 (n8 (lget gl1 (toN (n8 (lget x (toN (0 : Int)) (0 : UInt8)))) (0 : UInt8))) (4 : Int))))) ((0 : UInt8), (0 : UInt8))).1))
                  (some ((65533 : Int), (1 : Int)))
                  (cnd (ilt (n8 (lget gl2 (toN (n8 (b8 (shrk .u8 (n8 (lget gl1 (toN (n8 (lget x (toN (0 : Int)) (0 : UInt8)))) (0 : UInt8))) (4 : Int))))) ((0 : UInt8), (0 : UInt8))).2) (n8 (lget x (toN (1 : Int)) (0 : UInt8))))
                    (some ((65533 : Int), (1 : Int)))
                    (cnd (ile (w64 (n8 (b8 (bitb .and .u8 (n8 (lget gl1 (toN (n8 (lget x (toN (0 : Int)) (0 : UInt8)))) (0 : UInt8))) (n8 (7 : UInt8)))))) (2 : Int))
                      (some (bitb .or .i32 (wr .i32 (shlk .i32 (wr .i32 (n8 (b8 (bitb .and .u8 (n8 (lget x (toN (0 : Int)) (0 : UInt8))) (n8 (31 : UInt8)))))) (6 : Int))) (wr .i32 (n8 (b8 (bitb .and .u8 (n8 (lget x (toN (1 : Int)) (0 : UInt8))) (n8 (63 : UInt8)))))), (2 : Int)))
                      (grd (inb (2 : Int) (len x))
                        (cnd (ilt (n8 (lget x (toN (2 : Int)) (0 : UInt8))) (n8 (128 : UInt8)))
                          (some ((65533 : Int), (1 : Int)))
                          (cnd (ilt (n8 (191 : UInt8)) (n8 (lget x (toN (2 : Int)) (0 : UInt8))))
                            (some ((65533 : Int), (1 : Int)))
                            (cnd (ile (w64 (n8 (b8 (bitb .and .u8 (n8 (lget gl1 (toN (n8 (lget x (toN (0 : Int)) (0 : UInt8)))) (0 : UInt8))) (n8 (7 : UInt8)))))) (3 : Int))
                              (some (bitb .or .i32 (bitb .or .i32 (wr .i32 (shlk .i32 (wr .i32 (n8 (b8 (bitb .and .u8 (n8 (lget x (toN (0 : Int)) (0 : UInt8))) (n8 (15 : UInt8)))))) (12 : Int))) (wr .i32 (shlk .i32 (wr .i32 (n8 (b8 (bitb .and .u8 (n8 (lget x (toN (1 : Int)) (0 : UInt8))) (n8 (63 : UInt8)))))) (6 : Int)))) (wr .i32 (n8 (b8 (bitb .and .u8 (n8 (lget x (toN (2 : Int)) (0 : UInt8))) (n8 (63 : UInt8)))))), (3 : Int)))
                              (grd (inb (3 : Int) (len x))
                                (cnd (ilt (n8 (lget x (toN (3 : Int)) (0 : UInt8))) (n8 (128 : UInt8)))
                                  (some ((65533 : Int), (1 : Int)))
                                  (cnd (ilt (n8 (191 : UInt8)) (n8 (lget x (toN (3 : Int)) (0 : UInt8))))
                                    (some ((65533 : Int), (1 : Int)))
                                    (some (bitb .or .i32 (bitb .or .i32 (bitb .or .i32 (wr .i32 (shlk .i32 (wr .i32 (n8 (b8 (bitb .and .u8 (n8 (lget x (toN (0 : Int)) (0 : UInt8))) (n8 (7 : UInt8)))))) (18 : Int))) (wr .i32 (shlk .i32 (wr .i32 (n8 (b8 (bitb .and .u8 (n8 (lget x (toN (1 : Int)) (0 : UInt8))) (n8 (63 : UInt8)))))) (12 : Int)))) (wr .i32 (shlk .i32 (wr .i32 (n8 (b8 (bitb .and .u8 (n8 (lget x (toN (2 : Int)) (0 : UInt8))) (n8 (63 : UInt8)))))) (6 : Int)))) (wr .i32 (n8 (b8 (bitb .and .u8 (n8 (lget x (toN (3 : Int)) (0 : UInt8))) (n8 (63 : UInt8)))))), (4 : Int)))))))))))))))))))
def ps_utf8_DecodeRune : List PK := [.k (.v (.slice (.u8)) [])]
def rs_utf8_DecodeRune : List Kd := [.v (.int .i32) [], .v (.int .i64) []]
def utf8_DecodeRune (N : Nat) (x : List UInt8) : Option (Int × Int) :=
  jn (fun (v0 : Unit) =>
    bnd (utf8_decodeRuneSlow N x) fun v1 =>
    some v1)
  fun v2 =>
  fixN (fun v3 (v4 : Unit) =>
    cnd (ilt (0 : Int) (len x))
      (grd (inb (0 : Int) (len x))
        (cnd (ilt (n8 (lget x (toN (0 : Int)) (0 : UInt8))) (n8 (128 : UInt8)))
          (some (wr .i32 (n8 (lget x (toN (0 : Int)) (0 : UInt8))), (1 : Int)))
          (v2 ())))
      (v2 ())) N ()
def ps_utf8_DecodeLastRune : List PK := [.k (.v (.slice (.u8)) [])]
def rs_utf8_DecodeLastRune : List Kd := [.v (.int .i32) [], .v (.int .i64) []]
def utf8_DecodeLastRune (N : Nat) (x : List UInt8) : Option (Int × Int) :=
  cnd (ieq (len x) (0 : Int))
    (some ((65533 : Int), (0 : Int)))
    (grd (inb (w64 (isub (len x) (1 : Int))) (len x))
      (cnd (ilt (wr .i32 (n8 (lget x (toN (w64 (isub (len x) (1 : Int)))) (0 : UInt8)))) (128 : Int))
        (some (wr .i32 (n8 (lget x (toN (w64 (isub (len x) (1 : Int)))) (0 : UInt8))), (1 : Int)))
        (jn (fun (v0 : Int) =>
          jn (fun (v1 : Int) =>
            grd (in3 v1 (len x) (len x)) <|
            bnd (utf8_DecodeRune N (ldrop (toN v1) (ltake (toN (len x)) x))) fun v2 =>
            cnd (ine (w64 (iadd v1 v2.2)) (len x))
              (some ((65533 : Int), (1 : Int)))
              (some v2))
          fun v3 =>
          cnd (ilt v0 (0 : Int))
            (v3 (0 : Int))
            (v3 v0))
        fun v4 =>
        fixN (fun v5 (v6 : Int) =>
          cnd (ile (imax (w64 (isub (len x) (4 : Int))) (0 : Int)) v6)
            (grd (inb v6 (len x))
              (bnd (utf8_RuneStart N (lget x (toN v6) (0 : UInt8))) fun v7 =>
              cnd v7
                (v4 v6)
                (v5 (w64 (isub v6 (1 : Int))))))
            (v4 v6)) N (w64 (isub (w64 (isub (len x) (1 : Int))) (1 : Int))))))
def ps_bytes_containsRune : List PK := [.k (.v (.str) []), .k (.v (.int .i32) [])]
def rs_bytes_containsRune : List Kd := [.v (.bool) []]
def bytes_containsRune (N : Nat) (x : List UInt8 × Int) : Option (Bool) :=
  jn (fun (v0 : Unit) =>
    some false)
  fun v1 =>
  fixN (fun v2 (v3 : (List UInt8) × Int) =>
    cnd (nlt (toN v3.2) (nlen v3.1))
      (cnd (ieq (decR v3.1 (toN v3.2)) x.2)
        (some true)
        (v2 (v3.1, ofN (nadd (toN v3.2) (decW v3.1 (toN v3.2))))))
      (v1 ())) N (x.1, ofN 0)
def ps_bytes_trimRightUnicode : List PK := [.k (.v (.slice (.u8)) []), .k (.v (.str) [])]
def rs_bytes_trimRightUnicode : List Kd := [.v (.slice (.u8)) []]
def bytes_trimRightUnicode (N : Nat) (x : List UInt8 × List UInt8) : Option (List UInt8) :=
  jn (fun (v0 : List UInt8) =>
    some v0)
  fun v1 =>
  fixN (fun v2 (v3 : List UInt8) =>
    cnd (ilt (0 : Int) (len v3))
      (grd (inb (w64 (isub (len v3) (1 : Int))) (len v3))
        (cnd (ile (128 : Int) (wr .i32 (n8 (lget v3 (toN (w64 (isub (len v3) (1 : Int)))) (0 : UInt8)))))
          (bnd (utf8_DecodeLastRune N v3) fun v4 =>
          bnd (bytes_containsRune N (x.2, v4.1)) fun v5 =>
          cnd (bnot v5)
            (v1 v3)
            (grd (in2 (w64 (isub (len v3) v4.2)) (len v3))
              (v2 (ltake (toN (w64 (isub (len v3) v4.2))) v3))))
          (bnd (bytes_containsRune N (x.2, wr .i32 (n8 (lget v3 (toN (w64 (isub (len v3) (1 : Int)))) (0 : UInt8))))) fun v6 =>
          cnd (bnot v6)
            (v1 v3)
            (grd (in2 (w64 (isub (len v3) (1 : Int))) (len v3))
              (v2 (ltake (toN (w64 (isub (len v3) (1 : Int)))) v3))))))
      (v1 v3)) N x.1
def ps_bytes_TrimRight : List PK := [.k (.v (.slice (.u8)) []), .k (.v (.str) [])]
def rs_bytes_TrimRight : List Kd := [.v (.slice (.u8)) []]
def bytes_TrimRight (N : Nat) (x : List UInt8 × List UInt8) : Option (List UInt8) :=
  cnd (ieq (len x.1) (0 : Int))
    (some x.1)
    (cnd (seq x.2 ([] : List UInt8))
      (some x.1)
      (cnd (ieq (len x.2) (1 : Int))
        (grd (inb (0 : Int) (len x.2))
          (cnd (ilt (n8 (lget x.2 (toN (0 : Int)) (0 : UInt8))) (n8 (128 : UInt8)))
            (grd (inb (0 : Int) (len x.2))
              (bnd (bytes_trimRightByte N (x.1, lget x.2 (toN (0 : Int)) (0 : UInt8))) fun v0 =>
              some v0))
            none))
        none))
def ps_charset_Lower : List PK := [.k (.v (.int .i32) [])]
def rs_charset_Lower : List Kd := [.v (.int .i32) []]
def charset_Lower (N : Nat) (x : Int) : Option (Int) :=
  bnd (charset_Index N x) fun v0 =>
  cnd (ilt v0 (0 : Int))
    (some (0 : Int))
    (jn (fun (v1 : Bool) =>
      cnd v1
        (some (wr .i32 (iadd x (32 : Int))))
        (cnd (ieq x (338 : Int))
          (some (339 : Int))
          (some x)))
    fun v2 =>
    cnd (ile (65 : Int) x)
      (cnd (ile x (90 : Int))
        (v2 (ile x (90 : Int)))
        (cnd (ile (192 : Int) x)
          (v2 (ilt x (223 : Int)))
          (v2 false)))
      (cnd (ile (192 : Int) x)
        (v2 (ilt x (223 : Int)))
        (v2 false)))
def ps_latin_Get : List PK := [.k (.v (.slice (.u8)) [])]
def rs_latin_Get : List Kd := [.v (.int .i32) [], .v (.int .i64) []]
def latin_Get (N : Nat) (x : List UInt8) : Option (Int × Int) :=
  cnd (ieq (len x) (0 : Int))
    (some ((0 : Int), (0 : Int)))
    (jn (fun (v0 : Unit) =>
      jn (fun (v1 : Unit) =>
        cnd (ilt (len x) (2 : Int))
          (some ((0 : Int), (0 : Int)))
          (jn (fun (v2 : Unit) =>
            some ((0 : Int), (0 : Int)))
          fun v3 =>
          grd (inb (0 : Int) (len x)) <|
          bnd (latin_accented N (lget x (toN (0 : Int)) (0 : UInt8))) fun v4 =>
          fixN (fun v5 (v6 : (List UInt8) × Int) =>
            cnd (nlt (toN v6.2) (nlen v6.1))
              (bnd (charset_Lower N (decR v6.1 (toN v6.2))) fun v7 =>
              fixN (fun v8 (v9 : Int) =>
                cnd (ilt v9 (2 : Int))
                  (grd (inb v9 (ofN 2))
                    (bnd (charset_Base N (lget ([decR v6.1 (toN v6.2), v7] : List Int) (toN v9) (0 : Int))) fun v10 =>
                    grd (inb (1 : Int) (len x)) <|
                    cnd (ieq v10 (wr .i32 (n8 (lget x (toN (1 : Int)) (0 : UInt8)))))
                      (some (lget ([decR v6.1 (toN v6.2), v7] : List Int) (toN v9) (0 : Int), (2 : Int)))
                      (v8 (w64 (iadd v9 (1 : Int))))))
                  (v5 (v6.1, ofN (nadd (toN v6.2) (decW v6.1 (toN v6.2)))))) N (0 : Int))
              (v3 ())) N (v4, ofN 0)))
      fun v11 =>
      fixN (fun v12 (v13 : Int × (List UInt8) × Int) =>
        cnd (nlt (toN v13.2.2) (nlen v13.2.1))
          (grd (inb v13.1 (len ([161, 162, 163, 164, 165, 166, 167, 168, 169, 170, 171, 172, 173, 174, 175, 176, 180, 183, 185, 186, 187, 189, 191, 213, 225, 233, 234, 241, 249, 250, 251] : List UInt8)))
            (grd (inb (0 : Int) (len x))
              (cnd (ieq (n8 (lget ([161, 162, 163, 164, 165, 166, 167, 168, 169, 170, 171, 172, 173, 174, 175, 176, 180, 183, 185, 186, 187, 189, 191, 213, 225, 233, 234, 241, 249, 250, 251] : List UInt8) (toN v13.1) (0 : UInt8))) (n8 (lget x (toN (0 : Int)) (0 : UInt8))))
                (some (decR v13.2.1 (toN v13.2.2), (1 : Int)))
                (v12 (w64 (iadd v13.1 (1 : Int)), v13.2.1, ofN (nadd (toN v13.2.2) (decW v13.2.1 (toN v13.2.2))))))))
          (v11 ())) N ((0 : Int), ([194, 161, 194, 162, 194, 163, 194, 164, 194, 165, 194, 166, 194, 167, 194, 169, 226, 128, 152, 226, 128, 156, 194, 171, 194, 174, 226, 128, 148, 226, 128, 162, 226, 128, 166, 194, 176, 226, 132, 162, 194, 183, 226, 128, 153, 226, 128, 157, 194, 187, 194, 189, 194, 191, 226, 153, 170, 195, 134, 195, 152, 197, 146, 195, 166, 195, 184, 197, 147, 195, 159] : List UInt8), ofN 0))
    fun v14 =>
    grd (inb (0 : Int) (len x)) <|
    cnd (ile (n8 (32 : UInt8)) (n8 (lget x (toN (0 : Int)) (0 : UInt8))))
      (grd (inb (0 : Int) (len x))
        (cnd (ilt (n8 (lget x (toN (0 : Int)) (0 : UInt8))) (n8 (127 : UInt8)))
          (grd (inb (0 : Int) (len x))
            (some (wr .i32 (n8 (lget x (toN (0 : Int)) (0 : UInt8))), (1 : Int))))
          (v14 ())))
      (v14 ()))
def ps_strings_Builder_copyCheck : List PK := [.k (.b 83 (.st (.pair (.nptr) (.slice (.u8)))) [1])]
def rs_strings_Builder_copyCheck : List Kd := []
def strings_Builder_copyCheck (N : Nat) (x : Unit × List UInt8) : Option (Unit × List UInt8) := hand_strings_Builder_copyCheck N x
def ps_utf8_appendRuneNonASCII : List PK := [.k (.v (.slice (.u8)) [0]), .k (.v (.int .i32) [])]
def rs_utf8_appendRuneNonASCII : List Kd := [.v (.slice (.u8)) [0]]
def utf8_appendRuneNonASCII (N : Nat) (x : List UInt8 × Int) : Option (List UInt8) :=
  cnd (ile (wr .u32 x.2) (2047 : Int))
    (grd (room (iadd (len x.1) (len ([b8 (bitb .or .u8 (n8 (192 : UInt8)) (n8 (b8 (shrk .i32 x.2 (6 : Int))))), b8 (bitb .or .u8 (n8 (128 : UInt8)) (n8 (b8 (bitb .and .u8 (n8 (b8 x.2)) (n8 (63 : UInt8))))))] : List UInt8))) 1)
      (some (lapp x.1 ([b8 (bitb .or .u8 (n8 (192 : UInt8)) (n8 (b8 (shrk .i32 x.2 (6 : Int))))), b8 (bitb .or .u8 (n8 (128 : UInt8)) (n8 (b8 (bitb .and .u8 (n8 (b8 x.2)) (n8 (63 : UInt8))))))] : List UInt8))))
    (jn (fun (v0 : Bool) =>
      cnd v0
        (grd (room (iadd (len x.1) (len ([b8 (bitb .or .u8 (n8 (224 : UInt8)) (n8 (b8 (shrk .i32 x.2 (12 : Int))))), b8 (bitb .or .u8 (n8 (128 : UInt8)) (n8 (b8 (bitb .and .u8 (n8 (b8 (shrk .i32 x.2 (6 : Int)))) (n8 (63 : UInt8)))))), b8 (bitb .or .u8 (n8 (128 : UInt8)) (n8 (b8 (bitb .and .u8 (n8 (b8 x.2)) (n8 (63 : UInt8))))))] : List UInt8))) 1)
          (some (lapp x.1 ([b8 (bitb .or .u8 (n8 (224 : UInt8)) (n8 (b8 (shrk .i32 x.2 (12 : Int))))), b8 (bitb .or .u8 (n8 (128 : UInt8)) (n8 (b8 (bitb .and .u8 (n8 (b8 (shrk .i32 x.2 (6 : Int)))) (n8 (63 : UInt8)))))), b8 (bitb .or .u8 (n8 (128 : UInt8)) (n8 (b8 (bitb .and .u8 (n8 (b8 x.2)) (n8 (63 : UInt8))))))] : List UInt8))))
        (cnd (ilt (65535 : Int) (wr .u32 x.2))
          (cnd (ile (wr .u32 x.2) (1114111 : Int))
            (grd (room (iadd (len x.1) (len ([b8 (bitb .or .u8 (n8 (240 : UInt8)) (n8 (b8 (shrk .i32 x.2 (18 : Int))))), b8 (bitb .or .u8 (n8 (128 : UInt8)) (n8 (b8 (bitb .and .u8 (n8 (b8 (shrk .i32 x.2 (12 : Int)))) (n8 (63 : UInt8)))))), b8 (bitb .or .u8 (n8 (128 : UInt8)) (n8 (b8 (bitb .and .u8 (n8 (b8 (shrk .i32 x.2 (6 : Int)))) (n8 (63 : UInt8)))))), b8 (bitb .or .u8 (n8 (128 : UInt8)) (n8 (b8 (bitb .and .u8 (n8 (b8 x.2)) (n8 (63 : UInt8))))))] : List UInt8))) 1)
              (some (lapp x.1 ([b8 (bitb .or .u8 (n8 (240 : UInt8)) (n8 (b8 (shrk .i32 x.2 (18 : Int))))), b8 (bitb .or .u8 (n8 (128 : UInt8)) (n8 (b8 (bitb .and .u8 (n8 (b8 (shrk .i32 x.2 (12 : Int)))) (n8 (63 : UInt8)))))), b8 (bitb .or .u8 (n8 (128 : UInt8)) (n8 (b8 (bitb .and .u8 (n8 (b8 (shrk .i32 x.2 (6 : Int)))) (n8 (63 : UInt8)))))), b8 (bitb .or .u8 (n8 (128 : UInt8)) (n8 (b8 (bitb .and .u8 (n8 (b8 x.2)) (n8 (63 : UInt8))))))] : List UInt8))))
            (grd (room (iadd (len x.1) (len ([239, 191, 189] : List UInt8))) 1)
              (some (lapp x.1 ([239, 191, 189] : List UInt8)))))
          (grd (room (iadd (len x.1) (len ([239, 191, 189] : List UInt8))) 1)
            (some (lapp x.1 ([239, 191, 189] : List UInt8))))))
    fun v1 =>
    cnd (ilt (wr .u32 x.2) (55296 : Int))
      (v1 (ilt (wr .u32 x.2) (55296 : Int)))
      (cnd (ilt (57343 : Int) (wr .u32 x.2))
        (v1 (ile (wr .u32 x.2) (65535 : Int)))
        (v1 false)))
def ps_utf8_AppendRune : List PK := [.k (.v (.slice (.u8)) [0]), .k (.v (.int .i32) [])]
def rs_utf8_AppendRune : List Kd := [.v (.slice (.u8)) [0]]
def utf8_AppendRune (N : Nat) (x : List UInt8 × Int) : Option (List UInt8) :=
  cnd (ile (wr .u32 x.2) (127 : Int))
    (grd (room (iadd (len x.1) (len ([b8 x.2] : List UInt8))) 1)
      (some (lapp x.1 ([b8 x.2] : List UInt8))))
    (bnd (utf8_appendRuneNonASCII N x) fun v0 =>
    some v0)
def ps_strings_Builder_WriteRune : List PK := [.k (.b 83 (.st (.pair (.nptr) (.slice (.u8)))) [1]), .k (.v (.int .i32) [])]
def rs_strings_Builder_WriteRune : List Kd := [.v (.int .i64) [], .v (.nif) []]
def strings_Builder_WriteRune (N : Nat) (x : (Unit × List UInt8) × Int) : Option (Int × Unit × Unit × List UInt8) :=
  bnd (strings_Builder_copyCheck N ((), x.1.2)) fun v0 =>
  bnd (utf8_AppendRune N (v0.2, x.2)) fun v1 =>
  some (w64 (isub (len v1) (len v0.2)), (), (), v1)
def ps_latin_Decode : List PK := [.k (.v (.slice (.u8)) [])]
def rs_latin_Decode : List Kd := [.v (.str) [], .v (.int .i64) []]
def latin_Decode (N : Nat) (x : List UInt8) : Option (List UInt8 × Int) :=
  jn (fun (v0 : Unit × List UInt8) =>
    some (v0.2, (0 : Int)))
  fun v1 =>
  fixN (fun v2 (v3 : (List UInt8) × Unit × List UInt8) =>
    cnd (ilt (0 : Int) (len v3.1))
      (bnd (latin_Get N v3.1) fun v4 =>
      cnd (ieq v4.2 (0 : Int))
        (some (([] : List UInt8), (4 : Int)))
        (bnd (strings_Builder_WriteRune N (((), v3.2.2), v4.1)) fun v5 =>
        grd (in2 v4.2 (len v3.1)) <|
        v2 (ldrop (toN v4.2) v3.1, (), v5.2.2.2)))
      (v1 ((), v3.2.2))) N (x, (), ([] : List UInt8))
def ps_bytes_Equal : List PK := [.k (.v (.slice (.u8)) []), .k (.v (.slice (.u8)) [])]
def rs_bytes_Equal : List Kd := [.v (.bool) []]
def bytes_Equal (N : Nat) (x : List UInt8 × List UInt8) : Option (Bool) :=
  some (seq x.1 x.2)
def ps_tape_GetHeader : List PK := [.k (.v (.slice (.u8)) [])]
def rs_tape_GetHeader : List Kd := [.v (.st (.pair (.u8) (.pair (.str) (.pair (.str) (.pair (.int .i64) (.pair (.int .i64) (.pair (.st (.pair (.int .i64) (.pair (.int .i64) (.pair (.int .i64) (.pair (.int .i64) (.bool)))))) (.pair (.st (.pair (.int .i64) (.pair (.int .i64) (.pair (.int .i64) (.pair (.int .i64) (.bool)))))) (.pair (.int .i64) (.int .i64)))))))))) [], .v (.int .i64) []]
def tape_GetHeader (N : Nat) (x : List UInt8) : Option ((UInt8 × (List UInt8) × (List UInt8) × Int × Int × (Int × Int × Int × Int × Bool) × (Int × Int × Int × Int × Bool) × Int × Int) × Int) :=
  cnd (ine (len x) (1024 : Int))
    (some (((0 : UInt8), ([] : List UInt8), ([] : List UInt8), (0 : Int), (0 : Int), ((0 : Int), (0 : Int), (0 : Int), (0 : Int), false), ((0 : Int), (0 : Int), (0 : Int), (0 : Int), false), (0 : Int), (0 : Int)), (4 : Int)))
    (grd (in3 (27 : Int) (32 : Int) (len x))
      (bnd (tape_number N (ldrop (toN (27 : Int)) (ltake (toN (32 : Int)) x))) fun v0 =>
      grd (in3 (32 : Int) (37 : Int) (len x)) <|
      bnd (tape_number N (ldrop (toN (32 : Int)) (ltake (toN (37 : Int)) x))) fun v1 =>
      grd (in3 (37 : Int) (45 : Int) (len x)) <|
      bnd (tape_label N (ldrop (toN (37 : Int)) (ltake (toN (45 : Int)) x))) fun v2 =>
      grd (in3 (45 : Int) (53 : Int) (len x)) <|
      bnd (tape_label N (ldrop (toN (45 : Int)) (ltake (toN (53 : Int)) x))) fun v3 =>
      grd (in3 (53 : Int) (55 : Int) (len x)) <|
      bnd (tape_number N (ldrop (toN (53 : Int)) (ltake (toN (55 : Int)) x))) fun v4 =>
      grd (in3 (55 : Int) (57 : Int) (len x)) <|
      bnd (tape_number N (ldrop (toN (55 : Int)) (ltake (toN (57 : Int)) x))) fun v5 =>
      jn (fun (v6 : UInt8 × (List UInt8) × (List UInt8) × Int × Int × (Int × Int × Int × Int × Bool) × (Int × Int × Int × Int × Bool) × Int × Int) =>
        grd (in3 (8 : Int) (24 : Int) (len x)) <|
        bnd (bytes_TrimRight N (ldrop (toN (8 : Int)) (ltake (toN (24 : Int)) x), ([32] : List UInt8))) fun v7 =>
        grd (in3 (24 : Int) (27 : Int) (len x)) <|
        bnd (tape_number N (ldrop (toN (24 : Int)) (ltake (toN (27 : Int)) x))) fun v8 =>
        grd (in3 (64 : Int) (imin (w64 (iadd (64 : Int) v8)) (1024 : Int)) (len x)) <|
        bnd (latin_Decode N (ldrop (toN (64 : Int)) (ltake (toN (imin (w64 (iadd (64 : Int) v8)) (1024 : Int))) x))) fun v9 =>
        cnd (ine v9.2 (0 : Int))
          (some (((0 : UInt8), ([] : List UInt8), ([] : List UInt8), (0 : Int), (0 : Int), ((0 : Int), (0 : Int), (0 : Int), (0 : Int), false), ((0 : Int), (0 : Int), (0 : Int), (0 : Int), false), (0 : Int), (0 : Int)), (4 : Int)))
          (bnd (tape_PutHeader N (v6.1, v7, v9.1, v6.2.2.2)) fun v10 =>
          cnd (ine v10.2 (0 : Int))
            (some (((0 : UInt8), ([] : List UInt8), ([] : List UInt8), (0 : Int), (0 : Int), ((0 : Int), (0 : Int), (0 : Int), (0 : Int), false), ((0 : Int), (0 : Int), (0 : Int), (0 : Int), false), (0 : Int), (0 : Int)), (4 : Int)))
            (bnd (bytes_Equal N (x, v10.1)) fun v11 =>
            cnd (bnot v11)
              (some (((0 : UInt8), ([] : List UInt8), ([] : List UInt8), (0 : Int), (0 : Int), ((0 : Int), (0 : Int), (0 : Int), (0 : Int), false), ((0 : Int), (0 : Int), (0 : Int), (0 : Int), false), (0 : Int), (0 : Int)), (4 : Int)))
              (some ((v6.1, v7, v9.1, v6.2.2.2), (0 : Int))))))
      fun v12 =>
      grd (in2 (8 : Int) (len x)) <|
      bnd (tape_signature N (5 : UInt8)) fun v13 =>
      cnd (seq (ltake (toN (8 : Int)) x) v13)
        (v12 ((5 : UInt8), ([] : List UInt8), ([] : List UInt8), v0, v1, v2, v3, v4, v5))
        (v12 ((3 : UInt8), ([] : List UInt8), ([] : List UInt8), v0, v1, v2, v3, v4, v5))))
def ps_l23_TapeHeaders : List PK := [.k (.v (.st (.pair (.u8) (.pair (.str) (.pair (.str) (.pair (.int .i64) (.pair (.int .i64) (.pair (.st (.pair (.int .i64) (.pair (.int .i64) (.pair (.int .i64) (.pair (.int .i64) (.bool)))))) (.pair (.st (.pair (.int .i64) (.pair (.int .i64) (.pair (.int .i64) (.pair (.int .i64) (.bool)))))) (.pair (.int .i64) (.int .i64)))))))))) [])]
def rs_l23_TapeHeaders : List Kd := [.v (.bool) []]
def l23_TapeHeaders (N : Nat) (x : UInt8 × (List UInt8) × (List UInt8) × Int × Int × (Int × Int × Int × Int × Bool) × (Int × Int × Int × Int × Bool) × Int × Int) : Option (Bool) :=
  bnd (l23_awake N ()) fun v0 =>
  cnd (bnot v0)
    (some false)
    (grd (in2 (imin (len x.2.1) (40 : Int)) (len x.2.1))
      (grd (in2 (imin (len x.2.2.1) (420 : Int)) (len x.2.2.1))
        (bnd (tape_PutHeader N (x.1, ltake (toN (imin (len x.2.1) (40 : Int))) x.2.1, ltake (toN (imin (len x.2.2.1) (420 : Int))) x.2.2.1, x.2.2.2)) fun v1 =>
        bnd (r23_PutHeader N (x.1, ltake (toN (imin (len x.2.1) (40 : Int))) x.2.1, ltake (toN (imin (len x.2.2.1) (420 : Int))) x.2.2.1, x.2.2.2)) fun v2 =>
        bnd (slices_Equal_Lbyte_byte N (v1.1, v2.1)) fun v3 =>
        cnd (bnot v3)
          (some false)
          (cnd (ine v1.2 v2.2)
            (some false)
            (bnd (tape_CheckHeader N (x.1, ltake (toN (imin (len x.2.1) (40 : Int))) x.2.1, ltake (toN (imin (len x.2.2.1) (420 : Int))) x.2.2.1, x.2.2.2)) fun v4 =>
            cnd (ine v4 v1.2)
              (some false)
              (cnd (ine v1.2 (0 : Int))
                (some (ieq (len v1.1) (0 : Int)))
                (bnd (tape_GetHeader N v1.1) fun v5 =>
                cnd (ieq v5.2 (0 : Int))
                  (cnd (band (ieq (n8 v5.1.1) (n8 x.1)) (band (seq v5.1.2.1 (ltake (toN (imin (len x.2.1) (40 : Int))) x.2.1)) (band (seq v5.1.2.2.1 (ltake (toN (imin (len x.2.2.1) (420 : Int))) x.2.2.1)) (band (ieq v5.1.2.2.2.1 x.2.2.2.1) (band (ieq v5.1.2.2.2.2.1 x.2.2.2.2.1) (band (band (ieq v5.1.2.2.2.2.2.1.1 x.2.2.2.2.2.1.1) (band (ieq v5.1.2.2.2.2.2.1.2.1 x.2.2.2.2.2.1.2.1) (band (ieq v5.1.2.2.2.2.2.1.2.2.1 x.2.2.2.2.2.1.2.2.1) (band (ieq v5.1.2.2.2.2.2.1.2.2.2.1 x.2.2.2.2.2.1.2.2.2.1) (beqb v5.1.2.2.2.2.2.1.2.2.2.2 x.2.2.2.2.2.1.2.2.2.2))))) (band (band (ieq v5.1.2.2.2.2.2.2.1.1 x.2.2.2.2.2.2.1.1) (band (ieq v5.1.2.2.2.2.2.2.1.2.1 x.2.2.2.2.2.2.1.2.1) (band (ieq v5.1.2.2.2.2.2.2.1.2.2.1 x.2.2.2.2.2.2.1.2.2.1) (band (ieq v5.1.2.2.2.2.2.2.1.2.2.2.1 x.2.2.2.2.2.2.1.2.2.2.1) (beqb v5.1.2.2.2.2.2.2.1.2.2.2.2 x.2.2.2.2.2.2.1.2.2.2.2))))) (band (ieq v5.1.2.2.2.2.2.2.2.1 x.2.2.2.2.2.2.2.1) (ieq v5.1.2.2.2.2.2.2.2.2 x.2.2.2.2.2.2.2.2)))))))))
                    (some (ieq (len v1.1) (1024 : Int)))
                    (some false))
                  (some false))))))))
end
end Go.Mo
end

section
/-
  The environment is sound; contracts by hand.
-/
namespace Go.Mo
open Go Go.W Go.Proofs
set_option maxRecDepth 100000
theorem nzOk : NzOk E.P 36 := nz_ok (show E.P.funcs[36]? = some Tryd.f36 from by kernel_rfl) (by kernel_rfl) (by kernel_rfl) (by kernel_rfl) (show Extern.find Tryd.f36 = some (Extern.BytealgMakeNoZero.makeNoZero #[3] #[28]) from by kernel_rfl) (by kernel_rfl)
theorem envOk : EnvOk E := ⟨chk, mixed, fun z h => by injection h with h; subst h; exact nzOk, fun z t h => by injection h with h; injection h with h1 h2; subst h1; subst h2; exact bsOk⟩
theorem kh_bytealg_IndexByte (N : Nat) : ConOk E ⟨56, ps_bytealg_IndexByte, rs_bytealg_IndexByte, bytealg_IndexByte N⟩ := W.kh_IndexByte (show E.P.funcs[56]? = some Tryd.f56 from by kernel_rfl) (by kernel_rfl) (by kernel_rfl) (by kernel_rfl) (show Extern.find Tryd.f56 = some Extern.BytealgIndexByte.indexByte from by kernel_rfl) N
theorem kh_utf8_ValidString (N : Nat) : ConOk E ⟨43, ps_utf8_ValidString, rs_utf8_ValidString, utf8_ValidString N⟩ := khV N
theorem kh_bytealg_IndexByteString (N : Nat) : ConOk E ⟨98, ps_bytealg_IndexByteString, rs_bytealg_IndexByteString, bytealg_IndexByteString N⟩ := W.kh_IndexByteString (show E.P.funcs[98]? = some Tryd.f98 from by kernel_rfl) (by kernel_rfl) (by kernel_rfl) (by kernel_rfl) (show Extern.find Tryd.f98 = some Extern.BytealgIndexByte.indexByte from by kernel_rfl) N
theorem kh_strings_Builder_copyCheck (N : Nat) : ConOk E ⟨82, ps_strings_Builder_copyCheck, rs_strings_Builder_copyCheck, strings_Builder_copyCheck N⟩ := W.kh_copyCheck (show CcOk E.P 82 83 from ccOk) N
end Go.Mo
end

section
/-
  The functions do what their models say. Printed by a program.
-/
namespace Go.Mo
open Go Go.W Go.Proofs
noncomputable section
set_option maxRecDepth 100000
def a_l23_example : Ann := .lf
theorem x_l23_example (N : Nat) : execF E [] N Tryd.f11 a_l23_example ps_l23_example rs_l23_example = l23_example N := by kernel_rfl
def a_tape_timed : Ann := .lf
theorem x_tape_timed (N : Nat) : execF E [] N Tryd.f55 a_tape_timed ps_tape_timed rs_tape_timed = tape_timed N := by kernel_rfl

def a_bytes_IndexByte : Ann := .lf
theorem x_bytes_IndexByte (N : Nat) : execF E [⟨56, ps_bytealg_IndexByte, rs_bytealg_IndexByte, bytealg_IndexByte N⟩] N Tryd.f32 a_bytes_IndexByte ps_bytes_IndexByte rs_bytes_IndexByte = bytes_IndexByte N := by kernel_rfl
def a_tape_Check : Ann := (.sq .lf (.sq (.sq .lf (.sq .lf (.jn ⟨[1], [2], [.s 22], [.v (.bool) []]⟩ .lf .lf))) .lf))
theorem x_tape_Check (N : Nat) : execF E [⟨55, ps_tape_timed, rs_tape_timed, tape_timed N⟩, ⟨32, ps_bytes_IndexByte, rs_bytes_IndexByte, bytes_IndexByte N⟩] N Tryd.f31 a_tape_Check ps_tape_Check rs_tape_Check = tape_Check N := by kernel_rfl
def a_bits_Mul32 : Ann := .lf
theorem x_bits_Mul32 (N : Nat) : execF E [] N Tryd.f62 a_bits_Mul32 ps_bits_Mul32 rs_bits_Mul32 = bits_Mul32 N := by kernel_rfl
def a_bits_Mul64 : Ann := .lf
theorem x_bits_Mul64 (N : Nat) : execF E [] N Tryd.f63 a_bits_Mul64 ps_bits_Mul64 rs_bits_Mul64 = bits_Mul64 N := by kernel_rfl
def a_bits_Mul : Ann := .lf
theorem x_bits_Mul (N : Nat) : execF E [⟨62, ps_bits_Mul32, rs_bits_Mul32, bits_Mul32 N⟩, ⟨63, ps_bits_Mul64, rs_bits_Mul64, bits_Mul64 N⟩] N Tryd.f35 a_bits_Mul ps_bits_Mul rs_bits_Mul = bits_Mul N := by kernel_rfl
def a_bytes_Repeat : Ann := (.sq .lf (.sq .lf (.sq .lf (.sq .lf (.sq .lf (.sq .lf (.sq .lf (.sq .lf (.jn ⟨[0, 7], [], [.s 8], [.v (.int .i64) []]⟩ .lf (.sq .lf (.sq .lf (.jn ⟨[9], [], [.o 36], [.r 40 (.u8)]⟩ (.lp ⟨[7, 8, 9], [], [.s 10, .o 36], [.v (.int .i64) [], .r 40 (.u8)]⟩ .lf) .lf))))))))))))
theorem x_bytes_Repeat (N : Nat) : execF E [⟨35, ps_bits_Mul, rs_bits_Mul, bits_Mul N⟩] N Tryd.f14 a_bytes_Repeat ps_bytes_Repeat rs_bytes_Repeat = bytes_Repeat N := by kernel_rfl
def a_tape_Put : Ann := (.sq .lf (.sq .lf (.sq .lf (.jn ⟨[1], [2], [.s 5], [.v (.u8) []]⟩ .lf .lf))))
theorem x_tape_Put (N : Nat) : execF E [⟨31, ps_tape_Check, rs_tape_Check, tape_Check N⟩, ⟨14, ps_bytes_Repeat, rs_bytes_Repeat, bytes_Repeat N⟩] N Tryd.f10 a_tape_Put ps_tape_Put rs_tape_Put = tape_Put N := by kernel_rfl
def a_slices_Equal_Lbyte_byte : Ann := (.sq .lf (.sq .lf (.jn ⟨[], [], [], []⟩ (.sq .lf (.lp ⟨[0, 1, 12], [], [.s 13], [.v (.int .i64) []]⟩ .lf)) .lf)))
theorem x_slices_Equal_Lbyte_byte (N : Nat) : execF E [] N Tryd.f7 a_slices_Equal_Lbyte_byte ps_slices_Equal_Lbyte_byte rs_slices_Equal_Lbyte_byte = slices_Equal_Lbyte_byte N := by kernel_rfl
def a_bytes_Clone : Ann := .lf
theorem x_bytes_Clone (N : Nat) : execF E [] N Tryd.f33 a_bytes_Clone ps_bytes_Clone rs_bytes_Clone = bytes_Clone N := by kernel_rfl
def a_tape_Split : Ann := (.sq .lf (.sq .lf (.sq .lf (.sq .lf (.sq .lf (.sq .lf (.sq .lf (.jn ⟨[], [], [.s 8], [.v (.slice (.st (.pair (.int .i64) (.pair (.int .i64) (.pair (.u8) (.pair (.u8) (.pair (.st (.pair (.int .i64) (.pair (.int .i64) (.pair (.int .i64) (.pair (.int .i64) (.bool)))))) (.pair (.st (.pair (.int .i64) (.pair (.int .i64) (.pair (.int .i64) (.pair (.int .i64) (.bool)))))) (.pair (.int .i64) (.pair (.u8) (.pair (.bool) (.slice (.u8))))))))))))) [0]]⟩ (.sq .lf (.lp ⟨[1, 2, 7, 29], [2], [.s 8, .s 30], [.v (.slice (.st (.pair (.int .i64) (.pair (.int .i64) (.pair (.u8) (.pair (.u8) (.pair (.st (.pair (.int .i64) (.pair (.int .i64) (.pair (.int .i64) (.pair (.int .i64) (.bool)))))) (.pair (.st (.pair (.int .i64) (.pair (.int .i64) (.pair (.int .i64) (.pair (.int .i64) (.bool)))))) (.pair (.int .i64) (.pair (.u8) (.pair (.bool) (.slice (.u8))))))))))))) [0], .v (.int .i64) []]⟩ (.sq .lf (.sq .lf (.sq (.sq .lf (.sq .lf (.sq .lf (.jn ⟨[1, 2, 7, 8, 9, 10, 29, 30], [30, 2], [.o 36], [.b 40 (.st (.pair (.int .i64) (.pair (.int .i64) (.pair (.u8) (.pair (.u8) (.pair (.st (.pair (.int .i64) (.pair (.int .i64) (.pair (.int .i64) (.pair (.int .i64) (.bool)))))) (.pair (.st (.pair (.int .i64) (.pair (.int .i64) (.pair (.int .i64) (.pair (.int .i64) (.bool)))))) (.pair (.int .i64) (.pair (.u8) (.pair (.bool) (.slice (.u8)))))))))))) [17]]⟩ .lf .lf)))) .lf))))) .lf))))))))
theorem x_tape_Split (N : Nat) : execF E [⟨31, ps_tape_Check, rs_tape_Check, tape_Check N⟩, ⟨32, ps_bytes_IndexByte, rs_bytes_IndexByte, bytes_IndexByte N⟩, ⟨33, ps_bytes_Clone, rs_bytes_Clone, bytes_Clone N⟩] N Tryd.f12 a_tape_Split ps_tape_Split rs_tape_Split = tape_Split N := by kernel_rfl
end
end Go.Mo
end

section
/-
  The functions do what their models say. Printed by a program.
-/
namespace Go.Mo
open Go Go.W Go.Proofs
noncomputable section
set_option maxRecDepth 100000
def a_l23_awake : Ann := .lf
theorem x_l23_awake (N : Nat) : execF E [⟨11, ps_l23_example, rs_l23_example, l23_example N⟩, ⟨10, ps_tape_Put, rs_tape_Put, tape_Put N⟩, ⟨7, ps_slices_Equal_Lbyte_byte, rs_slices_Equal_Lbyte_byte, slices_Equal_Lbyte_byte N⟩, ⟨12, ps_tape_Split, rs_tape_Split, tape_Split N⟩] N Tryd.f4 a_l23_awake ps_l23_awake rs_l23_awake = l23_awake N := by kernel_rfl
def a_lines_Name : Ann := (.sq .lf (.sq .lf (.jn ⟨[], [], [], []⟩ (.sq .lf (.lp ⟨[0, 24], [], [.s 25], [.v (.int .i64) []]⟩ (.sq .lf (.sq .lf (.jn ⟨[0, 24, 25], [], [], []⟩ .lf .lf))))) .lf)))
theorem x_lines_Name (N : Nat) : execF E [] N Tryd.f23 a_lines_Name ps_lines_Name rs_lines_Name = lines_Name N := by kernel_rfl
def a_utf8_word_string : Ann := .lf
theorem x_utf8_word_string (N : Nat) : execF E [] N Tryd.f73 a_utf8_word_string ps_utf8_word_string rs_utf8_word_string = utf8_word_string N := by kernel_rfl

def a_charset_place : Ann := (.sq .lf (.sq .lf (.jn ⟨[], [], [], []⟩ (.sq .lf (.lp ⟨[1, 9], [], [.s 5, .o 5], [.v (.int .i64) [], .i]⟩ .lf)) .lf)))
theorem x_charset_place (N : Nat) : execF E [] N Tryd.f74 a_charset_place ps_charset_place rs_charset_place = charset_place N := by kernel_rfl
def a_charset_Index : Ann := .lf
theorem x_charset_Index (N : Nat) : execF E [⟨74, ps_charset_place, rs_charset_place, charset_place N⟩] N Tryd.f44 a_charset_Index ps_charset_Index rs_charset_Index = charset_Index N := by kernel_rfl
def a_charset_Valid : Ann := (.sq .lf (.sq .lf (.jn ⟨[], [], [], []⟩ (.sq .lf (.lp ⟨[9], [], [.o 7], [.i]⟩ .lf)) .lf)))
theorem x_charset_Valid (N : Nat) : execF E [⟨43, ps_utf8_ValidString, rs_utf8_ValidString, utf8_ValidString N⟩, ⟨44, ps_charset_Index, rs_charset_Index, charset_Index N⟩] N Tryd.f24 a_charset_Valid ps_charset_Valid rs_charset_Valid = charset_Valid N := by kernel_rfl
def a_timebase_of : Ann := .lf
theorem x_timebase_of (N : Nat) : execF E [] N Tryd.f77 a_timebase_of ps_timebase_of rs_timebase_of = timebase_of N := by kernel_rfl
def a_timebase_Valid : Ann := .lf
theorem x_timebase_Valid (N : Nat) : execF E [⟨77, ps_timebase_of, rs_timebase_of, timebase_of N⟩] N Tryd.f75 a_timebase_Valid ps_timebase_Valid rs_timebase_Valid = timebase_Valid N := by kernel_rfl
def a_timebase_CanDrop : Ann := .lf
theorem x_timebase_CanDrop (N : Nat) : execF E [⟨77, ps_timebase_of, rs_timebase_of, timebase_of N⟩] N Tryd.f76 a_timebase_CanDrop ps_timebase_CanDrop rs_timebase_CanDrop = timebase_CanDrop N := by kernel_rfl
def a_timecode_rateError : Ann := .lf
theorem x_timecode_rateError (N : Nat) : execF E [⟨75, ps_timebase_Valid, rs_timebase_Valid, timebase_Valid N⟩, ⟨76, ps_timebase_CanDrop, rs_timebase_CanDrop, timebase_CanDrop N⟩] N Tryd.f45 a_timecode_rateError ps_timecode_rateError rs_timecode_rateError = timecode_rateError N := by kernel_rfl
def a_timebase_Nominal : Ann := .lf
theorem x_timebase_Nominal (N : Nat) : execF E [⟨77, ps_timebase_of, rs_timebase_of, timebase_of N⟩] N Tryd.f46 a_timebase_Nominal ps_timebase_Nominal rs_timebase_Nominal = timebase_Nominal N := by kernel_rfl
def a_timecode_dropped : Ann := .lf
theorem x_timecode_dropped (N : Nat) : execF E [] N Tryd.f47 a_timecode_dropped ps_timecode_dropped rs_timecode_dropped = timecode_dropped N := by kernel_rfl
end
end Go.Mo
end

section
/-
  The functions do what their models say. Printed by a program.
-/
namespace Go.Mo
open Go Go.W Go.Proofs
noncomputable section
set_option maxRecDepth 100000
def a_timecode_Check : Ann := .lf
theorem x_timecode_Check (N : Nat) : execF E [⟨45, ps_timecode_rateError, rs_timecode_rateError, timecode_rateError N⟩, ⟨46, ps_timebase_Nominal, rs_timebase_Nominal, timebase_Nominal N⟩, ⟨47, ps_timecode_dropped, rs_timecode_dropped, timecode_dropped N⟩] N Tryd.f25 a_timecode_Check ps_timecode_Check rs_timecode_Check = timecode_Check N := by kernel_rfl
end
end Go.Mo
end

section
/-
  The functions do what their models say. Printed by a program.
-/
namespace Go.Mo
open Go Go.W Go.Proofs
noncomputable section
set_option maxRecDepth 100000
def a_tape_CheckHeader : Ann := (.sq .lf (.sq (.jn ⟨[1], [2], [.s 6], [.v (.bool) []]⟩ .lf (.sq .lf (.jn ⟨[1], [2], [.s 15], [.v (.bool) []]⟩ .lf .lf))) (.jn ⟨[1], [2], [], []⟩ (.sq .lf (.lp ⟨[1, 84], [2], [.s 85], [.v (.int .i64) []]⟩ .lf)) .lf)))
theorem x_tape_CheckHeader (N : Nat) : execF E [⟨23, ps_lines_Name, rs_lines_Name, lines_Name N⟩, ⟨24, ps_charset_Valid, rs_charset_Valid, charset_Valid N⟩, ⟨25, ps_timecode_Check, rs_timecode_Check, timecode_Check N⟩] N Tryd.f8 a_tape_CheckHeader ps_tape_CheckHeader rs_tape_CheckHeader = tape_CheckHeader N := by kernel_rfl
def a_latin_Carries : Ann := .lf
theorem x_latin_Carries (N : Nat) : execF E [⟨44, ps_charset_Index, rs_charset_Index, charset_Index N⟩] N Tryd.f57 a_latin_Carries ps_latin_Carries rs_latin_Carries = latin_Carries N := by kernel_rfl
def a_latin_accented : Ann := .lf
theorem x_latin_accented (N : Nat) : execF E [] N Tryd.f59 a_latin_accented ps_latin_accented rs_latin_accented = latin_accented N := by kernel_rfl
def a_charset_Upper : Ann := (.sq .lf (.sq (.sq .lf (.sq .lf (.jn ⟨[0], [], [.s 7], [.v (.bool) []]⟩ .lf .lf))) .lf))
theorem x_charset_Upper (N : Nat) : execF E [⟨44, ps_charset_Index, rs_charset_Index, charset_Index N⟩] N Tryd.f60 a_charset_Upper ps_charset_Upper rs_charset_Upper = charset_Upper N := by kernel_rfl

def a_stringslite_IndexByte : Ann := .lf
theorem x_stringslite_IndexByte (N : Nat) : execF E [⟨98, ps_bytealg_IndexByteString, rs_bytealg_IndexByteString, bytealg_IndexByteString N⟩] N Tryd.f97 a_stringslite_IndexByte ps_stringslite_IndexByte rs_stringslite_IndexByte = stringslite_IndexByte N := by kernel_rfl
def a_strings_IndexByte : Ann := .lf
theorem x_strings_IndexByte (N : Nat) : execF E [⟨97, ps_stringslite_IndexByte, rs_stringslite_IndexByte, stringslite_IndexByte N⟩] N Tryd.f92 a_strings_IndexByte ps_strings_IndexByte rs_strings_IndexByte = strings_IndexByte N := by kernel_rfl
def a_utf8_ValidRune : Ann := .lf
theorem x_utf8_ValidRune (N : Nat) : execF E [] N Tryd.f93 a_utf8_ValidRune ps_utf8_ValidRune rs_utf8_ValidRune = utf8_ValidRune N := by kernel_rfl
def a_bytealg_Cutover : Ann := .lf
theorem x_bytealg_Cutover (N : Nat) : execF E [] N Tryd.f94 a_bytealg_Cutover ps_bytealg_Cutover rs_bytealg_Cutover = bytealg_Cutover N := by kernel_rfl
def a_strings_IndexRune : Ann := (.sq .lf (.jn ⟨[0, 1], [], [.s 160], [.v (.bool) []]⟩ .lf (.sq .lf (.sq .lf (.sq (.jn ⟨[], [], [], []⟩ (.sq .lf (.lp ⟨[175], [], [.o 8], [.i]⟩ .lf)) .lf) (.sq .lf (.sq .lf (.sq (.sq .lf (.sq .lf (.sq .lf (.sq .lf (.jn ⟨[], [], [], []⟩ (.lp ⟨[0, 1, 7, 8], [], [.s 9, .s 10], [.v (.int .i64) [], .v (.int .i64) []]⟩ (.sq .lf (.sq (.jn ⟨[0, 1, 7, 8, 10], [], [.s 9], [.v (.int .i64) []]⟩ .lf (.jn ⟨[8, 9], [], [], []⟩ (.sq .lf (.lp ⟨[0, 1, 7, 8, 9, 10], [], [.s 12], [.v (.int .i64) []]⟩ .lf)) .lf)) .lf))) .lf))))) .lf))))))))
theorem x_strings_IndexRune (N : Nat) : execF E [⟨92, ps_strings_IndexByte, rs_strings_IndexByte, strings_IndexByte N⟩, ⟨93, ps_utf8_ValidRune, rs_utf8_ValidRune, utf8_ValidRune N⟩, ⟨94, ps_bytealg_Cutover, rs_bytealg_Cutover, bytealg_Cutover N⟩] N Tryd.f84 a_strings_IndexRune ps_strings_IndexRune rs_strings_IndexRune = strings_IndexRune N := by kernel_rfl
def a_strings_ContainsRune : Ann := .lf
theorem x_strings_ContainsRune (N : Nat) : execF E [⟨84, ps_strings_IndexRune, rs_strings_IndexRune, strings_IndexRune N⟩] N Tryd.f58 a_strings_ContainsRune ps_strings_ContainsRune rs_strings_ContainsRune = strings_ContainsRune N := by kernel_rfl
def a_charset_Base : Ann := .lf
theorem x_charset_Base (N : Nat) : execF E [⟨44, ps_charset_Index, rs_charset_Index, charset_Index N⟩] N Tryd.f61 a_charset_Base ps_charset_Base rs_charset_Base = charset_Base N := by kernel_rfl
def a_latin_Put : Ann := (.sq .lf (.sq .lf (.sq .lf (.sq .lf (.jn ⟨[0], [], [], []⟩ (.sq .lf (.lp ⟨[0, 15], [], [.s 3, .o 9], [.v (.int .i64) [], .i]⟩ .lf)) (.jn ⟨[], [], [], []⟩ (.sq .lf (.lp ⟨[0], [], [.s 6], [.v (.u8) []]⟩ .lf)) .lf))))))
theorem x_latin_Put (N : Nat) : execF E [⟨57, ps_latin_Carries, rs_latin_Carries, latin_Carries N⟩, ⟨59, ps_latin_accented, rs_latin_accented, latin_accented N⟩, ⟨60, ps_charset_Upper, rs_charset_Upper, charset_Upper N⟩, ⟨58, ps_strings_ContainsRune, rs_strings_ContainsRune, strings_ContainsRune N⟩, ⟨61, ps_charset_Base, rs_charset_Base, charset_Base N⟩] N Tryd.f34 a_latin_Put ps_latin_Put rs_latin_Put = latin_Put N := by kernel_rfl
def a_latin_Encode : Ann := (.sq .lf (.sq .lf (.sq .lf (.jn ⟨[], [], [.s 4], [.v (.slice (.u8)) [0]]⟩ (.sq .lf (.lp ⟨[11], [], [.s 4, .o 9], [.v (.slice (.u8)) [0], .i]⟩ .lf)) .lf))))
theorem x_latin_Encode (N : Nat) : execF E [⟨24, ps_charset_Valid, rs_charset_Valid, charset_Valid N⟩, ⟨34, ps_latin_Put, rs_latin_Put, latin_Put N⟩] N Tryd.f13 a_latin_Encode ps_latin_Encode rs_latin_Encode = latin_Encode N := by kernel_rfl
def a_tape_signature : Ann := .lf
theorem x_tape_signature (N : Nat) : execF E [] N Tryd.f15 a_tape_signature ps_tape_signature rs_tape_signature = tape_signature N := by kernel_rfl
def a_tape_digits : Ann := (.sq .lf (.sq .lf (.jn ⟨[5], [], [.o 4], [.r 4 (.u8)]⟩ (.sq .lf (.lp ⟨[5], [], [.s 0, .s 6, .o 4], [.v (.int .i64) [], .v (.int .i64) [], .r 4 (.u8)]⟩ .lf)) .lf)))
theorem x_tape_digits (N : Nat) : execF E [] N Tryd.f16 a_tape_digits ps_tape_digits rs_tape_digits = tape_digits N := by kernel_rfl
def a_tape_clock : Ann := .lf
theorem x_tape_clock (N : Nat) : execF E [⟨16, ps_tape_digits, rs_tape_digits, tape_digits N⟩] N Tryd.f17 a_tape_clock ps_tape_clock rs_tape_clock = tape_clock N := by kernel_rfl
def a_tape_PutHeader : Ann := .lf
theorem x_tape_PutHeader (N : Nat) : execF E [⟨8, ps_tape_CheckHeader, rs_tape_CheckHeader, tape_CheckHeader N⟩, ⟨13, ps_latin_Encode, rs_latin_Encode, latin_Encode N⟩, ⟨14, ps_bytes_Repeat, rs_bytes_Repeat, bytes_Repeat N⟩, ⟨15, ps_tape_signature, rs_tape_signature, tape_signature N⟩, ⟨16, ps_tape_digits, rs_tape_digits, tape_digits N⟩, ⟨17, ps_tape_clock, rs_tape_clock, tape_clock N⟩] N Tryd.f5 a_tape_PutHeader ps_tape_PutHeader rs_tape_PutHeader = tape_PutHeader N := by kernel_rfl
def a_r07_digit : Ann := .lf
theorem x_r07_digit (N : Nat) : execF E [] N Tryd.f64 a_r07_digit ps_r07_digit rs_r07_digit = r07_digit N := by kernel_rfl
def a_r07_Name : Ann := (.sq .lf (.sq .lf (.jn ⟨[], [], [], []⟩ (.sq .lf (.lp ⟨[0], [], [.s 3], [.v (.int .i64) []]⟩ (.sq .lf (.sq (.jn ⟨[0, 3], [], [.s 4], [.v (.bool) []]⟩ .lf .lf) .lf)))) .lf)))
theorem x_r07_Name (N : Nat) : execF E [⟨64, ps_r07_digit, rs_r07_digit, r07_digit N⟩] N Tryd.f37 a_r07_Name ps_r07_Name rs_r07_Name = r07_Name N := by kernel_rfl
def a_r08_Repertoire : Ann := .lf
theorem x_r08_Repertoire (N : Nat) : execF E [] N Tryd.f85 a_r08_Repertoire ps_r08_Repertoire rs_r08_Repertoire = r08_Repertoire N := by kernel_rfl
def a_r08_Index : Ann := (.sq .lf (.jn ⟨[0], [], [], []⟩ .lf (.sq .lf (.jn ⟨[], [], [], []⟩ (.sq .lf (.lp ⟨[0, 16], [], [.s 3, .o 6], [.v (.int .i64) [], .i]⟩ .lf)) .lf))))
theorem x_r08_Index (N : Nat) : execF E [⟨85, ps_r08_Repertoire, rs_r08_Repertoire, r08_Repertoire N⟩] N Tryd.f65 a_r08_Index ps_r08_Index rs_r08_Index = r08_Index N := by kernel_rfl
def a_r08_Valid : Ann := (.sq .lf (.jn ⟨[], [], [], []⟩ (.sq .lf (.lp ⟨[6], [], [.o 4], [.i]⟩ .lf)) .lf))
theorem x_r08_Valid (N : Nat) : execF E [⟨65, ps_r08_Index, rs_r08_Index, r08_Index N⟩] N Tryd.f38 a_r08_Valid ps_r08_Valid rs_r08_Valid = r08_Valid N := by kernel_rfl
def a_r23_within : Ann := .lf
theorem x_r23_within (N : Nat) : execF E [] N Tryd.f39 a_r23_within ps_r23_within rs_r23_within = r23_within N := by kernel_rfl
def a_r02_Valid : Ann := .lf
theorem x_r02_Valid (N : Nat) : execF E [] N Tryd.f86 a_r02_Valid ps_r02_Valid rs_r02_Valid = r02_Valid N := by kernel_rfl
def a_r02_CanDrop : Ann := .lf
theorem x_r02_CanDrop (N : Nat) : execF E [] N Tryd.f87 a_r02_CanDrop ps_r02_CanDrop rs_r02_CanDrop = r02_CanDrop N := by kernel_rfl
def a_r03_kind : Ann := .lf
theorem x_r03_kind (N : Nat) : execF E [⟨86, ps_r02_Valid, rs_r02_Valid, r02_Valid N⟩, ⟨87, ps_r02_CanDrop, rs_r02_CanDrop, r02_CanDrop N⟩] N Tryd.f66 a_r03_kind ps_r03_kind rs_r03_kind = r03_kind N := by kernel_rfl
def a_r02_Nominal : Ann := .lf
theorem x_r02_Nominal (N : Nat) : execF E [⟨86, ps_r02_Valid, rs_r02_Valid, r02_Valid N⟩] N Tryd.f67 a_r02_Nominal ps_r02_Nominal rs_r02_Nominal = r02_Nominal N := by kernel_rfl
def a_r03_Dropped : Ann := .lf
theorem x_r03_Dropped (N : Nat) : execF E [] N Tryd.f68 a_r03_Dropped ps_r03_Dropped rs_r03_Dropped = r03_Dropped N := by kernel_rfl
end
end Go.Mo
end

section
/-
  The functions do what their models say. Printed by a program.
-/
namespace Go.Mo
open Go Go.W Go.Proofs
noncomputable section
set_option maxRecDepth 100000
def a_r03_Check : Ann := .lf
theorem x_r03_Check (N : Nat) : execF E [⟨66, ps_r03_kind, rs_r03_kind, r03_kind N⟩, ⟨67, ps_r02_Nominal, rs_r02_Nominal, r02_Nominal N⟩, ⟨68, ps_r03_Dropped, rs_r03_Dropped, r03_Dropped N⟩] N Tryd.f40 a_r03_Check ps_r03_Check rs_r03_Check = r03_Check N := by kernel_rfl
end
end Go.Mo
end

section
/-
  The functions do what their models say. Printed by a program.
-/
namespace Go.Mo
open Go Go.W Go.Proofs
noncomputable section
set_option maxRecDepth 100000
def a_r23_CheckHeader : Ann := (.sq .lf (.sq (.jn ⟨[1], [2], [.s 5], [.v (.bool) []]⟩ .lf (.sq .lf (.jn ⟨[1], [2], [.s 14], [.v (.bool) []]⟩ .lf .lf))) .lf))
theorem x_r23_CheckHeader (N : Nat) : execF E [⟨37, ps_r07_Name, rs_r07_Name, r07_Name N⟩, ⟨38, ps_r08_Valid, rs_r08_Valid, r08_Valid N⟩, ⟨39, ps_r23_within, rs_r23_within, r23_within N⟩, ⟨40, ps_r03_Check, rs_r03_Check, r03_Check N⟩] N Tryd.f18 a_r23_CheckHeader ps_r23_CheckHeader rs_r23_CheckHeader = r23_CheckHeader N := by kernel_rfl
def a_r08_runes : Ann := (.sq .lf (.sq .lf (.jn ⟨[], [], [.s 3], [.v (.slice (.int .i32)) [0]]⟩ (.sq .lf (.lp ⟨[7], [], [.s 3, .o 5], [.v (.slice (.int .i32)) [0], .i]⟩ .lf)) .lf)))
theorem x_r08_runes (N : Nat) : execF E [] N Tryd.f69 a_r08_runes ps_r08_runes rs_r08_runes = r08_runes N := by kernel_rfl
def a_r08_Chars : Ann := .lf
theorem x_r08_Chars (N : Nat) : execF E [⟨38, ps_r08_Valid, rs_r08_Valid, r08_Valid N⟩, ⟨69, ps_r08_runes, rs_r08_runes, r08_runes N⟩] N Tryd.f41 a_r08_Chars ps_r08_Chars rs_r08_Chars = r08_Chars N := by kernel_rfl
def a_r22_Carries : Ann := .lf
theorem x_r22_Carries (N : Nat) : execF E [⟨65, ps_r08_Index, rs_r08_Index, r08_Index N⟩] N Tryd.f70 a_r22_Carries ps_r22_Carries rs_r22_Carries = r22_Carries N := by kernel_rfl
def a_r22_single : Ann := (.sq .lf (.jn ⟨[0], [], [], []⟩ .lf (.sq .lf (.sq .lf (.jn ⟨[], [], [], []⟩ (.sq .lf (.lp ⟨[0, 4, 17, 18], [4, 7], [.s 19], [.v (.int .i64) []]⟩ .lf)) .lf)))))
theorem x_r22_single (N : Nat) : execF E [] N Tryd.f71 a_r22_single ps_r22_single rs_r22_single = r22_single N := by kernel_rfl
def a_r22_double : Ann := (.sq .lf (.jn ⟨[0, 1], [], [.s 5], [.v (.bool) []]⟩ .lf (.sq .lf (.jn ⟨[0, 5], [], [.s 6], [.v (.u8) []]⟩ .lf (.sq .lf (.sq .lf (.sq .lf (.jn ⟨[], [], [], []⟩ (.sq .lf (.lp ⟨[0, 5, 6, 8, 9, 24, 25], [7, 11], [.s 26], [.v (.int .i64) []]⟩ .lf)) .lf))))))))
theorem x_r22_double (N : Nat) : execF E [] N Tryd.f72 a_r22_double ps_r22_double rs_r22_double = r22_double N := by kernel_rfl
def a_r22_Put : Ann := (.sq .lf (.sq .lf (.jn ⟨[0], [], [], []⟩ (.sq .lf (.lp ⟨[0], [], [.s 3], [.v (.int .i64) []]⟩ .lf)) (.jn ⟨[], [], [], []⟩ (.sq .lf (.lp ⟨[0], [], [.s 4], [.v (.int .i64) []]⟩ (.sq .lf (.jn ⟨[0, 4], [], [], []⟩ (.sq .lf (.lp ⟨[0, 4], [], [.s 5], [.v (.int .i32) []]⟩ .lf)) .lf)))) .lf))))
theorem x_r22_Put (N : Nat) : execF E [⟨70, ps_r22_Carries, rs_r22_Carries, r22_Carries N⟩, ⟨71, ps_r22_single, rs_r22_single, r22_single N⟩, ⟨72, ps_r22_double, rs_r22_double, r22_double N⟩] N Tryd.f42 a_r22_Put ps_r22_Put rs_r22_Put = r22_Put N := by kernel_rfl
def a_r22_Encode : Ann := (.sq .lf (.sq .lf (.sq .lf (.jn ⟨[], [], [.s 4], [.v (.slice (.u8)) [0]]⟩ (.sq .lf (.lp ⟨[12, 13], [11], [.s 4, .s 14], [.v (.slice (.u8)) [0], .v (.int .i64) []]⟩ .lf)) .lf))))
theorem x_r22_Encode (N : Nat) : execF E [⟨38, ps_r08_Valid, rs_r08_Valid, r08_Valid N⟩, ⟨41, ps_r08_Chars, rs_r08_Chars, r08_Chars N⟩, ⟨42, ps_r22_Put, rs_r22_Put, r22_Put N⟩] N Tryd.f19 a_r22_Encode ps_r22_Encode rs_r22_Encode = r22_Encode N := by kernel_rfl
def a_r23_fill : Ann := (.sq .lf (.sq .lf (.jn ⟨[], [], [.s 7], [.v (.slice (.u8)) [0]]⟩ (.lp ⟨[1, 2], [], [.s 7], [.v (.slice (.u8)) [0]]⟩ .lf) .lf)))
theorem x_r23_fill (N : Nat) : execF E [] N Tryd.f20 a_r23_fill ps_r23_fill rs_r23_fill = r23_fill N := by kernel_rfl
def a_r23_digits : Ann := .lf
theorem x_r23_digits (N D : Nat) : execF E [⟨21, ps_r23_digits, rs_r23_digits, r23_digits_r N D⟩] N Tryd.f21 a_r23_digits ps_r23_digits rs_r23_digits = r23_digits_r N (D + 1) := by kernel_rfl
def a_r23_label : Ann := .lf
theorem x_r23_label (N : Nat) : execF E [⟨21, ps_r23_digits, rs_r23_digits, r23_digits N⟩] N Tryd.f22 a_r23_label ps_r23_label rs_r23_label = r23_label N := by kernel_rfl
def a_r23_PutHeader : Ann := (.sq .lf (.sq .lf (.sq .lf (.jn ⟨[1], [2], [.s 5], [.v (.str) []]⟩ .lf .lf))))
theorem x_r23_PutHeader (N : Nat) : execF E [⟨18, ps_r23_CheckHeader, rs_r23_CheckHeader, r23_CheckHeader N⟩, ⟨19, ps_r22_Encode, rs_r22_Encode, r22_Encode N⟩, ⟨20, ps_r23_fill, rs_r23_fill, r23_fill N⟩, ⟨21, ps_r23_digits, rs_r23_digits, r23_digits N⟩, ⟨22, ps_r23_label, rs_r23_label, r23_label N⟩] N Tryd.f6 a_r23_PutHeader ps_r23_PutHeader rs_r23_PutHeader = r23_PutHeader N := by kernel_rfl
def a_tape_number : Ann := (.sq .lf (.sq .lf (.jn ⟨[], [], [.s 3], [.v (.int .i64) []]⟩ (.sq .lf (.lp ⟨[6, 7], [], [.s 3, .s 8], [.v (.int .i64) [], .v (.int .i64) []]⟩ .lf)) .lf)))
theorem x_tape_number (N : Nat) : execF E [] N Tryd.f26 a_tape_number ps_tape_number rs_tape_number = tape_number N := by kernel_rfl
def a_tape_label : Ann := .lf
theorem x_tape_label (N : Nat) : execF E [⟨26, ps_tape_number, rs_tape_number, tape_number N⟩] N Tryd.f27 a_tape_label ps_tape_label rs_tape_label = tape_label N := by kernel_rfl
def a_bytes_trimRightByte : Ann := (.sq .lf (.jn ⟨[], [], [.s 0], [.v (.slice (.u8)) []]⟩ (.lp ⟨[1], [], [.s 0], [.v (.slice (.u8)) []]⟩ .lf) .lf))
theorem x_bytes_trimRightByte (N : Nat) : execF E [] N Tryd.f48 a_bytes_trimRightByte ps_bytes_trimRightByte rs_bytes_trimRightByte = bytes_trimRightByte N := by kernel_rfl
def a_bytes_trimRightASCII : Ann := (.sq .lf (.jn ⟨[0], [], [], []⟩ (.lp ⟨[0, 1], [1], [], []⟩ .lf) .lf))
theorem x_bytes_trimRightASCII (N : Nat) : execF E [] N Tryd.f50 a_bytes_trimRightASCII ps_bytes_trimRightASCII rs_bytes_trimRightASCII = bytes_trimRightASCII N := by kernel_rfl
def a_utf8_RuneStart : Ann := .lf
theorem x_utf8_RuneStart (N : Nat) : execF E [] N Tryd.f88 a_utf8_RuneStart ps_utf8_RuneStart rs_utf8_RuneStart = utf8_RuneStart N := by kernel_rfl
def a_utf8_decodeRuneSlow : Ann := .lf
theorem x_utf8_decodeRuneSlow (N : Nat) : execF E [] N Tryd.f96 a_utf8_decodeRuneSlow ps_utf8_decodeRuneSlow rs_utf8_decodeRuneSlow = utf8_decodeRuneSlow N := by kernel_rfl
def a_utf8_DecodeRune : Ann := (.sq .lf (.jn ⟨[0], [], [], []⟩ (.sq .lf (.lp ⟨[0, 6, 7, 8], [], [], []⟩ .lf)) .lf))
theorem x_utf8_DecodeRune (N : Nat) : execF E [⟨96, ps_utf8_decodeRuneSlow, rs_utf8_decodeRuneSlow, utf8_decodeRuneSlow N⟩] N Tryd.f89 a_utf8_DecodeRune ps_utf8_DecodeRune rs_utf8_DecodeRune = utf8_DecodeRune N := by kernel_rfl
def a_utf8_DecodeLastRune : Ann := (.sq .lf (.sq .lf (.sq .lf (.sq .lf (.sq .lf (.sq .lf (.sq .lf (.jn ⟨[0, 4], [], [.s 5], [.v (.int .i64) []]⟩ (.sq .lf (.lp ⟨[0, 4, 6], [], [.s 5], [.v (.int .i64) []]⟩ .lf)) (.jn ⟨[0, 4], [], [.s 5], [.v (.int .i64) []]⟩ .lf .lf)))))))))
theorem x_utf8_DecodeLastRune (N : Nat) : execF E [⟨88, ps_utf8_RuneStart, rs_utf8_RuneStart, utf8_RuneStart N⟩, ⟨89, ps_utf8_DecodeRune, rs_utf8_DecodeRune, utf8_DecodeRune N⟩] N Tryd.f79 a_utf8_DecodeLastRune ps_utf8_DecodeLastRune rs_utf8_DecodeLastRune = utf8_DecodeLastRune N := by kernel_rfl
def a_bytes_containsRune : Ann := (.sq .lf (.jn ⟨[], [], [], []⟩ (.sq .lf (.lp ⟨[1, 8], [], [.o 4], [.i]⟩ .lf)) .lf))
theorem x_bytes_containsRune (N : Nat) : execF E [] N Tryd.f80 a_bytes_containsRune ps_bytes_containsRune rs_bytes_containsRune = bytes_containsRune N := by kernel_rfl
def a_bytes_trimRightUnicode : Ann := (.sq .lf (.jn ⟨[], [], [.s 0], [.v (.slice (.u8)) []]⟩ (.lp ⟨[1], [], [.s 0], [.v (.slice (.u8)) []]⟩ .lf) .lf))
theorem x_bytes_trimRightUnicode (N : Nat) : execF E [⟨79, ps_utf8_DecodeLastRune, rs_utf8_DecodeLastRune, utf8_DecodeLastRune N⟩, ⟨80, ps_bytes_containsRune, rs_bytes_containsRune, bytes_containsRune N⟩] N Tryd.f51 a_bytes_trimRightUnicode ps_bytes_trimRightUnicode rs_bytes_trimRightUnicode = bytes_trimRightUnicode N := by kernel_rfl
def a_bytes_TrimRight : Ann := .lf
theorem x_bytes_TrimRight (N : Nat) : execF E [⟨48, ps_bytes_trimRightByte, rs_bytes_trimRightByte, bytes_trimRightByte N⟩, ⟨50, ps_bytes_trimRightASCII, rs_bytes_trimRightASCII, bytes_trimRightASCII N⟩, ⟨51, ps_bytes_trimRightUnicode, rs_bytes_trimRightUnicode, bytes_trimRightUnicode N⟩] N Tryd.f28 a_bytes_TrimRight ps_bytes_TrimRight rs_bytes_TrimRight = bytes_TrimRight N := by kernel_rfl
def a_charset_Lower : Ann := (.sq .lf (.sq (.sq .lf (.sq .lf (.jn ⟨[0], [], [.s 7], [.v (.bool) []]⟩ .lf .lf))) .lf))
theorem x_charset_Lower (N : Nat) : execF E [⟨44, ps_charset_Index, rs_charset_Index, charset_Index N⟩] N Tryd.f81 a_charset_Lower ps_charset_Lower rs_charset_Lower = charset_Lower N := by kernel_rfl
end
end Go.Mo
end

section
/-
  The functions do what their models say. Printed by a program.
-/
namespace Go.Mo
open Go Go.W Go.Proofs
noncomputable section
set_option maxRecDepth 100000
def a_latin_Get : Ann := (.sq .lf (.sq .lf (.jn ⟨[0], [], [], []⟩ .lf (.sq .lf (.jn ⟨[0], [], [], []⟩ (.sq .lf (.lp ⟨[0, 28], [], [.s 4, .o 9], [.v (.int .i64) [], .i]⟩ .lf)) (.sq .lf (.jn ⟨[], [], [], []⟩ (.sq .lf (.lp ⟨[0, 48], [], [.o 17], [.i]⟩ (.sq .lf (.sq .lf (.sq .lf (.sq .lf (.lp ⟨[0, 48, 55], [17], [.s 56], [.v (.int .i64) []]⟩ .lf))))))) .lf)))))))
theorem x_latin_Get (N : Nat) : execF E [⟨59, ps_latin_accented, rs_latin_accented, latin_accented N⟩, ⟨81, ps_charset_Lower, rs_charset_Lower, charset_Lower N⟩, ⟨61, ps_charset_Base, rs_charset_Base, charset_Base N⟩] N Tryd.f52 a_latin_Get ps_latin_Get rs_latin_Get = latin_Get N := by kernel_rfl

def a_utf8_appendRuneNonASCII : Ann := (.sq .lf (.sq .lf (.sq .lf (.sq .lf (.jn ⟨[0, 1, 5], [1], [.s 25], [.v (.bool) []]⟩ .lf .lf)))))
theorem x_utf8_appendRuneNonASCII (N : Nat) : execF E [] N Tryd.f91 a_utf8_appendRuneNonASCII ps_utf8_appendRuneNonASCII rs_utf8_appendRuneNonASCII = utf8_appendRuneNonASCII N := by kernel_rfl
def a_utf8_AppendRune : Ann := .lf
theorem x_utf8_AppendRune (N : Nat) : execF E [⟨91, ps_utf8_appendRuneNonASCII, rs_utf8_appendRuneNonASCII, utf8_appendRuneNonASCII N⟩] N Tryd.f83 a_utf8_AppendRune ps_utf8_AppendRune rs_utf8_AppendRune = utf8_AppendRune N := by kernel_rfl
def a_strings_Builder_WriteRune : Ann := .lf
theorem x_strings_Builder_WriteRune (N : Nat) : execF E [⟨82, ps_strings_Builder_copyCheck, rs_strings_Builder_copyCheck, strings_Builder_copyCheck N⟩, ⟨83, ps_utf8_AppendRune, rs_utf8_AppendRune, utf8_AppendRune N⟩] N Tryd.f53 a_strings_Builder_WriteRune ps_strings_Builder_WriteRune rs_strings_Builder_WriteRune = strings_Builder_WriteRune N := by kernel_rfl
def a_latin_Decode : Ann := (.sq .lf (.sq .lf (.jn ⟨[4], [], [.o 4], [.b 83 (.st (.pair (.nptr) (.slice (.u8)))) [1]]⟩ (.lp ⟨[4], [], [.s 0, .o 4], [.v (.slice (.u8)) [], .b 83 (.st (.pair (.nptr) (.slice (.u8)))) [1]]⟩ .lf) .lf)))
theorem x_latin_Decode (N : Nat) : execF E [⟨52, ps_latin_Get, rs_latin_Get, latin_Get N⟩, ⟨53, ps_strings_Builder_WriteRune, rs_strings_Builder_WriteRune, strings_Builder_WriteRune N⟩] N Tryd.f29 a_latin_Decode ps_latin_Decode rs_latin_Decode = latin_Decode N := by kernel_rfl
def a_bytes_Equal : Ann := .lf
theorem x_bytes_Equal (N : Nat) : execF E [] N Tryd.f30 a_bytes_Equal ps_bytes_Equal rs_bytes_Equal = bytes_Equal N := by kernel_rfl
def a_tape_GetHeader : Ann := (.sq .lf (.sq .lf (.sq .lf (.jn ⟨[0, 2, 4], [2], [.o 27], [.b 26 (.st (.pair (.u8) (.pair (.str) (.pair (.str) (.pair (.int .i64) (.pair (.int .i64) (.pair (.st (.pair (.int .i64) (.pair (.int .i64) (.pair (.int .i64) (.pair (.int .i64) (.bool)))))) (.pair (.st (.pair (.int .i64) (.pair (.int .i64) (.pair (.int .i64) (.pair (.int .i64) (.bool)))))) (.pair (.int .i64) (.int .i64)))))))))) []]⟩ .lf .lf))))
theorem x_tape_GetHeader (N : Nat) : execF E [⟨26, ps_tape_number, rs_tape_number, tape_number N⟩, ⟨27, ps_tape_label, rs_tape_label, tape_label N⟩, ⟨15, ps_tape_signature, rs_tape_signature, tape_signature N⟩, ⟨28, ps_bytes_TrimRight, rs_bytes_TrimRight, bytes_TrimRight N⟩, ⟨29, ps_latin_Decode, rs_latin_Decode, latin_Decode N⟩, ⟨5, ps_tape_PutHeader, rs_tape_PutHeader, tape_PutHeader N⟩, ⟨30, ps_bytes_Equal, rs_bytes_Equal, bytes_Equal N⟩] N Tryd.f9 a_tape_GetHeader ps_tape_GetHeader rs_tape_GetHeader = tape_GetHeader N := by kernel_rfl
def a_l23_TapeHeaders : Ann := .lf
theorem x_l23_TapeHeaders (N : Nat) : execF E [⟨4, ps_l23_awake, rs_l23_awake, l23_awake N⟩, ⟨5, ps_tape_PutHeader, rs_tape_PutHeader, tape_PutHeader N⟩, ⟨6, ps_r23_PutHeader, rs_r23_PutHeader, r23_PutHeader N⟩, ⟨7, ps_slices_Equal_Lbyte_byte, rs_slices_Equal_Lbyte_byte, slices_Equal_Lbyte_byte N⟩, ⟨8, ps_tape_CheckHeader, rs_tape_CheckHeader, tape_CheckHeader N⟩, ⟨9, ps_tape_GetHeader, rs_tape_GetHeader, tape_GetHeader N⟩] N Tryd.f3 a_l23_TapeHeaders ps_l23_TapeHeaders rs_l23_TapeHeaders = l23_TapeHeaders N := by kernel_rfl
end
end Go.Mo
end
