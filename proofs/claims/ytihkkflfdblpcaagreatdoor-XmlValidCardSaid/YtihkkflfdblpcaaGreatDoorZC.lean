/-
  Texts put together, in build order: W24 W25 W26 W27 W28 W29 W30 W31 W32 W33 W34 W35 WG WO WD.
-/
import Derived.Test.YtihkkflfdblpcaaGreatDoorZB
import Derived.Lib.MakeNoZero
import Derived.Lib.Bytealg
import Derived.Lib.Builder
import Derived.Laws.Externs
import Derived.Lib.ValidU
import Derived.Lib.IndexMore
import Derived.Lib.ItoaNum
import Derived.Lib.LaidTab
import Derived.Lib.IndexAny
import Derived.Lib.Replace
import Derived.Lib.SlTrimSet
import Derived.ProofKit
import Derived.Deep.Slices
import Derived.Deep.Fields
import Derived.ChangeSame
import Derived.Below
import Derived.Carry
import Derived.OpenShut
import Derived.LaidMore
import Derived.Stop.Joined
set_option linter.all false

section
/-
  Calls: what a contract says, and that a call does what it says. No program in it.
-/
namespace Go.W
open Go Go.RowKit

def obsP : List Piece → List Ob
  | [] => []
  | .ob o :: l => o :: obsP l
  | .val _ :: l => obsP l
/-- how many rows of its own a call begins with -/
def rowsN (ps : List PK) (x : Vec (kTys (kdP ps))) : Nat := (unpackG 1 (kdP ps) 0 x).2.length
/-- ghosts of what is new -/
def Gets (gs : List Gh) (tk : Nat) (γ : Ghs) : Prop := ∀ k g, gs[k]? = some g → γ (tk + (0 + k)) = some g

/-! ### contracts -/
/-- a call begins -/
structure Ent (E : Env) (ps : List PK) (x : Vec (kTys (kdP ps))) (w : World) (K : Kn) (H : Nat → Prop) (γ : Ghs) (args : Array Value) : Prop where
  size : args.size = ps.length
  slots : ∀ y v sv, lk (start ps x).sl y = some (v, sv) → v = 0 ∧ RepSV γ K sv (args.getD y undef)
  hp : Hp w K H γ (obs (start ps x)) K w
  glob : GlobOk E K
  tok : ∀ j g, γ j = some g → j < (start ps x).tm ∧ g.hv < (start ps x).tm
  all : ∀ j e, lk (start ps x).ob j = some e → ∃ g, γ j = some g
/-- a call has come back -/
def Back (rs : List Kd) (ps : List PK) (x : Vec (kTys (kdP ps))) (r : Vec (kTys (app rs (kdB ps)))) (w : World) (K : Kn) (H : Nat → Prop) (γ : Ghs) (V : Value) (w' : World) (tk : Nat) : Prop :=
  ∃ γf obF Kf gs js, Hp w K H γf obF Kf w' ∧ NewL γf obF Kf w' tk (unpackG tk (app rs (kdB ps)) 0 r).2 gs js ∧ (∀ j, js.count (some j) ≤ 1) ∧
    (∀ i o, (obsP (unpackG tk (app rs (kdB ps)) 0 r).1)[i]? = some o → js.count (some (1 + rowsN ps x + i)) = 0 ∧ γf (1 + rowsN ps x + i) = γ (1 + rowsN ps x + i) ∧ (∃ p, obF (1 + rowsN ps x + i) = some p ∧ p.owns = true) ∧
      ∀ γ2, Gets gs tk γ2 → ∀ g, γf (1 + rowsN ps x + i) = some g → ObOk γ2 Kf w' g o) ∧
    (∀ γ2, Gets gs tk γ2 → RepSV γ2 Kf (oneV (valsP rs (unpackG tk (app rs (kdB ps)) 0 r).1)) V)
/-- what becomes of a function that is called -/
def Invokes (P : Program) (f : FuncId) (args : Array Value) (w : World) (R : Value → World → Prop) : Prop :=
  (∃ v w', (callFunc f args).run P w = .ok (.value v) w' ∧ R v w') ∨
  ((callFunc f args).run P w = .ok (.enter f args) w ∧ Calls P f args w fun e w' => match e with
    | .returned v => R v w'
    | _ => False)
def ConOk (E : Env) (c : Con) : Prop := ∀ x r, c.fn x = some r → ∀ (w : World) (K : Kn) (H : Nat → Prop) (γ : Ghs) (args : Array Value), Ent E c.ps x w K H γ args →
  Invokes E.P c.f args w fun V w' => ∀ tk, 0 < tk → Back c.rs c.ps x r w K H γ V w' tk

/-! ### arguments -/
def SVL (γ : Ghs) (K : Kn) : List SV → List Value → Prop
  | [], vs => vs = []
  | s :: ss, vs => ∃ v r, vs = v :: r ∧ RepSV γ K s v ∧ SVL γ K ss r
def valsK : List PK → List Value → List Value
  | .k _ :: l, v :: vs => v :: valsK l vs
  | .fn _ :: l, _ :: vs => valsK l vs
  | _, _ => []
theorem mapG_svl {γ : Ghs} {K : Kn} {g : Operand → SV} {a : Act} : ∀ (l : List Operand), (∀ x ∈ l, RepSV γ K (g x) (a.eval x)) → SVL γ K (mapG g l) (l.map a.eval)
  | [], _ => rfl
  | x :: l, h => ⟨_, _, rfl, h x List.mem_cons_self, mapG_svl l fun y hy => h y (List.mem_cons_of_mem _ hy)⟩
theorem tokB_eq : ∀ (l : List Src), tokB l = toks l
  | [] => rfl
  | .tok j :: l => by simp only [tokB, toks, tokB_eq l]
  | .val _ :: l => by simp only [tokB, toks, tokB_eq l]
theorem mem_toks {j : Nat} : ∀ {l : List Src}, Src.tok j ∈ l ↔ j ∈ toks l
  | [] => by simp [toks]
  | .tok i :: l => by simp [toks, mem_toks (l := l)]
  | .val v :: l => by simp [toks, mem_toks (l := l)]

/-- one parameter is split off -/
theorem argS_inv {k : PK} {ps : List PK} {as : List SV} {ss : List Src} (h : argS (k :: ps) as = some ss) :
    (∃ t m v ar sr, k = .k (.v t m) ∧ as = .val v :: ar ∧ argS ps ar = some sr ∧ ss = .val v :: sr) ∨
    (∃ ti t m j ar sr, k = .k (.b ti t m) ∧ as = .val (.one (.ptr j 0)) :: ar ∧ argS ps ar = some sr ∧ ss = .tok j :: sr) ∨
    (∃ f ar, k = .fn f ∧ as = .val (.one (.fn f)) :: ar ∧ argS ps ar = some ss) ∨
    (∃ t m j ar sr, k = .k (.m t m) ∧ as = .val (.one (.mp j)) :: ar ∧ argS ps ar = some sr ∧ ss = .tok j :: sr) ∨
    (∃ hh e j ar sr, k = .k (.r hh e) ∧ as = .val (.one (.row j hh)) :: ar ∧ argS ps ar = some sr ∧ ss = .tok j :: sr) := by
  unfold argS at h
  split at h
  · rename_i e; cases e
  · rename_i t m l v ar e
    injection e with e1 e2
    subst e1; subst e2
    split at h
    · rename_i sr hsr
      injection h with h
      exact .inl ⟨t, m, v, ar, sr, rfl, rfl, hsr, h.symm⟩
    · cases h
  · rename_i ti t m l j ar e
    injection e with e1 e2
    subst e1; subst e2
    split at h
    · rename_i sr hsr
      injection h with h
      exact .inr (.inl ⟨ti, t, m, j, ar, sr, rfl, rfl, hsr, h.symm⟩)
    · cases h
  · rename_i t m l j ar e
    injection e with e1 e2
    subst e1; subst e2
    split at h
    · rename_i sr hsr
      injection h with h
      exact .inr (.inr (.inr (.inl ⟨t, m, j, ar, sr, rfl, rfl, hsr, h.symm⟩)))
    · cases h
  · rename_i hh t l j hv ar e
    injection e with e1 e2
    subst e1; subst e2
    split at h
    · rename_i sr hb hsr
      have := Nat.eq_of_beq_eq_true hb
      subst this
      injection h with h
      exact .inr (.inr (.inr (.inr ⟨hv, t, j, ar, sr, rfl, rfl, hsr, h.symm⟩)))
    · cases h
  · rename_i f l f' ar e
    injection e with e1 e2
    subst e1; subst e2
    unfold bsel at h
    split at h
    · rename_i hb
      have := Nat.eq_of_beq_eq_true hb
      subst this
      exact .inr (.inr (.inl ⟨f, ar, rfl, rfl, h⟩))
    · cases h
  · cases h

section
variable {γ γ2 : Ghs} {K : Kn} {w : World} {ob obF : Obs}
theorem argS_src : ∀ (ps : List PK) {as : List SV} {ss : List Src} {vals : List Value}, argS ps as = some ss → SVL γ K as vals → SrcL γ K ss (valsK ps vals) ∧ vals.length = ps.length ∧ ∀ j, Src.tok j ∈ ss → ∃ g, γ j = some g
  | [], as, ss, vals, h, hv => by
    cases as with
    | nil =>
      simp only [argS, Option.some.injEq] at h
      subst h
      have hv : vals = [] := hv
      subst hv
      exact ⟨rfl, rfl, fun j hj => by cases hj⟩
    | cons _ _ => simp [argS] at h
  | k :: ps, as, ss, vals, h, hv => by
    rcases argS_inv h with ⟨t, m, v, ar, sr, rfl, rfl, h1, rfl⟩ | ⟨ti, t, m, j, ar, sr, rfl, rfl, h1, rfl⟩ | ⟨f, ar, rfl, rfl, h1⟩ | ⟨t, m, j, ar, sr, rfl, rfl, h1, rfl⟩ | ⟨hh, t, j, ar, sr, rfl, rfl, h1, rfl⟩
    · obtain ⟨V, Vr, rfl, hv1, hv2⟩ := hv
      obtain ⟨i1, i2, i3⟩ := argS_src ps h1 hv2
      exact ⟨⟨V, _, rfl, hv1, i1⟩, by simp [i2], fun j hj => by
        rcases List.mem_cons.1 hj with e | hj
        · cases e
        · exact i3 j hj⟩
    · obtain ⟨V, Vr, rfl, hv1, hv2⟩ := hv
      obtain ⟨i1, i2, i3⟩ := argS_src ps h1 hv2
      refine ⟨⟨V, _, rfl, True.intro, i1⟩, by simp [i2], fun i hj => ?_⟩
      rcases List.mem_cons.1 hj with e | hj
      · injection e with e
        subst e
        obtain ⟨g, b, q1, q2, q3, _⟩ := hv1
        exact ⟨g, q1⟩
      · exact i3 i hj
    · obtain ⟨V, Vr, rfl, hv1, hv2⟩ := hv
      obtain ⟨i1, i2, i3⟩ := argS_src ps h1 hv2
      exact ⟨i1, by simp [i2], i3⟩
    · obtain ⟨V, Vr, rfl, hv1, hv2⟩ := hv
      obtain ⟨i1, i2, i3⟩ := argS_src ps h1 hv2
      refine ⟨⟨V, _, rfl, True.intro, i1⟩, by simp [i2], fun i hj => ?_⟩
      rcases List.mem_cons.1 hj with e | hj
      · injection e with e
        subst e
        obtain ⟨g, b, q1, q2, q3, _⟩ := hv1
        exact ⟨g, q1⟩
      · exact i3 i hj
    · obtain ⟨V, Vr, rfl, hv1, hv2⟩ := hv
      obtain ⟨i1, i2, i3⟩ := argS_src ps h1 hv2
      refine ⟨⟨V, _, rfl, True.intro, i1⟩, by simp [i2], fun i hj => ?_⟩
      rcases List.mem_cons.1 hj with e | hj
      · injection e with e
        subst e
        obtain ⟨_, g, q1, _⟩ := hv1
        exact ⟨g, q1⟩
      · exact i3 i hj

/-- what a call's slots and variables begin with -/
theorem inP_ok : ∀ (ps : List PK) {as : List SV} {ss : List Src} {vals : List Value} {pc : List Piece} (i b : Nat), argS ps as = some ss → SVL γ K as vals → PcL γ γ2 ob obF K w ss (valsK ps vals) pc →
    (∀ q j, (toks ss)[q]? = some j → γ2 (b + q) = γ j) →
    (∀ y v sv, lk (inP ps pc i b).1 y = some (v, sv) → v = 0 ∧ i ≤ y ∧ RepSV γ2 K sv (vals.getD (y - i) undef)) ∧ (inP ps pc i b).2 = obsP pc ∧ (obsP pc).length = (toks ss).length
  | [], as, ss, vals, pc, i, b, h, hv, hp, hb => by
    cases as with
    | nil =>
      simp only [argS, Option.some.injEq] at h
      subst h
      have hp : pc = [] := hp
      subst hp
      exact ⟨fun y v sv h => by simp [inP, lk] at h, rfl, rfl⟩
    | cons _ _ => simp [argS] at h
  | k :: ps, as, ss, vals, pc, i, b, h, hv, hp, hb => by
    have step : ∀ {sv0 : SV} {V : Value} {Vr : List Value} {rest : List (Nat × Nat × SV)}, RepSV γ2 K sv0 V → (∀ y v sv, lk rest y = some (v, sv) → v = 0 ∧ i + 1 ≤ y ∧ RepSV γ2 K sv (Vr.getD (y - (i + 1)) undef)) →
        ∀ y v sv, lk ((i, 0, sv0) :: rest) y = some (v, sv) → v = 0 ∧ i ≤ y ∧ RepSV γ2 K sv ((V :: Vr).getD (y - i) undef) := by
      intro sv0 V Vr rest h1 h2 y v sv hy
      simp only [lk, bsel] at hy
      split at hy
      · rename_i hb
        have := Nat.eq_of_beq_eq_true hb
        subst this
        simp only [Option.some.injEq, Prod.mk.injEq] at hy
        obtain ⟨rfl, rfl⟩ := hy
        exact ⟨rfl, Nat.le_refl _, by simpa using h1⟩
      · obtain ⟨q1, q2, q3⟩ := h2 y v sv hy
        refine ⟨q1, by omega, ?_⟩
        rw [show y - i = (y - (i + 1)) + 1 by omega]
        simpa using q3
    rcases argS_inv h with ⟨t, m, v, ar, sr, rfl, rfl, h1, rfl⟩ | ⟨ti, t, m, j, ar, sr, rfl, rfl, h1, rfl⟩ | ⟨f, ar, rfl, rfl, h1⟩ | ⟨t, m, j, ar, sr, rfl, rfl, h1, rfl⟩ | ⟨hh, t, j, ar, sr, rfl, rfl, h1, rfl⟩
    · obtain ⟨V, Vr, rfl, hv1, hv2⟩ := hv
      obtain ⟨V', Vr', p, pr, e, rfl, hp1, hp2⟩ := hp
      injection e with e1 e2
      subst e1; subst e2
      cases p with
      | ob o => exact absurd hp1 (by simp [PcOk])
      | val v' =>
        obtain ⟨i1, i2, i3⟩ := inP_ok ps (i + 1) b h1 hv2 hp2 hb
        exact ⟨step (sv0 := .val v') hp1 i1, i2, i3⟩
    · obtain ⟨V, Vr, rfl, hv1, hv2⟩ := hv
      obtain ⟨V', Vr', p, pr, e, rfl, hp1, hp2⟩ := hp
      injection e with e1 e2
      subst e1; subst e2
      cases p with
      | val v' => exact absurd hp1 (by simp [PcOk])
      | ob o =>
        obtain ⟨i1, i2, i3⟩ := inP_ok ps (i + 1) (b + 1) h1 hv2 hp2 (fun q j' hq => by
          have := hb (q + 1) j' (by simpa [toks] using hq)
          rwa [show b + (q + 1) = b + 1 + q by omega] at this)
        refine ⟨step (sv0 := .val (.one (.ptr b 0))) ?_ i1, ?_, ?_⟩
        · obtain ⟨g, b', q1, q2, q3, q4⟩ := hv1
          have := hb 0 j (by simp [toks])
          exact ⟨g, b', by rw [← q1]; simpa using this, q2, q3, q4⟩
        · show o :: (inP ps pr (i + 1) (b + 1)).2 = o :: obsP pr
          rw [i2]
        · simp [obsP, toks, i3]
    · obtain ⟨V, Vr, rfl, hv1, hv2⟩ := hv
      obtain ⟨i1, i2, i3⟩ := inP_ok ps (i + 1) b h1 hv2 hp hb
      exact ⟨step (sv0 := .val (.one (.fn f))) hv1 i1, i2, i3⟩
    · obtain ⟨V, Vr, rfl, hv1, hv2⟩ := hv
      obtain ⟨V', Vr', p, pr, e, rfl, hp1, hp2⟩ := hp
      injection e with e1 e2
      subst e1; subst e2
      cases p with
      | val v' => exact absurd hp1 (by simp [PcOk])
      | ob o =>
        obtain ⟨i1, i2, i3⟩ := inP_ok ps (i + 1) (b + 1) h1 hv2 hp2 (fun q j' hq => by
          have := hb (q + 1) j' (by simpa [toks] using hq)
          rwa [show b + (q + 1) = b + 1 + q by omega] at this)
        refine ⟨step (sv0 := .val (.one (.mp b))) ?_ i1, ?_, ?_⟩
        · obtain ⟨g, b', q1, q2, q3, q4⟩ := hv1
          have := hb 0 j (by simp [toks])
          exact ⟨g, b', by rw [← q1]; simpa using this, q2, q3, q4⟩
        · show o :: (inP ps pr (i + 1) (b + 1)).2 = o :: obsP pr
          rw [i2]
        · simp [obsP, toks, i3]
    · obtain ⟨V, Vr, rfl, hv1, hv2⟩ := hv
      obtain ⟨V', Vr', p, pr, e, rfl, hp1, hp2⟩ := hp
      injection e with e1 e2
      subst e1; subst e2
      cases p with
      | val v' => exact absurd hp1 (by simp [PcOk])
      | ob o =>
        obtain ⟨i1, i2, i3⟩ := inP_ok ps (i + 1) (b + 1) h1 hv2 hp2 (fun q j' hq => by
          have := hb (q + 1) j' (by simpa [toks] using hq)
          rwa [show b + (q + 1) = b + 1 + q by omega] at this)
        refine ⟨step (sv0 := .val (.one (.row b hh))) ?_ i1, ?_, ?_⟩
        · obtain ⟨q0, g, q1, q2, q3, q4⟩ := hv1
          have := hb 0 j (by simp [toks])
          exact ⟨q0, g, by rw [← q1]; simpa using this, q2, q3, q4⟩
        · show o :: (inP ps pr (i + 1) (b + 1)).2 = o :: obsP pr
          rw [i2]
        · simp [obsP, toks, i3]
end

/-! ### versions of what is handed over -/
def Ob.ver : Ob → Nat
  | .row h _ _ => h
  | _ => 0
theorem ver_hv {γ : Ghs} {K : Kn} {w : World} {g : Gh} {o : Ob} (h : ObOk γ K w g o) (ho : o.owns = true) : g.hv = o.ver := by
  cases o with
  | box ti cs => obtain ⟨_, _, e, _⟩ := h; exact e
  | map kt vt es => obtain ⟨_, _, _, e, _⟩ := h; exact e
  | row hh t xs => exact h.1
  | iter s p => obtain ⟨_, e, _⟩ := h; exact e
  | _ => cases ho
theorem obsP_ver : ∀ (ps : List PK) {pc : List Piece}, PcKL (kdP ps) pc → ∀ o ∈ obsP pc, o.ver ≤ hvP ps
  | [], pc, h, o, ho => by
    have h : pc = [] := h
    subst h; cases ho
  | .fn f :: l, pc, h, o, ho => obsP_ver l h o ho
  | .k k :: l, pc, h, o, ho => by
    obtain ⟨p, pr, rfl, h1, h2⟩ := h
    have hl : hvP l ≤ hvP (.k k :: l) := by cases k <;> simp [hvP]
    cases p with
    | val v => exact Nat.le_trans (obsP_ver l h2 o ho) hl
    | ob o' =>
      rcases List.mem_cons.1 (show o ∈ o' :: obsP pr from ho) with rfl | ho
      · cases k with
        | r hh e =>
          cases o with
          | row h' e' xs =>
            have : h' = hh := h1
            subst this
            show h' ≤ h' + hvP l
            omega
          | _ => exact Nat.zero_le _
        | _ => cases o <;> first | exact Nat.zero_le _ | exact absurd h1 (by simp [PcK])
      · exact Nat.le_trans (obsP_ver l h2 o ho) hl

/-! ### lookups -/
theorem updF_get : ∀ (u : Upd) {ob : Obs} {j : Nat} {o : Ob}, updF u ob j = some o → (j, o) ∈ u ∨ (ob j = some o ∧ ∀ p ∈ u, p.1 ≠ j)
  | [], ob, j, o, h => .inr ⟨h, fun p hp => by cases hp⟩
  | (i, x) :: u, ob, j, o, h => by
    rcases updF_get u (show updF u (fset ob i x) j = some o from h) with h | ⟨h, h'⟩
    · exact .inl (List.mem_cons_of_mem _ h)
    · by_cases hij : j = i
      · subst hij
        rw [fset_same] at h
        injection h with h
        subst h
        exact .inl List.mem_cons_self
      · rw [fset_ne _ _ hij] at h
        exact .inr ⟨h, fun p hp => (List.mem_cons.1 hp).elim (fun e => by subst e; exact fun e => hij e.symm) (h' p)⟩
theorem newF_get : ∀ (os : List Ob) {n : Nat} {ob : Obs} {j : Nat} {o : Ob}, newF n os ob j = some o → (∃ i : Nat, j = n + i ∧ os[i]? = some o) ∨ (ob j = some o ∧ ∀ i, i < os.length → j ≠ n + i)
  | [], n, ob, j, o, h => .inr ⟨h, fun i hi => absurd hi (Nat.not_lt_zero i)⟩
  | x :: os, n, ob, j, o, h => by
    rcases newF_get os (show newF (n + 1) os (fset ob n x) j = some o from h) with ⟨i, h1, h2⟩ | ⟨h, h'⟩
    · exact .inl ⟨i + 1, by omega, by simpa using h2⟩
    · by_cases hij : j = n
      · subst hij
        rw [fset_same] at h
        exact .inl ⟨0, rfl, by simpa using h⟩
      · rw [fset_ne _ _ hij] at h
        refine .inr ⟨h, fun i hi e => ?_⟩
        simp only [List.length_cons] at hi
        cases i with
        | zero => exact hij (by omega)
        | succ i => exact h' i (by omega) (by omega)
theorem backU_mem : ∀ (ps : List Piece) {l : List Nat} {j : Nat} {o : Ob}, (j, o) ∈ backU l ps → ∃ i : Nat, l[i]? = some j ∧ (obsP ps)[i]? = some o
  | [], l, j, o, h => by cases l <;> simp [backU] at h
  | .val v :: ps, l, j, o, h => by
    cases l with
    | nil => simp [backU] at h
    | cons x l => exact backU_mem ps (l := x :: l) h
  | .ob p :: ps, l, j, o, h => by
    cases l with
    | nil => simp [backU] at h
    | cons x l =>
      simp only [backU, List.mem_cons, Prod.mk.injEq] at h
      rcases h with ⟨rfl, rfl⟩ | h
      · exact ⟨0, rfl, rfl⟩
      · obtain ⟨i, h1, h2⟩ := backU_mem ps h
        exact ⟨i + 1, by simpa using h1, by simpa [obsP] using h2⟩

theorem Hp.enter {w0 w : World} {K0 K : Kn} {H : Nat → Prop} {γ : Ghs} {ob : Obs} (hH : Hp w0 K0 H γ ob K w) {γ2 : Ghs} {ob2 : Obs} (src : Nat → Nat) (h1 : ∀ j o g, ob2 j = some o → γ2 j = some g → ObOk γ2 K w g o)
    (h2 : ∀ j o g ad, ob2 j = some o → γ2 j = some g → o.owns = true → g.a = some ad → ∃ p g', ob (src j) = some p ∧ γ (src j) = some g' ∧ p.owns = true ∧ g'.a = some ad)
    (h3 : ∀ i j o p g g' ad ad', ob2 i = some o → ob2 j = some p → γ2 i = some g → γ2 j = some g' → o.owns = true → p.owns = true → g.a = some ad → g'.a = some ad' → i ≠ j → src i ≠ src j) :
    Hp w K (fun b => ∃ j o g ad, ob2 j = some o ∧ γ2 j = some g ∧ o.owns = true ∧ g.a = some ad ∧ ad.block = b) γ2 ob2 K w := by
  have := hH.rebuild src h1 h2 h3
  exact ⟨rfl, rfl, rfl, Nat.le_refl _, fun _ _ _ => ⟨rfl, fun _ => rfl⟩, Kn.le.refl K, hH.kok, h1, fun j o g a1 a2 a3 ad a4 => .inr ⟨j, o, g, ad, a1, a2, a3, a4, rfl⟩, this.sep⟩
end Go.W
end

section
/-
  A call does what the contract says. No program in it.
-/
namespace Go.W
open Go Go.RowKit

theorem start_eq (ps : List PK) (x : Vec (kTys (kdP ps))) : start ps x = ⟨hvP ps + (rowsN ps x + (inP ps (unpackG 1 (kdP ps) 0 x).1 0 (1 + rowsN ps x)).2.length) + 2, (inP ps (unpackG 1 (kdP ps) 0 x).1 0 (1 + rowsN ps x)).1,
    newO 0 1 ((unpackG 1 (kdP ps) 0 x).2 ++ (inP ps (unpackG 1 (kdP ps) 0 x).1 0 (1 + rowsN ps x)).2)⟩ := by
  unfold start rowsN
  simp only [app_eq, lng_eq, Nat.succ_eq_add_one]

section
variable {E : Env} {g : Operand → SV} {ob : Obs} {tk : Nat} {o : Oper} {α : Type} {k : Out → Option α} {r : α}

/-- the caller hands over what the call begins with -/
theorem enter_ok {c : Con} {as : List SV} {ss : List Src} {x : Vec (kTys (kdP c.ps))} {u : Upd} (has : argS c.ps as = some ss) (hp : packG ob (kdP c.ps) ss = some (x, u)) (ht : tokOk u = true)
    {w0 : World} {K0 : Kn} {H : Nat → Prop} {γ : Ghs} {ob1 : Obs} {K : Kn} {w : World} {vals : List Value} (hle : ∀ j x, ob j = some x → ob1 j = some x) (hH : Hp w0 K0 H γ ob1 K w) (hG : GlobOk E K) (hv : SVL γ K as vals) :
    ∃ K1 obF γc Hc, K.le K1 ∧ Hp w0 K0 H γ obF K1 w ∧ Fzd ob obF u ∧ (∀ j, (∀ p ∈ u, p.2 ≠ .gone → p.1 ≠ j) → obF j = ob1 j) ∧ Ent E c.ps x w K1 Hc γc vals.toArray ∧
      (∀ b, Hc b → ∃ i p g ad, obF i = some p ∧ p.owns = true ∧ γ i = some g ∧ g.a = some ad ∧ ad.block = b ∧ (i, Ob.gone) ∈ u) ∧
      (∀ q j, (toks ss)[q]? = some j → γc (1 + rowsN c.ps x + q) = γ j) := by
  obtain ⟨K1, obF, hK, hH1, hF, hFo⟩ := hH.fzd hle (packG_upd _ hp) ht
  have hv1 : SVL γ K1 as vals := by
    clear has hp
    induction as generalizing vals with
    | nil => exact hv
    | cons a as ih => obtain ⟨v, vr, e, q1, q2⟩ := hv; exact ⟨v, vr, e, q1.mono (Ghs.le.refl γ) hK, ih q2⟩
  obtain ⟨hs1, hs2, hs3⟩ := argS_src c.ps has hv1
  obtain ⟨pc, new, hup⟩ : ∃ pc new, unpackG 1 (kdP c.ps) 0 x = (pc, new) := ⟨_, _, rfl⟩
  obtain ⟨gs, js, r1, r2, r3⟩ := packG_ok (tk := 1) hH1 hF (by omega) (kdP c.ps) (fun j p hj _ => hs3 j hj) hp (fun p hp => hp) hs1 hup
  have hlen := NewL_len r1
  have hcnt := (tokOk_ok ht).1
  have hN : rowsN c.ps x = new.length := by unfold rowsN; rw [hup]
  let γc : Ghs := fun j => if j = 0 then none else if j < 1 + new.length then gs[j - 1]? else ((toks ss)[j - (1 + new.length)]?).bind γ
  have c1 : ∀ i, i < new.length → γc (1 + i) = gs[i]? := fun i hi => by
    have e1 : ¬ (1 + i = 0) := by omega
    have e2 : 1 + i < 1 + new.length := by omega
    simp only [γc, if_neg e1, if_pos e2, Nat.add_sub_cancel_left]
  have c2 : ∀ q, γc (1 + new.length + q) = ((toks ss)[q]?).bind γ := fun q => by
    have e1 : ¬ (1 + new.length + q = 0) := by omega
    have e2 : ¬ (1 + new.length + q < 1 + new.length) := by omega
    simp only [γc, if_neg e1, if_neg e2, Nat.add_sub_cancel_left]
  have hpc := r3 γc fun kk g' hk => by
    have : kk < new.length := by rw [← hlen.1]; exact (List.getElem?_eq_some_iff.1 hk).1
    rw [Nat.zero_add, c1 kk this]; exact hk
  have htq : ∀ q j, (toks ss)[q]? = some j → γc (1 + new.length + q) = γ j := fun q j hq => by rw [c2, hq]; rfl
  obtain ⟨p1, p2, p3⟩ := inP_ok c.ps 0 (1 + new.length) has hv1 hpc htq
  have hst : start c.ps x = ⟨hvP c.ps + (new.length + (obsP pc).length) + 2, (inP c.ps pc 0 (1 + new.length)).1, newO 0 1 (new ++ obsP pc)⟩ := by
    rw [start_eq, hN, hup, p2]
  -- a variable that is handed over
  have box : ∀ {γ2 : Ghs} {ss : List Src} {vs : List Value} {pc : List Piece}, PcL γ γ2 ob obF K1 w ss vs pc → ∀ (q : Nat) (o : Ob), (obsP pc)[q]? = some o → ∃ j, (toks ss)[q]? = some j ∧ o.owns = true ∧ (∃ p, ob j = some p ∧ obF j = some p ∧ p.owns = true) ∧ ∀ g, γ j = some g → ObOk γ2 K1 w g o := by
    intro γ2 ss
    induction ss with
    | nil => intro vs pc h q o ho; have h : pc = [] := h; subst h; simp [obsP] at ho
    | cons s ss ih =>
      intro vs pc h q o ho
      obtain ⟨v, vr, p, pr, e1, e2, h1, h2⟩ := h
      subst e1; subst e2
      cases s with
      | val v' =>
        cases p with
        | ob o => exact absurd h1 (by simp [PcOk])
        | val v'' => exact ih h2 q o ho
      | tok j =>
        cases p with
        | val v'' => exact absurd h1 (by simp [PcOk])
        | ob o' =>
          cases q with
          | zero =>
            simp only [obsP, List.getElem?_cons_zero, Option.some.injEq] at ho
            subst ho
            exact ⟨j, rfl, h1⟩
          | succ q =>
            obtain ⟨j', q1, q2⟩ := ih h2 q o (by simpa [obsP] using ho)
            exact ⟨j', by simpa [toks] using q1, q2⟩
  -- the objects of the call, one by one
  have obj : ∀ j v0 o, lk (newO 0 1 (new ++ obsP pc)) j = some (v0, o) → v0 = 0 ∧ ((∃ i, j = 1 + i ∧ i < new.length ∧ ∃ g2 src, gs[i]? = some g2 ∧ js[i]? = some src ∧ NewOk γ obF K1 w 1 o g2 src) ∨
      (∃ q i, j = 1 + new.length + q ∧ q < (obsP pc).length ∧ (toks ss)[q]? = some i ∧ o.owns = true ∧ (∃ p, ob i = some p ∧ obF i = some p ∧ p.owns = true) ∧ ∀ g, γ i = some g → ObOk γc K1 w g o)) := fun j v0 o hj => by
    obtain ⟨i, e1, e2, e3⟩ := lk_newO_get _ _ _ _ _ hj
    refine ⟨e3, ?_⟩
    simp only at e2
    by_cases hi : i < new.length
    · rw [List.getElem?_append_left hi] at e2
      obtain ⟨g2, src, k1, k2, k3⟩ := NewL_get r1 i o e2
      exact .inl ⟨i, e1, hi, g2, src, k1, k2, k3⟩
    · rw [List.getElem?_append_right (by omega)] at e2
      obtain ⟨i', q1, q2, q3, q4⟩ := box hpc (i - new.length) o e2
      exact .inr ⟨i - new.length, i', by omega, (List.getElem?_eq_some_iff.1 e2).1, q1, q2, q3, q4⟩
  have obj' : ∀ j o, obs (start c.ps x) j = some o → ∃ v0, lk (newO 0 1 (new ++ obsP pc)) j = some (v0, o) := fun j o hj => by
    unfold obs at hj
    rw [hst] at hj
    simp only at hj
    split at hj
    · rename_i v0 o0 hl
      injection hj with hj
      subst hj
      exact ⟨v0, hl⟩
    · cases hj
  have hvar : ∀ i, i ∈ toks ss → ∃ g, γ i = some g := fun i hi => hs3 i (mem_toks.2 hi)
  let src : Nat → Nat := fun j => if j < 1 + new.length then (match js[j - 1]? with
    | some (some i) => i
    | _ => 0) else ((toks ss)[j - (1 + new.length)]?).getD 0
  have src1 : ∀ i kk, i < new.length → js[i]? = some (some kk) → src (1 + i) = kk := fun i kk hi hk => by
    have e2 : 1 + i < 1 + new.length := by omega
    simp only [src, if_pos e2, Nat.add_sub_cancel_left, hk]
  have src2 : ∀ q i, (toks ss)[q]? = some i → src (1 + new.length + q) = i := fun q i hq => by
    have e2 : ¬ (1 + new.length + q < 1 + new.length) := by omega
    simp only [src, if_neg e2, Nat.add_sub_cancel_left, hq, Option.getD_some]
  have frm : ∀ j o g ad, obs (start c.ps x) j = some o → γc j = some g → o.owns = true → g.a = some ad → (∃ p g', obF (src j) = some p ∧ γ (src j) = some g' ∧ p.owns = true ∧ g'.a = some ad) ∧ (src j, Ob.gone) ∈ u ∧
      ((∃ i, j = 1 + i ∧ js[i]? = some (some (src j))) ∨ ∃ q, j = 1 + new.length + q ∧ (toks ss)[q]? = some (src j)) := fun j o g ad hj hg ho ha => by
    obtain ⟨v0, hl⟩ := obj' j o hj
    obtain ⟨_, hh⟩ := obj j v0 o hl
    rcases hh with ⟨i, rfl, q2, g2, sr, q3, q4, q5⟩ | ⟨q, i, rfl, _, q2, q3, ⟨p, q4, q5, q6⟩, q7⟩
    · rw [c1 i q2, q3] at hg
      injection hg with hg
      subst hg
      obtain ⟨_, _, _, q6⟩ := q5
      rcases q6 with q6 | ⟨kk, g', p, q6, q7, q8, q9, q10⟩
      · rw [q6] at ha; cases ha
      · subst q6
        rw [src1 i kk q2 q4]
        refine ⟨⟨p, g', q8, q7, q9, by rw [← q10]; exact ha⟩, cntG_mem ?_, .inl ⟨i, rfl, q4⟩⟩
        have := List.count_pos_iff.2 (List.mem_of_getElem? q4)
        have := r2 kk
        omega
    · rw [c2, q2] at hg
      have hg : γ i = some g := hg
      rw [src2 q i q2]
      refine ⟨⟨p, g, q5, hg, q6, ha⟩, cntG_mem ?_, .inr ⟨q, rfl, q2⟩⟩
      have := List.count_pos_iff.2 (List.mem_of_getElem? q2)
      have := r2 i
      omega
  have hp2 := hH1.enter (γ2 := γc) (ob2 := obs (start c.ps x)) src (fun j o g hj hg => by
      obtain ⟨v0, hl⟩ := obj' j o hj
      obtain ⟨_, hh⟩ := obj j v0 o hl
      rcases hh with ⟨i, rfl, q2, g2, sr, q3, q4, q5⟩ | ⟨q, i, rfl, _, q2, q3, _, q7⟩
      · rw [c1 i q2, q3] at hg
        injection hg with hg
        subst hg
        exact q5.2.1 γc
      · rw [c2, q2] at hg
        exact q7 g hg) (fun j o g ad hj hg ho ha => (frm j o g ad hj hg ho ha).1) (fun i j o p g g' ad ad' a1 a2 a3 a4 a5 a6 a7 a8 hij e => by
      have h1 := r2 (src j)
      have h2 := hcnt (src j)
      rcases (frm i o g ad a1 a3 a5 a7).2.2 with ⟨kk, b1, b2⟩ | ⟨kk, b1, b2⟩ <;> rcases (frm j p g' ad' a2 a4 a6 a8).2.2 with ⟨k', d1, d2⟩ | ⟨k', d1, d2⟩
      · rw [e] at b2
        have := count_inj (by omega) b2 d2
        subst this
        exact hij (by rw [b1, d1])
      · rw [e] at b2
        have := List.count_pos_iff.2 (List.mem_of_getElem? b2)
        have := List.count_pos_iff.2 (List.mem_of_getElem? d2)
        omega
      · rw [e] at b2
        have := List.count_pos_iff.2 (List.mem_of_getElem? b2)
        have := List.count_pos_iff.2 (List.mem_of_getElem? d2)
        omega
      · rw [e] at b2
        by_cases hkk : kk = k'
        · subst hkk; exact hij (by rw [b1, d1])
        · exact absurd (count_inj (by omega) b2 d2) hkk)
  refine ⟨K1, obF, γc, _, hK, hH1, hF, hFo, ⟨by simp [hs2], fun y v sv hy => ?_, hp2, hG.mono hK, fun j g' hg => ?_, fun j e hj => ?_⟩, fun b hb => ?_, by rw [hN]; exact htq⟩
  · rw [hst] at hy
    obtain ⟨q1, _, q3⟩ := p1 y v sv hy
    exact ⟨q1, by simpa using q3⟩
  · rw [hst]
    show j < hvP c.ps + (new.length + (obsP pc).length) + 2 ∧ g'.hv < hvP c.ps + (new.length + (obsP pc).length) + 2
    by_cases h0 : j = 0
    · subst h0; simp [γc] at hg
    · by_cases hj : j < 1 + new.length
      · have e : j = 1 + (j - 1) := by omega
        rw [e, c1 _ (by omega)] at hg
        obtain ⟨g2, sr, k1, k2, k3⟩ := NewL_get r1 (j - 1) _ (List.getElem?_eq_getElem (by omega))
        rw [k1] at hg
        injection hg with hg
        subst hg
        have := k3.2.2.1
        omega
      · have e : j = 1 + new.length + (j - (1 + new.length)) := by omega
        rw [e, c2] at hg
        cases hq : (toks ss)[j - (1 + new.length)]? with
        | none => rw [hq] at hg; cases hg
        | some i =>
          rw [hq] at hg
          have hg : γ i = some g' := hg
          have hl := (List.getElem?_eq_some_iff.1 hq).1
          have ho := List.getElem?_eq_getElem (show j - (1 + new.length) < (obsP pc).length by omega)
          obtain ⟨i', q1, q2, _, q4⟩ := box hpc _ _ ho
          rw [hq] at q1
          injection q1 with q1
          subst q1
          have h1 := ver_hv (q4 g' hg) q2
          have h2 := obsP_ver c.ps (by have := unpackG_kinds (tk := 1) (kdP c.ps) 0 x; rw [hup] at this; exact this) _ (List.mem_of_getElem? ho)
          omega
  · rw [hst] at hj
    obtain ⟨v0, o⟩ := e
    obtain ⟨_, hh⟩ := obj j v0 o hj
    rcases hh with ⟨i, rfl, q2, g2, sr, q3, q4, q5⟩ | ⟨q, i, rfl, _, q2, q3, _, q7⟩
    · exact ⟨g2, by rw [c1 i q2]; exact q3⟩
    · obtain ⟨g3, q1⟩ := hvar i (List.mem_of_getElem? q2)
      exact ⟨g3, by rw [c2, q2]; exact q1⟩
  · obtain ⟨j, o, g', ad, b1, b2, b3, b4, b5⟩ := hb
    obtain ⟨⟨p, g2, d1, d2, d3, d4⟩, d5, _⟩ := frm j o g' ad b1 b2 b3 b4
    exact ⟨src j, p, g2, ad, d1, d3, d2, d4, b5, d5⟩
end
end Go.W
end

section
/-
  A call has come back: what the caller knows. No program in it.
-/
namespace Go.W
open Go Go.RowKit

section
variable {E : Env} {g : Operand → SV} {ob : Obs} {tk : Nat} {o : Oper} {α : Type} {k : Out → Option α} {r : α}

theorem back_ok {c : Con} {ss : List Src} {x : Vec (kTys (kdP c.ps))} {y : Vec (kTys (app c.rs (kdB c.ps)))} {u : Upd} (hu : UOk ob u)
    {w0 : World} {K0 : Kn} {H : Nat → Prop} {γ : Ghs} {ob1 obF : Obs} {K K1 : Kn} {w w' : World} {γc : Ghs} {Hc : Nat → Prop} {V : Value}
    (hK : K.le K1) (hH : Hp w0 K0 H γ obF K1 w) (hF : Fzd ob obF u) (hFo : ∀ j, (∀ p ∈ u, p.2 ≠ .gone → p.1 ≠ j) → obF j = ob1 j)
    (hHc : ∀ b, Hc b → ∃ i p g ad, obF i = some p ∧ p.owns = true ∧ γ i = some g ∧ g.a = some ad ∧ ad.block = b ∧ (i, Ob.gone) ∈ u)
    (hγc : ∀ q j, (toks ss)[q]? = some j → γc (1 + rowsN c.ps x + q) = γ j)
    (hγt : ∀ j, j ∈ toks ss → ∃ g, γ j = some g)
    (hfr : ∀ i, i < (unpackG tk (app c.rs (kdB c.ps)) 0 y).2.length → γ (tk + i) = none)
    (hB : Back c.rs c.ps x y w K1 Hc γc V w' tk) :
    ∃ γ3 K3, Step w0 K0 H γ ob1 K tk ⟨oneV (valsP c.rs (unpackG tk (app c.rs (kdB c.ps)) 0 y).1), (unpackG tk (app c.rs (kdB c.ps)) 0 y).2, app u (backU (tokB ss) (unpackG tk (app c.rs (kdB c.ps)) 0 y).1)⟩ V γ3 K3 w' := by
  obtain ⟨γf, obC, Kf, gs, js, hC, r1, hcnt, hbox, hval⟩ := hB
  generalize unpackG tk (app c.rs (kdB c.ps)) 0 y = up at *
  obtain ⟨ps, new⟩ := up
  simp only at *
  have hlen := NewL_len r1
  rw [app_eq, tokB_eq]
  let γ3 : Ghs := fun j => if tk ≤ j ∧ j < tk + new.length then gs[j - tk]? else γ j
  have g1 : ∀ i, i < new.length → γ3 (tk + i) = gs[i]? := fun i hi => by
    have : tk ≤ tk + i ∧ tk + i < tk + new.length := by omega
    simp only [γ3, if_pos this, Nat.add_sub_cancel_left]
  have g2 : ∀ j g, γ j = some g → γ3 j = some g := fun j g hg => by
    have : ¬ (tk ≤ j ∧ j < tk + new.length) := fun hj => by
      have := hfr (j - tk) (by omega)
      rw [show tk + (j - tk) = j by omega, hg] at this
      cases this
    simp only [γ3, if_neg this]; exact hg
  have g3 : ∀ j g, γ3 j = some g → γ j = some g ∨ ∃ i, j = tk + i ∧ i < new.length ∧ gs[i]? = some g := fun j g hg => by
    by_cases hj : tk ≤ j ∧ j < tk + new.length
    · simp only [γ3, if_pos hj] at hg; exact .inr ⟨j - tk, by omega, by omega, hg⟩
    · simp only [γ3, if_neg hj] at hg; exact .inl hg
  have hgle : Ghs.le γ γ3 := fun j g hg => ⟨g, g2 j g hg, Nat.le_refl _, fun _ => rfl⟩
  have hgets : Gets gs tk γ3 := fun kk g hk => by
    have : kk < new.length := by rw [← hlen.1]; exact (List.getElem?_eq_some_iff.1 hk).1
    rw [Nat.zero_add, g1 kk this]; exact hk
  have hKf : K1.le Kf := hC.mono
  have g4 : ∀ j g, γ3 j = some g → (∀ i, i < new.length → j ≠ tk + i) → γ j = some g := fun j g hg hne => by
    rcases g3 j g hg with h | ⟨i, e, hi, _⟩
    · exact h
    · exact absurd e (hne i hi)
  have hvar : ∀ (i j : Nat) (g : Gh), (toks ss)[i]? = some j → γ3 j = some g → γ j = some g := fun i j g hi hg => by
    obtain ⟨g', hg'⟩ := hγt j (List.mem_of_getElem? hi)
    have := g2 j g' hg'
    rw [this] at hg
    injection hg with hg
    subst hg
    exact hg'
  -- what lies where it lay
  have still : ∀ j o g, obF j = some o → γ j = some g → (∀ p ∈ u, p.1 ≠ j) → o.owns = true → ∀ ad, g.a = some ad → (w'.heap[ad.block]? = w.heap[ad.block]? ∧ ∀ i, Kf ad.block i = K1 ad.block i) ∧ ad.block < w.heap.size ∧ ¬ Hc ad.block := fun j o g hj hg hne ho ad ha => by
    have hb := ((hH.ok j o g hj hg).block ho ha).1
    have hnc : ¬ Hc ad.block := fun hc => by
      obtain ⟨i, p, g', ad', q1, q2, q3, q4, q5, q6⟩ := hHc _ hc
      exact hH.sep i j p o g' g q1 hj q3 hg q2 ho (hne _ q6) ad' ad q4 ha q5
    exact ⟨hC.blk _ hb hnc, hb, hnc⟩
  -- the objects, one by one
  have obj : ∀ j o g, newF tk new (updF (u ++ backU (toks ss) ps) ob1) j = some o → γ3 j = some g →
      ObOk γ3 Kf w' g o ∧ (o.owns = true → ∀ ad, g.a = some ad → (γ j = some g ∧ obF j = some o ∧ ∀ p ∈ u, p.1 ≠ j) ∨
        ∃ p cs g', obC cs = some p ∧ p.owns = true ∧ γf cs = some g' ∧ g'.a = some ad ∧ ((∃ i, j = tk + i ∧ js[i]? = some (some cs)) ∨ ∃ i, (toks ss)[i]? = some j ∧ cs = 1 + rowsN c.ps x + i ∧ js.count (some cs) = 0)) := fun j o g hj hg => by
    rcases newF_get new hj with ⟨i, e1, e2⟩ | ⟨hj, hne⟩
    · subst e1
      obtain ⟨gg, sr, k1, k2, k3⟩ := NewL_get r1 i o e2
      rw [g1 i (List.getElem?_eq_some_iff.1 e2).1, k1] at hg
      injection hg with hg
      subst hg
      refine ⟨k3.2.1 γ3, fun _ ad ha => .inr ?_⟩
      rcases k3.2.2.2 with q | ⟨cs, g', p, q1, q2, q3, q4, q5⟩
      · rw [q] at ha; cases ha
      · subst q1
        exact ⟨p, cs, g', q3, q4, q2, by rw [← q5]; exact ha, .inl ⟨i, rfl, k2⟩⟩
    · rcases updF_get _ hj with hm | ⟨hj, hnu⟩
      · rcases List.mem_append.1 hm with hm | hm
        · by_cases hgo : o = .gone
          · subst hgo
            exact ⟨True.intro, fun e => by cases e⟩
          · have hfo := hF.frz _ hm hgo
            simp only at hfo
            have hown : o.owns = false := by
              rcases hu _ hm with ⟨e, _⟩ | ⟨h, t, xs, _, e⟩
              · exact absurd e hgo
              · simp only at e; subst e; rfl
            exact ⟨(hH.ok j o g hfo (g4 j g hg hne)).mono hgle hKf (fun e => by rw [hown] at e; cases e), fun e => by rw [hown] at e; cases e⟩
        · obtain ⟨i, e1, e2⟩ := backU_mem ps hm
          have hgj := hvar i j g e1 hg
          obtain ⟨b1, b2, ⟨p, b3, b3'⟩, b4⟩ := hbox i o e2
          rw [hγc i j e1, hgj] at b2
          exact ⟨b4 γ3 hgets g b2, fun _ ad ha => .inr ⟨p, _, g, b3, b3', b2, ha, .inr ⟨i, e1, rfl, b1⟩⟩⟩
      · have hnu' : ∀ p ∈ u, p.1 ≠ j := fun p hp => hnu p (List.mem_append_left _ hp)
        have hfo : obF j = some o := by rw [hFo j fun p hp _ => hnu' p hp]; exact hj
        have hgj := g4 j g hg hne
        exact ⟨(hH.ok j o g hfo hgj).mono hgle hKf (fun ho ad ha => (still j o g hfo hgj hnu' ho ad ha).1), fun _ _ _ => .inl ⟨hgj, hfo, hnu'⟩⟩
  -- where the call's objects lie
  have far : ∀ (cs : Nat) (p : Ob) (g' : Gh) (ad : Addr), obC cs = some p → p.owns = true → γf cs = some g' → g'.a = some ad → w.heap.size ≤ ad.block ∨ Hc ad.block := fun cs p g' ad h1 h2 h3 h4 => hC.own cs p g' h1 h3 h2 ad h4
  refine ⟨γ3, Kf, hgle, hK.trans hKf, hval γ3 hgets, ⟨?_, ?_, ?_, ?_, ?_, ?_, hC.kok, fun j o g hj hg => (obj j o g hj hg).1, ?_, ?_⟩, ?_, ?_⟩
  · rw [hC.os, hH.os]
  · rw [hC.tape, hH.tape]
  · rw [hC.output, hH.output]
  · exact Nat.le_trans hH.size hC.size
  · intro b hb hnH
    have hnc : ¬ Hc b := fun hc => by
      obtain ⟨i, p, g', ad', q1, q2, q3, q4, q5, q6⟩ := hHc _ hc
      rcases hH.own i p g' q1 q3 q2 ad' q4 with h | h
      · omega
      · rw [q5] at h; exact hnH h
    have h1 := hC.blk b (Nat.lt_of_lt_of_le hb hH.size) hnc
    have h2 := hH.blk b hb hnH
    exact ⟨by rw [h1.1]; exact h2.1, fun o => by rw [h1.2]; exact h2.2 o⟩
  · exact hH.mono.trans hKf
  · intro j o g hj hg ho ad ha
    rcases (obj j o g hj hg).2 ho ad ha with ⟨q1, q2, _⟩ | ⟨p, cs, g', q1, q2, q3, q4, _⟩
    · exact hH.own j o g q2 q1 ho ad ha
    · rcases far cs p g' ad q1 q2 q3 q4 with h | h
      · exact .inl (Nat.le_trans hH.size h)
      · obtain ⟨i, p2, g2', ad2, d1, d2, d3, d4, d5, _⟩ := hHc _ h
        rw [← d5]
        exact hH.own i p2 g2' d1 d3 d2 ad2 d4
  · intro i j o p g g' hi hj hgi hgj hoi hoj hij ad ad' ha ha' e
    rcases (obj i o g hi hgi).2 hoi ad ha with ⟨q1, q2, q3⟩ | ⟨p1, c1, g1', q1, q2, q3, q4, q5⟩ <;> rcases (obj j p g' hj hgj).2 hoj ad' ha' with ⟨d1, d2, d3⟩ | ⟨p2, c2, g2', d1, d2, d3, d4, d5⟩
    · exact hH.sep i j o p g g' q2 d2 q1 d1 hoi hoj hij ad ad' ha ha' e
    · obtain ⟨_, s1, s2⟩ := still i o g q2 q1 q3 hoi ad ha
      rcases far c2 p2 g2' ad' d1 d2 d3 d4 with h | h
      · omega
      · rw [← e] at h; exact s2 h
    · obtain ⟨_, s1, s2⟩ := still j p g' d2 d1 d3 hoj ad' ha'
      rcases far c1 p1 g1' ad q1 q2 q3 q4 with h | h
      · omega
      · rw [e] at h; exact s2 h
    · refine hC.sep c1 c2 p1 p2 g1' g2' q1 d1 q3 d3 q2 d2 (fun ec => ?_) ad ad' q4 d4 e
      subst ec
      rcases q5 with ⟨a1, a2, a3⟩ | ⟨a1, a2, a3, a4⟩ <;> rcases d5 with ⟨b1, b2, b3⟩ | ⟨b1, b2, b3, b4⟩
      · have := count_inj (hcnt c1) a3 b3
        subst this
        exact hij (by rw [a2, b2])
      · have := List.count_pos_iff.2 (List.mem_of_getElem? a3)
        omega
      · have := List.count_pos_iff.2 (List.mem_of_getElem? b3)
        omega
      · have : a1 = b1 := by omega
        subst this
        rw [a2] at b2
        injection b2 with b2
        exact hij b2
  · intro j g' hg
    rcases g3 j g' hg with h | ⟨i, e1, e2, e3⟩
    · exact .inl h
    · obtain ⟨gg, sr, k1, k2, k3⟩ := NewL_get r1 i _ (List.getElem?_eq_getElem e2)
      rw [e3] at k1
      injection k1 with k1
      subst k1
      have hh : new.length = new.length := rfl
      exact .inr ⟨Nat.le_of_eq k3.2.2.1, .inr ⟨by omega, by show j < tk + new.length; omega⟩⟩
  · intro i hi
    have hi : i < new.length := hi
    exact ⟨gs[i]'(by rw [hlen.1]; exact hi), by rw [g1 i hi]; exact List.getElem?_eq_getElem _⟩

theorem ptrs_svl {γ : Ghs} {K : Kn} : ∀ {js : List Nat} {vs : List Value}, RepPs γ js vs → SVL γ K (ptrs js) vs
  | [], _, h => h
  | _ :: _, _, ⟨g, b, r, e, h1, h2, h3, h4⟩ => ⟨_, r, e, ⟨g, b, h1, h2, h3, rfl⟩, ptrs_svl h4⟩
theorem app_svl {γ : Ghs} {K : Kn} : ∀ {l m : List SV} {us vs : List Value}, SVL γ K l us → SVL γ K m vs → SVL γ K (app l m) (us ++ vs)
  | [], _, _, _, h, h2 => by
    have h : _ = [] := h
    subst h
    exact h2
  | _ :: _, _, _, _, ⟨v, r, e, h1, h3⟩, h2 => by
    subst e
    exact ⟨v, r ++ _, rfl, h1, app_svl h3 h2⟩
theorem callee_ok {γ : Ghs} {K : Kn} {v : SV} {V : Value} {f : Nat} {ex : List SV} (h : Callee v f ex) (hr : RepSV γ K v V) : ∃ vs, V = .func (.func f) #[] vs.toArray ∧ SVL γ K ex vs := by
  rcases h with ⟨rfl, rfl⟩ | ⟨js, rfl, rfl⟩
  · exact ⟨[], hr, rfl⟩
  · obtain ⟨vs, e, h⟩ := hr
    exact ⟨vs, e, ptrs_svl h⟩
theorem callK_ok {c : Con} (hc : ConOk E c) {c0 : Call} {xf : Operand} {f : Nat} {ex : List SV} (ho : o.op = .call c0) (hcal : c0.callee = .value xf) (hx : Callee (g xf) f ex) (hf : c.f = f) (h : callK ob tk c (app (mapG g c0.args.toList) ex) k = some r) :
    ∃ out, k out = some r ∧ OpOk E g ob tk o out := by
  unfold callK at h
  split at h
  · cases h
  · rename_i ss has
    split at h
    · rename_i x u hp
      split at h
      · rename_i htv
        simp only [Bool.and_eq_true] at htv
        unfold bnd at h
        obtain ⟨y, hy, h⟩ := Option.bind_eq_some_iff.1 h
        refine ⟨_, h, ?_⟩
        intro w0 K0 H γ ob1 K a w hr hle hH hG hfr _ h0 next Q hn
        obtain ⟨xs, hfv, hxs⟩ := callee_ok hx (hr xf (by simp [ho, Op.operands, Call.operands, hcal]))
        have hargs : ∀ z ∈ c0.args.toList, RepSV γ K (g z) (a.eval z) := fun z hz => hr z (by simp only [ho, Op.operands, Call.operands, hcal]; simp at hz ⊢; exact .inr hz)
        have hv := app_svl (mapG_svl c0.args.toList hargs) hxs
        obtain ⟨K1, obF, γc, Hc, e1, e2, e3, e4, e5, e6, e7⟩ := enter_ok has hp htv.1 hle hH hG hv
        have htoks := (argS_src c.ps has hv).2.2
        have hexec : (execOp a.eval o).run E.P w = (callFunc f (c0.args.toList.map a.eval ++ xs).toArray).run E.P w := by
          have : (c0.args.toList.map a.eval ++ xs).toArray = c0.args.map a.eval ++ xs.toArray := by apply Array.toList_inj.1; simp
          rw [this]
          simp [execOp, ho, resolve, hcal, hfv, Deferred.ofValue, invoke]
        have hfin : ∀ V w', (∀ tk, 0 < tk → Back c.rs c.ps x y w K1 Hc γc V w' tk) → next (a.put o.dst V) w' := fun V w' hb => by
          obtain ⟨γ3, K3, hst⟩ := back_ok (ss := ss) (packG_upd _ hp) e1 e2 e3 e4 e6 e7 (fun j hj => htoks j (mem_toks.2 hj)) hfr (hb tk h0)
          exact hn V γ3 K3 w' hst
        unfold Oper.wp
        rw [hexec]
        have := hc x y hy w K1 Hc γc _ e5
        rw [hf] at this
        rcases this with ⟨V, w', q1, q2⟩ | ⟨q1, q2⟩
        · rw [q1]
          exact hfin V w' q2
        · rw [q1, Oper.upon_enter]
          refine q2.mono fun e w' he => ?_
          cases e with
          | returned V => exact hfin V w' he
          | panicked ch => exact he.elim
          | outgrown => exact he.elim
      · cases h
    · cases h

theorem callsOk_of {tab : List Con} (h : ∀ c ∈ tab, ConOk E c) : CallsOk E tab := by
  intro g ob tk o α k r c x f ex ho hcal hx hk
  induction tab with
  | nil => cases hk
  | cons c1 tab ih =>
    simp only [callC] at hk
    cases hb : (Nat.beq c1.f f && fits c1.ps (app (mapG g c.args.toList) ex)) with
    | true =>
      rw [hb] at hk
      simp only [Bool.and_eq_true] at hb
      exact callK_ok (h c1 List.mem_cons_self) ho hcal hx (Nat.eq_of_beq_eq_true hb.1) hk
    | false =>
      rw [hb] at hk
      exact ih (fun c hc => h c (List.mem_cons_of_mem _ hc)) hk
end
end Go.W
end

section
/-
  A function's contract from the machine's run of it. No program in it.
-/
namespace Go.W
open Go Go.RowKit

def resF (tm : Array Value) : ResultVar → Sem Value
  | .tmp t => pure (tm.getD t undef)
  | .cell b t => do loadVar t (← asAddr (tm.getD b undef))
theorem results_eq (fn : Func) (tm : Array Value) : results fn tm = (do let vs ← fn.results.mapM (resF tm); pure (if h : vs.size = 1 then vs[0] else .tuple vs)) := by
  unfold results
  congr
def tupleOf : List Value → Value
  | [v] => v
  | vs => .tuple vs.toArray

section
variable {E : Env} {N M : Nat} {w0 : World} {K0 : Kn} {H : Nat → Prop} {G : Ghs} {s : ASt} {γ : Ghs} {K : Kn} {a : Act} {w : World}

theorem boxV_rep {T : Ty} {cs : List Cell} {vs : List Value} (h : RepCs γ K cs vs) : RepV γ K (boxV T cs) (vOf T vs) := by
  unfold boxV vOf
  split
  · rename_i hT; rw [hT]; exact ⟨vs, rfl, h⟩
  · rename_i c hT
    rw [hT]
    obtain ⟨v, r, rfl, h1, _⟩ := h
    exact h1
  · exact True.intro

theorem outR_ok (hE : EnvOk E) (hR : Rel E N w0 K0 H G s γ K a w) : ∀ (l : List Kd) (xs : List ResultVar) {ss : List Src}, outR E s l xs = some ss → ∃ Vs, (List.mapM (resF a.tmps) xs).run E.P w = .ok Vs w ∧ SrcL γ K ss Vs ∧ toks ss = [] ∧ ss.length = l.length
  | [], [], ss, h => by
    simp only [outR, Option.some.injEq] at h
    subst h
    exact ⟨[], by simp, rfl, rfl, rfl⟩
  | [], _ :: _, ss, h => by simp [outR] at h
  | _ :: _, [], ss, h => by simp [outR] at h
  | k :: l, x :: xs, ss, h => by
    simp only [outR] at h
    split at h
    · rename_i r rs hr hrs
      injection h with h
      subst h
      obtain ⟨Vs, i1, i2, i3, i4⟩ := outR_ok hE hR l xs hrs
      have key : ∃ v V, r = .val v ∧ (resF a.tmps x).run E.P w = .ok V w ∧ RepV γ K v V := by
        unfold resV at hr
        split at hr
        · rename_i t
          split at hr
          · rename_i vv v hl
            injection hr with hr
            exact ⟨v, _, hr.symm, rfl, (hR.slots t _ _ hl).2⟩
          · cases hr
        · rename_i t ty
          split at hr
          · rename_i vv j hl
            split at hr
            · rename_i vb tib cs T hb hT
              obtain ⟨hc, hr⟩ := bsel_true (r := none) hr
              injection hr with hr
              simp only [Bool.and_eq_true] at hc
              have hTk := same_eq hc.1.1
              have hlen := Nat.eq_of_beq_eq_true hc.1.2
              rw [lng_eq] at hlen
              have hs := (hR.slots t _ _ hl).2
              obtain ⟨g', b, k1, k2, k3, k4⟩ := hs
              have hob : obs s j = some (.box tib cs) := by unfold obs; rw [hb]
              obtain ⟨b', vs, q0, q1, ⟨us, q2, qs⟩, q3, _⟩ := hR.hp.ok j _ g' hob k1
              have := qs.all q3 hc.2
              subst this
              rw [k3] at q1
              injection q1 with q1
              injection q1 with q1
              subst q1
              have hvl := RepCs_len q3
              have hload := loadVar_ok hE hT (w := w) (ad := ⟨b, 0, none⟩) (vs := us) (fun i u hu => by
                rw [add_lit, cell_row q2]; simpa using hu) (by omega)
              refine ⟨_, vOf T us, hr.symm, ?_, by rw [← hTk]; exact boxV_rep q3⟩
              have h4 : (asAddr (a.tmps.getD t undef)).run E.P w = .ok ⟨b, 0, none⟩ w := by rw [k4]; rfl
              simp only [resF, Sem.run_bind, h4, Result.andThen_ok, hload]
            · cases hr
          · cases hr
      obtain ⟨v, V, rfl, q1, q2⟩ := key
      refine ⟨V :: Vs, ?_, ⟨V, Vs, rfl, q2, i2⟩, i3, by simp [i4]⟩
      simp only [List.mapM_cons, Sem.run_bind, q1, Result.andThen_ok, i1, Sem.run_pure]
    · cases h

theorem newF_at : ∀ (os : List Ob) (n i : Nat) {ob : Obs} {j : Nat} {o : Ob}, j = n + i → os[i]? = some o → newF n os ob j = some o
  | [], n, i, ob, j, o, _, h => by simp at h
  | x :: os, n, 0, ob, j, o, e, h => by
    simp only [List.getElem?_cons_zero, Option.some.injEq] at h
    subst h
    show newF (n + 1) os (fset ob n x) j = some x
    rw [newF_ge os (n + 1) _ j (by omega)]
    rw [show j = n by omega]; exact fset_same _ _ _
  | x :: os, n, i + 1, ob, j, o, e, h => newF_at os (n + 1) i (by omega) (by simpa using h)

theorem SrcL_app {γ : Ghs} {K : Kn} : ∀ {a b : List Src} {u v : List Value}, SrcL γ K a u → SrcL γ K b v → SrcL γ K (a ++ b) (u ++ v)
  | [], _, _, _, h1, h2 => by cases h1; exact h2
  | _ :: _, _, _, _, ⟨x, r, e, h1, h2⟩, h3 => by subst e; exact ⟨x, r ++ _, rfl, h1, SrcL_app h2 h3⟩
theorem SrcL_outB {γ : Ghs} {K : Kn} : ∀ (ps : List PK) (b : Nat), ∃ vs, SrcL γ K (outB ps b) vs
  | [], _ => ⟨[], rfl⟩
  | .k (.v _ _) :: l, b => SrcL_outB l b
  | .k (.b _ _ _) :: l, b => by obtain ⟨vs, h⟩ := SrcL_outB l (b + 1); exact ⟨undef :: vs, undef, vs, rfl, True.intro, h⟩
  | .k (.m _ _) :: l, b => by obtain ⟨vs, h⟩ := SrcL_outB l (b + 1); exact ⟨undef :: vs, undef, vs, rfl, True.intro, h⟩
  | .k (.r _ _) :: l, b => by obtain ⟨vs, h⟩ := SrcL_outB l (b + 1); exact ⟨undef :: vs, undef, vs, rfl, True.intro, h⟩
  | .k .i :: l, b => SrcL_outB l (b + 1)
  | .fn _ :: l, b => SrcL_outB l b
theorem outB_toks : ∀ (ps : List PK) (b : Nat), noR ps = true → ∀ (i j : Nat), (toks (outB ps b))[i]? = some j → j = b + i
  | [], _, _, i, j, h => by simp [outB, toks] at h
  | .k (.v _ _) :: l, b, hn, i, j, h => outB_toks l b hn i j h
  | .k (.b _ _ _) :: l, b, hn, 0, j, h => by simp only [outB, toks, List.getElem?_cons_zero, Option.some.injEq] at h; omega
  | .k (.b _ _ _) :: l, b, hn, i + 1, j, h => by
    have := outB_toks l (b + 1) hn i j (by simpa [outB, toks] using h)
    omega
  | .k (.m _ _) :: l, b, hn, 0, j, h => by simp only [outB, toks, List.getElem?_cons_zero, Option.some.injEq] at h; omega
  | .k (.m _ _) :: l, b, hn, i + 1, j, h => by
    have := outB_toks l (b + 1) hn i j (by simpa [outB, toks] using h)
    omega
  | .k (.r _ _) :: l, b, hn, 0, j, h => by simp only [outB, toks, List.getElem?_cons_zero, Option.some.injEq] at h; omega
  | .k (.r _ _) :: l, b, hn, i + 1, j, h => by
    have := outB_toks l (b + 1) hn i j (by simpa [outB, toks] using h)
    omega
  | .k .i :: l, b, hn, i, j, h => by cases hn
  | .fn _ :: l, b, hn, i, j, h => outB_toks l b hn i j h
theorem toks_app : ∀ (a b : List Src), toks (a ++ b) = toks a ++ toks b
  | [], _ => rfl
  | .tok j :: a, b => by simp only [List.cons_append, toks, toks_app a b]
  | .val v :: a, b => by simp only [List.cons_append, toks, toks_app a b]

theorem PcL_box {γ2 : Ghs} {ob obF : Obs} : ∀ {ss : List Src} {vs : List Value} {pc : List Piece}, PcL γ γ2 ob obF K w ss vs pc → ∀ (q : Nat) (o : Ob), (obsP pc)[q]? = some o → ∃ j, (toks ss)[q]? = some j ∧ o.owns = true ∧ (∃ p, ob j = some p ∧ obF j = some p ∧ p.owns = true) ∧ ∀ g, γ j = some g → ObOk γ2 K w g o := by
  intro ss
  induction ss with
  | nil => intro vs pc h q o ho; have h : pc = [] := h; subst h; simp [obsP] at ho
  | cons s ss ih =>
    intro vs pc h q o ho
    obtain ⟨v, vr, p, pr, e1, e2, h1, h2⟩ := h
    subst e1; subst e2
    cases s with
    | val v' =>
      cases p with
      | ob o => exact absurd h1 (by simp [PcOk])
      | val v'' => exact ih h2 q o ho
    | tok j =>
      cases p with
      | val v'' => exact absurd h1 (by simp [PcOk])
      | ob o' =>
        cases q with
        | zero =>
          simp only [obsP, List.getElem?_cons_zero, Option.some.injEq] at ho
          subst ho
          exact ⟨j, rfl, h1⟩
        | succ q =>
          obtain ⟨j', q1, q2⟩ := ih h2 q o (by simpa [obsP] using ho)
          exact ⟨j', by simpa [toks] using q1, q2⟩
theorem PcL_vals {γ2 : Ghs} {ob obF : Obs} : ∀ (rs : List Kd) {ss tl : List Src} {Vs Vt : List Value} {ps : List Piece}, onlyV rs = true → ss.length = rs.length → toks ss = [] → SrcL γ K ss Vs → PcL γ γ2 ob obF K w (ss ++ tl) (Vs ++ Vt) ps → RepVs γ2 K (valsP rs ps) Vs
  | [], ss, tl, Vs, Vt, ps, ho, hl, ht, hs, hp => by
    have : ss = [] := List.eq_nil_of_length_eq_zero hl
    subst this
    have hs : Vs = [] := hs
    subst hs
    cases ps <;> rfl
  | .v t m :: rs, ss, tl, Vs, Vt, ps, ho, hl, ht, hs, hp => by
    cases ss with
    | nil => simp at hl
    | cons s ss =>
      obtain ⟨V, Vr, rfl, hs1, hs2⟩ := hs
      obtain ⟨V', Vr', p, pr, e1, rfl, hp1, hp2⟩ := hp
      injection e1 with e1 e2
      subst e1; subst e2
      cases s with
      | tok j => simp [toks] at ht
      | val v =>
        cases p with
        | ob o => exact absurd hp1 (by simp [PcOk])
        | val v' => exact ⟨V, Vr, rfl, hp1, PcL_vals (ss := ss) rs ho (by simpa using hl) ht hs2 hp2⟩
  | .b _ t m :: rs, ss, tl, Vs, Vt, ps, ho, hl, ht, hs, hp => by cases ho
  | .r t m :: rs, ss, tl, Vs, Vt, ps, ho, hl, ht, hs, hp => by cases ho
  | .i :: rs, ss, tl, Vs, Vt, ps, ho, hl, ht, hs, hp => by cases ho
  | .m _ _ :: rs, ss, tl, Vs, Vt, ps, ho, hl, ht, hs, hp => by cases ho

/-- the versions of what comes back -/
def verL : List PK → List Nat
  | .k (.b _ _ _) :: l => 0 :: verL l
  | .k (.m _ _) :: l => 0 :: verL l
  | .k (.r h _) :: l => h :: verL l
  | _ :: l => verL l
  | [] => []
theorem inP_box : ∀ (ps : List PK) {pc : List Piece} (i0 b b' : Nat), noR ps = true → PcKL (kdP ps) pc → ∀ (i j : Nat), (toks (outB ps b))[i]? = some j → ∃ o, (inP ps pc i0 b').2[i]? = some o ∧ o.owns = true ∧ (verL ps)[i]? = some o.ver
  | [], pc, i0, b, b', _, _, i, j, h => by simp [outB, toks] at h
  | .k (.v t m) :: l, pc, i0, b, b', hn, hp, i, j, h => by
    obtain ⟨p, pr, rfl, h1, h2⟩ := hp
    cases p with
    | ob o => exact absurd h1 (by simp [PcK])
    | val v => exact inP_box l (i0 + 1) b b' hn h2 i j h
  | .k (.b ti t m) :: l, pc, i0, b, b', hn, hp, i, j, h => by
    obtain ⟨p, pr, rfl, h1, h2⟩ := hp
    cases p with
    | val v => exact absurd h1 (by simp [PcK])
    | ob o =>
      cases o with
      | box ti' cs =>
        show ∃ o, (Ob.box ti' cs :: (inP l pr (i0 + 1) (b' + 1)).2)[i]? = some o ∧ o.owns = true ∧ (0 :: verL l)[i]? = some o.ver
        cases i with
        | zero => exact ⟨_, rfl, rfl, rfl⟩
        | succ i =>
          simp only [List.getElem?_cons_succ]
          exact inP_box l (i0 + 1) (b + 1) (b' + 1) hn h2 i j (by simpa [outB, toks] using h)
      | _ => exact absurd h1 (by simp [PcK])
  | .k (.m kt vt) :: l, pc, i0, b, b', hn, hp, i, j, h => by
    obtain ⟨p, pr, rfl, h1, h2⟩ := hp
    cases p with
    | val v => exact absurd h1 (by simp [PcK])
    | ob o =>
      cases o with
      | map K V es =>
        show ∃ o, (Ob.map K V es :: (inP l pr (i0 + 1) (b' + 1)).2)[i]? = some o ∧ o.owns = true ∧ (0 :: verL l)[i]? = some o.ver
        cases i with
        | zero => exact ⟨_, rfl, rfl, rfl⟩
        | succ i =>
          simp only [List.getElem?_cons_succ]
          exact inP_box l (i0 + 1) (b + 1) (b' + 1) hn h2 i j (by simpa [outB, toks] using h)
      | _ => exact absurd h1 (by simp [PcK])
  | .k (.r hh e) :: l, pc, i0, b, b', hn, hp, i, j, h => by
    obtain ⟨p, pr, rfl, h1, h2⟩ := hp
    cases p with
    | val v => exact absurd h1 (by simp [PcK])
    | ob o =>
      cases o with
      | row h' e' xs =>
        have h1 : h' = hh := h1
        subst h1
        show ∃ o, (Ob.row h' e' xs :: (inP l pr (i0 + 1) (b' + 1)).2)[i]? = some o ∧ o.owns = true ∧ (h' :: verL l)[i]? = some o.ver
        cases i with
        | zero => exact ⟨_, rfl, rfl, rfl⟩
        | succ i =>
          simp only [List.getElem?_cons_succ]
          exact inP_box l (i0 + 1) (b + 1) (b' + 1) hn h2 i j (by simpa [outB, toks] using h)
      | _ => exact absurd h1 (by simp [PcK])
  | .k .i :: l, pc, i0, b, b', hn, hp, i, j, h => by cases hn
  | .fn f :: l, pc, i0, b, b', hn, hp, i, j, h => inP_box l (i0 + 1) b b' hn hp i j h
theorem backP_ver : ∀ (ps : List PK) {pc : List Piece}, PcKL (kdB ps) pc → ∀ (i : Nat) (o : Ob), (obsP pc)[i]? = some o → (verL ps)[i]? = some o.ver
  | [], pc, h, i, o, ho => by
    have h : pc = [] := h
    subst h; simp [obsP] at ho
  | .k (.v t m) :: l, pc, h, i, o, ho => backP_ver l h i o ho
  | .k (.b ti t m) :: l, pc, h, i, o, ho => by
    obtain ⟨p, pr, rfl, h1, h2⟩ := h
    cases p with
    | val v => exact absurd h1 (by simp [PcK])
    | ob o' =>
      cases i with
      | zero =>
        simp only [obsP, List.getElem?_cons_zero, Option.some.injEq] at ho
        subst ho
        cases o' <;> first | rfl | exact absurd h1 (by simp [PcK])
      | succ i => exact backP_ver l h2 i o (by simpa [obsP] using ho)
  | .k (.m kt vt) :: l, pc, h, i, o, ho => by
    obtain ⟨p, pr, rfl, h1, h2⟩ := h
    cases p with
    | val v => exact absurd h1 (by simp [PcK])
    | ob o' =>
      cases i with
      | zero =>
        simp only [obsP, List.getElem?_cons_zero, Option.some.injEq] at ho
        subst ho
        cases o' <;> first | rfl | exact absurd h1 (by simp [PcK])
      | succ i => exact backP_ver l h2 i o (by simpa [obsP] using ho)
  | .k (.r hh e) :: l, pc, h, i, o, ho => by
    obtain ⟨p, pr, rfl, h1, h2⟩ := h
    cases p with
    | val v => exact absurd h1 (by simp [PcK])
    | ob o' =>
      cases i with
      | zero =>
        simp only [obsP, List.getElem?_cons_zero, Option.some.injEq] at ho
        subst ho
        cases o' with
        | row h' e' xs =>
          have h1 : h' = hh := h1
          subst h1
          rfl
        | _ => exact absurd h1 (by simp [PcK])
      | succ i => exact backP_ver l h2 i o (by simpa [obsP] using ho)
  | .k .i :: l, pc, h, i, o, ho => backP_ver l h i o ho
  | .fn f :: l, pc, h, i, o, ho => backP_ver l h i o ho
theorem outP_ver (ps : List PK) : ∀ (rs : List Kd) {pc : List Piece}, onlyV rs = true → PcKL (app rs (kdB ps)) pc → ∀ (i : Nat) (o : Ob), (obsP pc)[i]? = some o → (verL ps)[i]? = some o.ver
  | [], pc, _, h, i, o, ho => backP_ver ps h i o ho
  | .v t m :: rs, pc, hv, h, i, o, ho => by
    obtain ⟨p, pr, rfl, h1, h2⟩ := h
    cases p with
    | ob o' => exact absurd h1 (by simp [PcK])
    | val v => exact outP_ver ps rs hv h2 i o ho
  | .b _ t m :: rs, pc, hv, h, i, o, ho => by cases hv
  | .r t m :: rs, pc, hv, h, i, o, ho => by cases hv
  | .i :: rs, pc, hv, h, i, o, ho => by cases hv
  | .m _ _ :: rs, pc, hv, h, i, o, ho => by cases hv

theorem oneV_rep {γ : Ghs} {K : Kn} {l : List Val} {Vs : List Value} (h : RepVs γ K l Vs) : RepSV γ K (oneV l) (tupleOf Vs) := by
  unfold oneV
  split
  · obtain ⟨v, r, rfl, h1, h2⟩ := h
    have h2 : r = [] := h2
    subst h2
    exact h1
  · rename_i hne
    refine ⟨Vs, ?_, h⟩
    unfold tupleOf
    split
    · rename_i V
      cases l with
      | nil => have h : [V] = [] := h; cases h
      | cons v l =>
        obtain ⟨v', r, e, h1, h2⟩ := h
        injection e with e1 e2
        subst e2
        cases l with
        | nil => exact absurd rfl (hne v)
        | cons v2 l => obtain ⟨_, _, e, _⟩ := h2; cases e
    · rfl

theorem execF_ok (hE : EnvOk E) {tab : List Con} (htab : CallsOk E tab) (hD : DrawnOk E tab) {f : Nat} {fn : Func} (hf : E.P.funcs[f]? = some fn) (hname : (fn.name == "runtime.NumGoroutine") = false) (an : Ann) (ps : List PK) (rs : List Kd) :
    ConOk E ⟨f, ps, rs, execF E tab M fn an ps rs⟩ := by
  intro x r h w K H γ args hEnt
  have h : execF E tab M fn an ps rs x = some r := h
  unfold execF at h
  split at h
  · cases h
  · rename_i c hb
    obtain ⟨hc, h⟩ := bsel_true (r := none) h
    simp only [Bool.and_eq_true] at hc
    obtain ⟨⟨⟨hc1, hc2⟩, hc3⟩, hc4⟩ := hc
    have hc2 := Nat.le_of_ble_eq_true hc2
    rw [lng_eq] at hc2
    rw [fSt_eq] at h
    have hsz : args.size = ps.length := hEnt.size
    have hstart := start_eq ps x
    right
    refine ⟨?_, ?_⟩
    · have hnone : fn.body.isNone = false := by rw [hb]; rfl
      unfold callFunc
      simp only [program, Sem.run_bind, Sem.run, Result.andThen_ok, hf, hname, hnone, Bool.false_eq_true, if_false]
      simp
    · refine calls_of_wp hf hb (exec_ok (N := fn.ntmps) (w0 := w) (K0 := K) (H := H) (G := γ) hE htab hD c none an h hc1 (γ := γ) (K := K) ?_ ?_)
      · refine ⟨by simp; omega, rfl, fun y v sv hy => ?_, hEnt.hp, hEnt.glob, hEnt.tok, fun j v o hj => ?_, hEnt.all, Ghs.le.refl γ, by rw [hstart]; simp⟩
        · obtain ⟨q1, q2⟩ := hEnt.slots y v sv hy
          refine ⟨by rw [hstart]; simp; omega, ?_⟩
          have : (args ++ Array.replicate (fn.ntmps - args.size) undef).getD y undef = args.getD y undef := by
            simp only [Array.getD_eq_getD_getElem?]
            by_cases hy : y < args.size
            · rw [Array.getElem?_append_left hy]
            · rw [Array.getElem?_append_right (by omega), Array.getElem?_eq_none (show args.size ≤ y by omega)]
              rw [Array.getElem?_replicate]
              split <;> rfl
          rw [this]
          exact q2
        · have hj' := hj
          rw [hstart] at hj'
          obtain ⟨i, e1, e2, e3⟩ := lk_newO_get _ _ _ _ _ hj'
          have hl := (List.getElem?_eq_some_iff.1 e2).1
          rw [List.length_append] at hl
          simp only at e3
          have hrn : rowsN ps x = (unpackG 1 (kdP ps) 0 x).2.length := rfl
          rw [hstart]
          show v < _ + (_ + _) + 2 ∧ j < _ + (_ + _) + 2
          omega
      · intro e s γ' K' a' w' hk hx hR
        cases e with
        | brk i => cases hk
        | go i => cases hk
        | _ =>
          simp only at hk
          split at hk
          · rename_i ss hss
            split at hk
            · rename_i y u hp
              obtain ⟨ht, hk⟩ := bsel_true (r := none) hk
              injection hk with hk
              subst hk
              obtain ⟨Vs, v1, v2, v3, v4⟩ := outR_ok hE hR rs _ hss
              refine ⟨hR.defers, tupleOf Vs, ?_, fun tk h0 => ?_⟩
              · rw [results_eq, Array.mapM_eq_mapM_toList]
                simp only [Sem.run_bind, Sem.run_map, v1, Result.andThen_ok, Sem.run_pure]
                congr 1
                match Vs with
                | [] => rfl
                | [v] => rfl
                | v :: u :: r => simp [tupleOf]
              · rw [app_eq ss, lng_eq] at hp
                obtain ⟨Vt, hVt⟩ := SrcL_outB (γ := γ') (K := K') ps (1 + (unpackG 1 (kdP ps) 0 x).2.length)
                obtain ⟨K2, obF, hle, hH, hF, _⟩ := hR.hp.fzd (fun _ _ h => h) (packG_upd _ hp) ht
                have hsrc := (SrcL_app v2 hVt).mono hle
                obtain ⟨gs, js, r1, r2, r3⟩ := packG_ok (tk := tk) hH hF h0 (app rs (kdB ps)) (fun j p _ hj => by
                  unfold obs at hj
                  split at hj
                  · rename_i v0 o0 hl; exact hR.all j _ hl
                  · cases hj) hp (fun p hp => hp) hsrc rfl
                have hcnt := (tokOk_ok ht).1
                have htk : toks (ss ++ outB ps (1 + (unpackG 1 (kdP ps) 0 x).2.length)) = toks (outB ps (1 + (unpackG 1 (kdP ps) 0 x).2.length)) := by rw [toks_app, v3]; rfl
                refine ⟨γ', obF, K2, gs, js, hH, r1, fun j => ?_, fun i o ho => ?_, fun γ2 hg => ?_⟩
                · have := r2 j
                  have := hcnt j
                  omega
                · -- any ghosts will do to learn which variable it is
                  have hany : ∀ γ2, Gets gs tk γ2 → ∃ j, j = 1 + rowsN ps x + i ∧ (toks (outB ps (1 + (unpackG 1 (kdP ps) 0 x).2.length)))[i]? = some j ∧ (∃ p, obs s j = some p ∧ obF j = some p ∧ p.owns = true) ∧ ∀ g, γ' j = some g → ObOk γ2 K2 w' g o := fun γ2 hg => by
                    obtain ⟨j, q1, _, q2, q3⟩ := PcL_box (r3 γ2 hg) i o ho
                    rw [htk] at q1
                    exact ⟨j, outB_toks ps _ hc3 i j q1, q1, q2, q3⟩
                  have hlen := NewL_len r1
                  obtain ⟨j, rfl, q1, ⟨p, q2, q3, q4⟩, _⟩ := hany (fun j => gs[j - tk]?) (fun kk g hk => by
                    show gs[tk + (0 + kk) - tk]? = some g
                    rw [show tk + (0 + kk) - tk = kk by omega]; exact hk)
                  refine ⟨?_, ?_, ⟨p, q3, q4⟩, fun γ2 hg g hgg => ?_⟩
                  · have h1 := r2 (1 + rowsN ps x + i)
                    have h2 := hcnt (1 + rowsN ps x + i)
                    have h3 := List.count_pos_iff.2 (List.mem_of_getElem? q1)
                    rw [htk] at h1
                    show js.count (some (1 + rowsN ps x + i)) = 0
                    omega
                  · -- the variable lies where it lay
                    obtain ⟨obx, hbx, hbo, hbv⟩ := inP_box ps 0 _ (1 + rowsN ps x) hc3 (unpackG_kinds (tk := 1) (kdP ps) 0 x) i _ q1
                    have hst : obs (start ps x) (1 + rowsN ps x + i) = some obx := by
                      rw [obs_eq, hstart]
                      show obsL (app [] (newO 0 1 _)) _ = _
                      rw [obsL_new 0 _ 1 [] (fun j e hj => by simp [lk] at hj)]
                      refine newF_at _ _ (rowsN ps x + i) (by omega) ?_
                      rw [List.getElem?_append_right (by unfold rowsN; omega), show rowsN ps x + i - (unpackG 1 (kdP ps) 0 x).2.length = i by unfold rowsN; omega]
                      exact hbx
                    obtain ⟨g, hg⟩ : ∃ g, γ (1 + rowsN ps x + i) = some g := by
                      unfold obs at hst
                      split at hst
                      · rename_i v0 o0 hl; exact hEnt.all _ _ hl
                      · cases hst
                    have h0' := ver_hv (hEnt.hp.ok _ _ g hst hg) hbo
                    obtain ⟨g', hg', _, heq⟩ := hR.fix (1 + rowsN ps x + i) g hg
                    have hov := outP_ver ps rs hc4 (unpackG_kinds (tk := tk) (app rs (kdB ps)) 0 _) i o ho
                    obtain ⟨j2, e2, _, _, q5⟩ := hany (fun j => gs[j - tk]?) (fun kk g hk => by
                      show gs[tk + (0 + kk) - tk]? = some g
                      rw [show tk + (0 + kk) - tk = kk by omega]; exact hk)
                    subst e2
                    have hoo : o.owns = true := by
                      obtain ⟨_, _, k2, _⟩ := PcL_box (r3 (fun j => gs[j - tk]?) (fun kk g hk => by
                        show gs[tk + (0 + kk) - tk]? = some g
                        rw [show tk + (0 + kk) - tk = kk by omega]; exact hk)) i o ho
                      exact k2
                    have h1' := ver_hv (q5 g' hg') hoo
                    rw [hbv] at hov
                    injection hov with hov
                    rw [heq (.inl (by omega))] at hg'
                    rw [hg', hg]
                  · obtain ⟨j, rfl, _, _, q⟩ := hany γ2 hg
                    exact q g hgg
                · have hpv := r3 γ2 hg
                  exact oneV_rep (PcL_vals rs hc4 v4 v3 (v2.mono hle) hpv)
            · cases hk
          · cases hk
end
end Go.W
end

section
/-
  Operations in any order: what a set of them has left behind. No program in it.
-/
namespace Go.W
open Go Go.RowKit

/-- an operation and what it does -/
structure Rc where
  o : Oper
  out : Out
  tk : Nat
  T : List Nat
abbrev SF := Nat → Option SV
def stepS (S : SF) (r : Rc) : SF := match r.o.dst with
  | some d => fset S d r.out.sv
  | none => S
def stepO (O : Obs) (r : Rc) : Obs := newF r.tk r.out.new (updF r.out.upd O)
def foldS : List (Nat × Rc) → SF → SF
  | [], S => S
  | p :: l, S => foldS l (stepS S p.2)
def foldO : List (Nat × Rc) → Obs → Obs
  | [], O => O
  | p :: l, O => foldO l (stepO O p.2)
def Rc.wr (x : Nat) (r : Rc) : Bool := r.o.dst == some x
def Rc.touch (j : Nat) (r : Rc) : Bool := memN j (wtoks r.tk r.out)

theorem foldS_app : ∀ (l m : List (Nat × Rc)) (S : SF), foldS (l ++ m) S = foldS m (foldS l S)
  | [], _, _ => rfl
  | p :: l, m, S => foldS_app l m _
theorem foldO_app : ∀ (l m : List (Nat × Rc)) (O : Obs), foldO (l ++ m) O = foldO m (foldO l O)
  | [], _, _ => rfl
  | p :: l, m, O => foldO_app l m _

/-! ### one slot, one object -/
theorem stepS_ext {S S' : SF} {x : Nat} (h : S x = S' x) (r : Rc) : stepS S r x = stepS S' r x := by
  cases hd : r.o.dst with
  | none => simpa only [stepS, hd] using h
  | some d =>
    simp only [stepS, hd, fset]
    split
    · rfl
    · exact h
theorem stepS_no {S : SF} {x : Nat} {r : Rc} (h : r.wr x = false) : stepS S r x = S x := by
  unfold Rc.wr at h
  cases hd : r.o.dst with
  | none => simp only [stepS, hd]
  | some d =>
    simp only [stepS, hd]
    refine fset_ne _ _ fun e => ?_
    subst e
    rw [hd] at h
    simp at h
theorem stepS_wr {S S' : SF} {x : Nat} {r : Rc} (h : r.wr x = true) : stepS S r x = stepS S' r x := by
  unfold Rc.wr at h
  cases hd : r.o.dst with
  | none => rw [hd] at h; simp at h
  | some d =>
    rw [hd] at h
    have : d = x := by simpa using h
    subst this
    simp only [stepS, hd, fset_same]
theorem updF_ext : ∀ (u : Upd) {O O' : Obs} {j : Nat}, O j = O' j → updF u O j = updF u O' j
  | [], _, _, _, h => h
  | (i, o) :: u, O, O', j, h => updF_ext u (by unfold fset; split; rfl; exact h)
theorem newF_ext : ∀ (os : List Ob) (n : Nat) {O O' : Obs} {j : Nat}, O j = O' j → newF n os O j = newF n os O' j
  | [], _, _, _, _, h => h
  | o :: os, n, O, O', j, h => newF_ext os (n + 1) (by unfold fset; split; rfl; exact h)
theorem updF_no : ∀ (u : Upd) {O : Obs} {j : Nat}, (∀ p ∈ u, p.1 ≠ j) → updF u O j = O j
  | [], _, _, _ => rfl
  | (i, o) :: u, O, j, h => by
    show updF u (fset O i o) j = O j
    rw [updF_no u fun p hp => h p (List.mem_cons_of_mem _ hp), fset_ne]
    exact fun e => h (i, o) List.mem_cons_self e.symm
theorem updF_in : ∀ (u : Upd) {O O' : Obs} {j : Nat}, (∃ p ∈ u, p.1 = j) → updF u O j = updF u O' j
  | [], _, _, _, ⟨p, hp, _⟩ => by cases hp
  | (i, o) :: u, O, O', j, ⟨p, hp, e⟩ => by
    show updF u (fset O i o) j = updF u (fset O' i o) j
    by_cases hij : j = i
    · subst hij; exact updF_ext u (by rw [fset_same, fset_same])
    · refine updF_in u ⟨p, ?_, e⟩
      rcases List.mem_cons.1 hp with rfl | hp
      · exact absurd e.symm hij
      · exact hp
theorem newF_no : ∀ (os : List Ob) (n : Nat) {O : Obs} {j : Nat}, (∀ i, i < os.length → j ≠ n + i) → newF n os O j = O j
  | [], _, _, _, _ => rfl
  | o :: os, n, O, j, h => by
    show newF (n + 1) os (fset O n o) j = O j
    rw [newF_no os (n + 1) fun i hi e => h (i + 1) (by simp; omega) (by omega), fset_ne]
    exact fun e => h 0 (by simp) (by omega)
theorem newF_in : ∀ (os : List Ob) (n : Nat) {O O' : Obs} {j : Nat}, (∃ i, i < os.length ∧ j = n + i) → newF n os O j = newF n os O' j
  | [], _, _, _, _, ⟨i, hi, _⟩ => absurd hi (Nat.not_lt_zero i)
  | o :: os, n, O, O', j, ⟨i, hi, e⟩ => by
    show newF (n + 1) os (fset O n o) j = newF (n + 1) os (fset O' n o) j
    by_cases hij : j = n
    · subst hij; exact newF_ext os _ (by rw [fset_same, fset_same])
    · exact newF_in os (n + 1) ⟨i - 1, by simp at hi; omega, by omega⟩
theorem mem_seqN {j : Nat} : ∀ {m n : Nat}, j ∈ seqN n m ↔ n ≤ j ∧ j < n + m
  | 0, n => by simp [seqN]
  | m + 1, n => by
    simp only [seqN, List.mem_cons, mem_seqN (m := m), Nat.succ_eq_add_one]
    omega
theorem mem_fstsU {j : Nat} : ∀ {u : Upd}, j ∈ fstsU u ↔ ∃ p ∈ u, p.1 = j
  | [] => by simp [fstsU]
  | (i, o) :: u => by
    simp only [fstsU, List.mem_cons, mem_fstsU (u := u)]
    constructor
    · rintro (rfl | ⟨p, hp, e⟩)
      · exact ⟨_, .inl rfl, rfl⟩
      · exact ⟨p, .inr hp, e⟩
    · rintro ⟨p, rfl | hp, e⟩
      · exact .inl e.symm
      · exact .inr ⟨p, hp, e⟩
theorem touch_iff {j : Nat} {r : Rc} : r.touch j = true ↔ (∃ p ∈ r.out.upd, p.1 = j) ∨ (∃ i, i < r.out.new.length ∧ j = r.tk + i) := by
  unfold Rc.touch wtoks
  rw [memN_iff, app_eq, List.mem_append, mem_fstsU, mem_seqN, lng_eq]
  constructor
  · rintro (h | h)
    · exact .inl h
    · exact .inr ⟨j - r.tk, by omega, by omega⟩
  · rintro (h | ⟨i, h1, h2⟩)
    · exact .inl h
    · exact .inr (by omega)
theorem stepO_ext {O O' : Obs} {j : Nat} (h : O j = O' j) (r : Rc) : stepO O r j = stepO O' r j := newF_ext _ _ (updF_ext _ h)
theorem stepO_no {O : Obs} {j : Nat} {r : Rc} (h : r.touch j = false) : stepO O r j = O j := by
  have h' : ¬ (r.touch j = true) := by rw [h]; exact fun e => by cases e
  rw [touch_iff] at h'
  unfold stepO
  rw [newF_no _ _ fun i hi e => h' (.inr ⟨i, hi, e⟩), updF_no _ fun p hp e => h' (.inl ⟨p, hp, e⟩)]
theorem stepO_in {O O' : Obs} {j : Nat} {r : Rc} (h : r.touch j = true) : stepO O r j = stepO O' r j := by
  unfold stepO
  rcases touch_iff.1 h with h | h
  · exact newF_ext _ _ (updF_in _ h)
  · exact newF_in _ _ h
theorem foldS_ext : ∀ (l : List (Nat × Rc)) {S S' : SF} {x : Nat}, S x = S' x → foldS l S x = foldS l S' x
  | [], _, _, _, h => h
  | p :: l, _, _, _, h => foldS_ext l (stepS_ext h p.2)
theorem foldO_ext : ∀ (l : List (Nat × Rc)) {O O' : Obs} {j : Nat}, O j = O' j → foldO l O j = foldO l O' j
  | [], _, _, _, h => h
  | p :: l, _, _, _, h => foldO_ext l (stepO_ext h p.2)
theorem foldS_at : ∀ (l : List (Nat × Rc)) {S : SF} {x : Nat}, foldS l S x = foldS (l.filter fun p => p.2.wr x) S x
  | [], _, _ => rfl
  | p :: l, S, x => by
    cases h : p.2.wr x with
    | true => rw [List.filter_cons_of_pos (by exact h)]; exact foldS_at l
    | false =>
      rw [List.filter_cons_of_neg (by rw [h]; exact fun e => by cases e)]
      show foldS l (stepS S p.2) x = _
      rw [foldS_ext l (stepS_no h)]
      exact foldS_at l
theorem foldO_at : ∀ (l : List (Nat × Rc)) {O : Obs} {j : Nat}, foldO l O j = foldO (l.filter fun p => p.2.touch j) O j
  | [], _, _ => rfl
  | p :: l, O, j => by
    cases h : p.2.touch j with
    | true => rw [List.filter_cons_of_pos (by exact h)]; exact foldO_at l
    | false =>
      rw [List.filter_cons_of_neg (by rw [h]; exact fun e => by cases e)]
      show foldO l (stepO O p.2) j = _
      rw [foldO_ext l (stepO_no h)]
      exact foldO_at l
/-- two choices of the operations that agree where it counts -/
theorem foldS_same {l : List (Nat × Rc)} {S : SF} {x : Nat} {f g : Nat → Bool} (h : ∀ p ∈ l, p.2.wr x = true → f p.1 = g p.1) : foldS (l.filter fun p => f p.1) S x = foldS (l.filter fun p => g p.1) S x := by
  rw [foldS_at, foldS_at (l := l.filter fun p => g p.1), List.filter_filter, List.filter_filter]
  rw [List.filter_congr (q := fun p : Nat × Rc => p.2.wr x && g p.1) fun p hp => ?_]
  cases hw : p.2.wr x with
  | true => simp [h p hp hw]
  | false => simp
theorem foldO_same {l : List (Nat × Rc)} {O : Obs} {j : Nat} {f g : Nat → Bool} (h : ∀ p ∈ l, p.2.touch j = true → f p.1 = g p.1) : foldO (l.filter fun p => f p.1) O j = foldO (l.filter fun p => g p.1) O j := by
  rw [foldO_at, foldO_at (l := l.filter fun p => g p.1), List.filter_filter, List.filter_filter]
  rw [List.filter_congr (q := fun p : Nat × Rc => p.2.touch j && g p.1) fun p hp => ?_]
  cases hw : p.2.touch j with
  | true => simp [h p hp hw]
  | false => simp
end Go.W
end

section
/-
  Operations in any order: what the machine's run of a drawn region says of each of them. No program in it.
-/
namespace Go.W
open Go Go.RowKit

def sfOf (s : ASt) : SF := fun x => (lk s.sl x).map (·.2)
def getF (E : Env) (S : SF) : Operand → SV
  | .tmp t => (S t).getD (.val (.one .undef))
  | .const v => svV v
  | .global g => match lkG E.gl g with
    | some ⟨t, x⟩ => .val (.one (.kp t x))
    | none => .val (.one .undef)
  | .func f => .val (.one (.fn f))
theorem getS_eq (E : Env) (s : ASt) : getS E s = getF E (sfOf s) := by
  funext x
  cases x with
  | tmp t =>
    simp only [getS, getF, sfOf]
    cases lk s.sl t <;> rfl
  | const v => rfl
  | global g => rfl
  | func f => rfl
def Rc.lg (r : Rc) : Lg := ⟨r.T, wtoks r.tk r.out⟩
def Want (E : Env) (ops : List Oper) (S : SF) (o : Oper) : Prop := o.guard = none ∨ ∃ j b g, o.guard = some (j, b) ∧ dstAt ops j = some g ∧ getF E S (.tmp g) = .val (.one (.v .bool b))
def Unwant (E : Env) (ops : List Oper) (S : SF) (o : Oper) : Prop := ∃ j b g, o.guard = some (j, b) ∧ dstAt ops j = some g ∧ (getF E S (.tmp g) = .val (.one (.v .bool (!b))) ∨ getF E S (.tmp g) = .tup [])
def RunOk (E : Env) (ops : List Oper) (S : SF) (O : Obs) (r : Rc) : Prop :=
  (Want E ops S r.o ∧ OpOk E (getF E S) (resO r.T O) r.tk r.o r.out) ∨ (Unwant E ops S r.o ∧ r.out = ⟨.tup [], [], []⟩)
def TrOk (E : Env) (ops : List Oper) : SF → Obs → Nat → List Rc → Prop
  | _, _, _, [] => True
  | S, O, tm, r :: rs => tm ≤ r.tk ∧ (∀ p ∈ r.out.upd, p.1 < r.tk ∧ ∃ o, O p.1 = some o ∧ o ≠ .gone) ∧ RunOk E ops S O r ∧ TrOk E ops (stepS S r) (stepO O r) (r.tk + r.out.new.length + 1) rs

theorem fNs_eq {β : Type} : ∀ (l : List Nat) (k : List Nat → β), fNs l k = k l
  | [], _ => rfl
  | _ :: l, k => by simp only [fNs, fN_eq, fNs_eq l]
theorem updIn_of {ob : Obs} : ∀ {u : Upd}, updIn ob u = true → ∀ p ∈ u, ∃ o, ob p.1 = some o ∧ o ≠ .gone
  | [], _, p, hp => by cases hp
  | (j, x) :: u, h, p, hp => by
    simp only [updIn] at h
    split at h
    · cases h
    · rename_i o hng ho
      rcases List.mem_cons.1 hp with rfl | hp
      · exact ⟨o, ho, hng⟩
      · exact updIn_of h p hp
    · cases h
theorem sfOf_apply (s : ASt) (o : Oper) (out : Out) (tk : Nat) (T : List Nat) : sfOf (apply s o out) = stepS (sfOf s) ⟨o, out, tk, T⟩ := by
  funext x
  cases hd : o.dst with
  | none => simp only [sfOf, apply, stepS, hd]
  | some d =>
    simp only [sfOf, apply, stepS, hd, lk_put, fset]
    split <;> rfl
theorem sfOf_setS {E : Env} {s : ASt} {g : Nat} {b : Bool} (h : getF E (sfOf s) (.tmp g) = .val (.one (.v .bool b))) : sfOf (setS s g b) = sfOf s := by
  funext x
  simp only [sfOf, setS, lk_put]
  split
  · rename_i e
    subst e
    simp only [getF, sfOf] at h
    cases hl : lk s.sl x with
    | none => rw [hl] at h; simp at h
    | some e => rw [hl] at h; simpa using h.symm
  · rfl
theorem obsL_setE_eq {l : List (Nat × Nat × Ob)} {x : Nat} (v : Nat) (b : Ob) (h : ∃ e, lk l x = some e) : obsL (setE x v b l) = fset (obsL l) x b := by
  obtain ⟨e, he⟩ := h
  funext j
  unfold obsL
  rcases lk_setE x v b l j with ⟨h1, h2⟩ | ⟨h1, h2, _⟩
  · by_cases hj : j = x
    · have := h2 hj; subst hj; rw [he] at this; cases this
    · rw [h1, fset_ne _ _ hj]
  · subst h1; rw [h2, fset_same]
theorem obsL_updO_eq (v : Nat) : ∀ (u : Upd) (l : List (Nat × Nat × Ob)), (∀ p ∈ u, ∃ e, lk l p.1 = some e) → obsL (updO v u l) = updF u (obsL l)
  | [], _, _ => rfl
  | (i, o) :: u, l, h => by
    show obsL (updO v u (setE i v o l)) = updF u (fset (obsL l) i o)
    rw [obsL_updO_eq v u (setE i v o l) fun p hp => ?_, obsL_setE_eq v o (h (i, o) List.mem_cons_self)]
    obtain ⟨e, he⟩ := h p (List.mem_cons_of_mem _ hp)
    rcases lk_setE i v o l p.1 with ⟨h1, _⟩ | ⟨_, h1, _⟩
    · exact ⟨e, by rw [h1]; exact he⟩
    · exact ⟨_, h1⟩
theorem obs_some {s : ASt} {j : Nat} {o : Ob} (h : obs s j = some o) : ∃ v, lk s.ob j = some (v, o) := by
  unfold obs at h
  split at h
  · rename_i v o' hl; injection h with h; subst h; exact ⟨v, hl⟩
  · cases h
theorem obs_apply {s : ASt} {o : Oper} {out : Out} (hlt : ∀ j e, lk s.ob j = some e → j < s.tm) (hu : updIn (obs s) out.upd = true) (T : List Nat) : obs (apply s o out) = stepO (obs s) ⟨o, out, s.tm, T⟩ := by
  have hin : ∀ p ∈ out.upd, ∃ e, lk s.ob p.1 = some e := fun p hp => by
    obtain ⟨x, hx, _⟩ := updIn_of hu p hp
    obtain ⟨v, hv⟩ := obs_some hx
    exact ⟨_, hv⟩
  rw [obs_eq]
  show obsL (app (updO s.tm out.upd s.ob) (newO s.tm s.tm out.new)) = newF s.tm out.new (updF out.upd (obsL s.ob))
  rw [obsL_new _ _ _ _ fun j e hj => ?_, obsL_updO_eq _ _ _ hin]
  rcases lk_updO s.tm out.upd s.ob j with h1 | ⟨_, h1⟩
  · rw [h1] at hj; exact hlt j e hj
  · obtain ⟨e', h1⟩ := Option.isSome_iff_exists.1 h1; exact hlt j e' h1
end Go.W
end

section
/-
  Operations in any order: the trace of a drawn region. No program in it.
-/
namespace Go.W
open Go Go.RowKit

/-- versions of a state -/
structure Vok (s : ASt) : Prop where
  sl : ∀ x v sv, lk s.sl x = some (v, sv) → v < s.tm
  ob : ∀ j v o, lk s.ob j = some (v, o) → v < s.tm ∧ j < s.tm
theorem Vok.apply {s : ASt} (h : Vok s) (o : Oper) (out : Out) : Vok (apply s o out) := by
  have htm : (W.apply s o out).tm = s.tm + (out.new.length + 1) := by simp [W.apply, lng_eq]
  refine ⟨fun x v sv hx => ?_, fun j v ob hj => ?_⟩
  · rw [htm]
    cases hd : o.dst with
    | none => simp only [W.apply, hd] at hx; have := h.sl x v sv hx; omega
    | some d =>
      simp only [W.apply, hd, lk_put] at hx
      split at hx
      · injection hx with hx; injection hx with e1 _; omega
      · have := h.sl x v sv hx; omega
  · rw [htm]
    simp only [W.apply] at hj
    rw [lk_app] at hj
    cases hl : lk (updO s.tm out.upd s.ob) j with
    | some e =>
      rw [hl] at hj
      injection hj with hj
      subst hj
      rcases lk_updO s.tm out.upd s.ob j with h1 | ⟨⟨o', h1⟩, h2⟩
      · rw [h1] at hl; have := h.ob j v ob hl; omega
      · obtain ⟨⟨v', ob'⟩, h2⟩ := Option.isSome_iff_exists.1 h2
        have := h.ob j v' ob' h2
        rw [h1] at hl; injection hl with hl; injection hl with hl _; omega
    | none =>
      rw [hl] at hj
      have := lk_newO _ _ _ _ _ hj
      simp only at this
      omega
theorem Vok.setS {s : ASt} (h : Vok s) (g : Nat) (b : Bool) : Vok (setS s g b) := by
  refine ⟨fun x v sv hx => ?_, fun j v ob hj => ?_⟩
  · simp only [W.setS, lk_put] at hx ⊢
    split at hx
    · injection hx with hx; injection hx with e1 _; omega
    · have := h.sl x v sv hx; omega
  · have := h.ob j v ob hj; simp only [W.setS]; omega

def Trace {α : Type} (E : Env) (ops os : List Oper) (s : ASt) (log : List Lg) (k : ASt → Option α) (r : α) : Prop :=
  ∃ rs s', rs.map Rc.o = os ∧ k s' = some r ∧ chkD ops (log ++ rs.map Rc.lg) = true ∧ TrOk E ops (sfOf s) (obs s) s.tm rs ∧ Ext s s' ∧ Vok s' ∧ sfOf s' = rs.foldl stepS (sfOf s) ∧ obs s' = rs.foldl stepO (obs s) ∧ ∀ q ∈ rs, q.tk + q.out.new.length < s'.tm
section
variable {E : Env} {α : Type} {r : α}
theorem drawC_trace (hE : EnvOk E) {tab : List Con} (htab : CallsOk E tab) {ops : List Oper} : ∀ (os : List Oper) {s : ASt} {log : List Lg} {k : ASt → Option α}, drawC E tab ops os s log k = some r → Vok s → Trace E ops os s log k r
  | [], s, log, k, h, hv => by
    obtain ⟨h1, h2⟩ := bsel_true (r := none) h
    exact ⟨[], s, rfl, h2, by simpa using h1, True.intro, Ext.refl s, hv, rfl, rfl, fun q hq => (by cases hq)⟩
  | o :: os, s, log, k, h, hv => by
    have hext : ∀ {s : ASt}, Vok s → ∀ out, Ext s (W.apply s o out) := fun hv out => apply_ext _ o out fun j v ob hj => (hv.ob j v ob hj).2
    -- the operation is carried out
    have run : ∀ {s1 : ASt}, Vok s1 → Ext s s1 → sfOf s1 = sfOf s → obs s1 = obs s → Want E ops (sfOf s) o → (runD E tab s1 o fun s l => drawC E tab ops os s (app log [l]) k) = some r → Trace E ops (o :: os) s log k r := fun {s1} hv1 hx e1 e2 hw h1 => by
      unfold runD at h1
      rw [fNs_eq] at h1
      obtain ⟨out, h2, hop⟩ := opC_ok hE htab (fun _ => rfl) h1
      obtain ⟨hu, h2⟩ := bsel_true (r := none) h2
      rw [fNs_eq, fSt_eq] at h2
      simp only [app_eq] at h2
      obtain ⟨rs, s', q1, q2, q3, q4, q5, q6, q7, q8, q9⟩ := drawC_trace hE htab os h2 (hv1.apply o out)
      have hob := obs_apply (o := o) (fun j e hj => (hv1.ob j e.1 e.2 hj).2) hu (opToks (getS E s1) (obs s) o)
      have hsf := sfOf_apply s1 o out s1.tm (opToks (getS E s1) (obs s) o)
      have htm2 : (W.apply s1 o out).tm = s1.tm + out.new.length + 1 := by simp [W.apply, lng_eq, Nat.add_assoc]
      rw [hob, hsf, htm2, e1, e2] at q4
      rw [hsf, e1] at q7
      rw [hob, e2] at q8
      refine ⟨⟨o, out, s1.tm, opToks (getS E s1) (obs s) o⟩ :: rs, s', by simp [q1], q2, ?_, ⟨hx.tm, fun p hp => ?_, .inl ⟨hw, ?_⟩, q4⟩, (hx.trans (hext hv1 out)).trans q5, q6, q7, q8, fun q hq => (List.mem_cons.1 hq).elim (fun e => by subst e; have := q5.tm; rw [htm2] at this; show s1.tm + out.new.length < s'.tm; omega) (q9 q)⟩
      · rw [← q3, e2]; simp [Rc.lg]
      · obtain ⟨x, hx, hng⟩ := updIn_of hu p hp
        obtain ⟨v, hv⟩ := obs_some hx
        exact ⟨(hv1.ob _ _ _ hv).2, x, by rw [← e2]; exact hx, hng⟩
      · rw [getS_eq, e1, e2] at hop
        show OpOk E (getF E (sfOf s)) (resO (opToks (getS E s1) (obs s) o) (obs s)) s1.tm o out
        rw [getS_eq, e1]
        exact hop
    have skip : ∀ {s1 : ASt}, Vok s1 → Ext s s1 → sfOf s1 = sfOf s → obs s1 = obs s → Unwant E ops (sfOf s) o → (skipD s1 o fun s l => drawC E tab ops os s (app log [l]) k) = some r → Trace E ops (o :: os) s log k r := fun {s1} hv1 hx e1 e2 hw h1 => by
      unfold skipD at h1
      rw [fSt_eq] at h1
      simp only [app_eq] at h1
      obtain ⟨rs, s', q1, q2, q3, q4, q5, q6, q7, q8, q9⟩ := drawC_trace hE htab os h1 (hv1.apply o ⟨.tup [], [], []⟩)
      have hob : obs (skipO s1 o) = stepO (obs s1) ⟨o, ⟨.tup [], [], []⟩, s1.tm, []⟩ := obs_apply (o := o) (fun j e hj => (hv1.ob j e.1 e.2 hj).2) rfl []
      have hsf : sfOf (skipO s1 o) = stepS (sfOf s1) ⟨o, ⟨.tup [], [], []⟩, s1.tm, []⟩ := sfOf_apply s1 o _ s1.tm []
      have htm2 : (skipO s1 o).tm = s1.tm + 0 + 1 := by simp [skipO, W.apply, lng_eq]
      rw [hob, hsf, htm2, e1, e2] at q4
      rw [hsf, e1] at q7
      rw [hob, e2] at q8
      exact ⟨⟨o, ⟨.tup [], [], []⟩, s1.tm, []⟩ :: rs, s', by simp [q1], q2, by rw [← q3]; simp [Rc.lg, wtoks, fstsU, seqN, app, lng], ⟨hx.tm, fun p hp => (by cases hp), .inr ⟨hw, rfl⟩, q4⟩, (hx.trans (hext hv1 _)).trans q5, q6, q7, q8, fun q hq => (List.mem_cons.1 hq).elim (fun e => by subst e; have := q5.tm; rw [htm2] at this; show s1.tm + 0 < s'.tm; omega) (q9 q)⟩
    simp only [drawC] at h
    split at h
    · rename_i hg
      exact run hv (Ext.refl s) rfl rfl (.inl hg) h
    · rename_i j b hg
      split at h
      · cases h
      · rename_i gs hgs
        split at h
        · rename_i e he
          rw [getS_eq] at he
          cases b with
          | true =>
            cases e with
            | true =>
              simp only [cnd, cond_true] at h
              rw [fSt_eq] at h
              exact run (hv.setS gs true) (setS_ext s gs true) (sfOf_setS he) rfl (.inr ⟨j, true, gs, hg, hgs, he⟩) h
            | false =>
              simp only [cnd, cond_false] at h
              rw [fSt_eq] at h
              exact skip (hv.setS gs false) (setS_ext s gs false) (sfOf_setS he) rfl ⟨j, true, gs, hg, hgs, .inl he⟩ h
          | false =>
            cases e with
            | true =>
              simp only [cnd, cond_true] at h
              rw [fSt_eq] at h
              exact skip (hv.setS gs true) (setS_ext s gs true) (sfOf_setS he) rfl ⟨j, false, gs, hg, hgs, .inl he⟩ h
            | false =>
              simp only [cnd, cond_false] at h
              rw [fSt_eq] at h
              exact run (hv.setS gs false) (setS_ext s gs false) (sfOf_setS he) rfl (.inr ⟨j, false, gs, hg, hgs, he⟩) h
        · rename_i he
          rw [getS_eq] at he
          exact skip hv (Ext.refl s) rfl rfl ⟨j, b, gs, hg, hgs, .inr he⟩ h
        · cases h
end
end Go.W
end

section
/-
  Operations in any order: what the check of a drawn region says. No program in it.
-/
namespace Go.W
open Go Go.RowKit

theorem againstAll_of {ops : List Oper} {p : List Nat} {o : Oper} {l : Lg} : ∀ {xs : List Oper} {asl : List Lg} {i : Nat}, againstAll ops p o l i xs asl = true → ∀ (q : Nat) (x : Oper) (a : Lg), xs[q]? = some x → asl[q]? = some a → i + q ∈ p ∨ freeOf ops x o a l = true
  | [], _, _, _, q, x, a, h, _ => by simp at h
  | _ :: _, [], _, h, q, x, a, _, _ => by simp [againstAll] at h
  | x0 :: xs, a0 :: asl, i, h, q, x, a, h1, h2 => by
    obtain ⟨h3, h4⟩ := bsel_and (show bsel (memN i p || freeOf ops x0 o a0 l) (againstAll ops p o l i.succ xs asl) false = true from h)
    cases q with
    | zero =>
      simp only [List.getElem?_cons_zero, Option.some.injEq] at h1 h2
      subst h1; subst h2
      simp only [Bool.or_eq_true] at h3
      rcases h3 with h3 | h3
      · exact .inl (memN_iff.1 h3)
      · exact .inr h3
    | succ q =>
      have := againstAll_of h4 q x a (by simpa using h1) (by simpa using h2)
      rwa [show i.succ + q = i + (q + 1) by omega] at this
theorem logOk_of {ops : List Oper} {ps : List (List Nat)} : ∀ (rest : List Oper) {ls : List Lg} {done : List Oper} {dl : List Lg}, logOk ops ps rest ls done dl = true → done.length = dl.length → ∀ (i k : Nat) (x y : Oper) (a b : Lg), i < k → done.length ≤ k → (done ++ rest)[i]? = some x → (done ++ rest)[k]? = some y → (dl ++ ls)[i]? = some a → (dl ++ ls)[k]? = some b →
    (∃ p, ps[k]? = some p ∧ i ∈ p) ∨ freeOf ops x y a b = true
  | [], ls, done, dl, _, hl, i, k, x, y, a, b, _, hk, _, h2, _, _ => by
    have := (List.getElem?_eq_some_iff.1 h2).1
    simp at this
    omega
  | o :: rest, [], done, dl, h, hl, i, k, x, y, a, b, _, hk, _, h2, _, _ => by simp [logOk] at h
  | o :: rest, l :: ls, done, dl, h, hl, i, k, x, y, a, b, hik, hk, h1, h2, h3, h4 => by
    simp only [logOk] at h
    split at h
    · rename_i p hp
      rw [nth_eq, lng_eq] at hp
      obtain ⟨h5, h6⟩ := bsel_and h
      rw [app_eq, app_eq] at h6
      by_cases hkd : k = done.length
      · subst hkd
        rw [List.getElem?_append_right (Nat.le_refl _)] at h2
        rw [hl, List.getElem?_append_right (Nat.le_refl _)] at h4
        simp only [Nat.sub_self, List.getElem?_cons_zero, Option.some.injEq] at h2 h4
        subst h2; subst h4
        rw [List.getElem?_append_left hik] at h1
        rw [List.getElem?_append_left (by omega)] at h3
        rcases againstAll_of h5 i x a h1 h3 with h7 | h7
        · exact .inl ⟨p, hp, by simpa using h7⟩
        · exact .inr h7
      · refine logOk_of rest h6 (by simp [hl]) i k x y a b hik (by simp; omega) ?_ ?_ ?_ ?_
        · simpa using h1
        · simpa using h2
        · simpa using h3
        · simpa using h4
    · cases h
end Go.W
end

section
/-
  Operations in any order: what must come ahead. No program in it.
-/
namespace Go.W
open Go Go.RowKit

/-- with an operation, all that must come ahead of it -/
def Closed (ops : List Oper) (D : Nat → Prop) : Prop := ∀ (k : Nat) (o : Oper), D k → ops[k]? = some o → ∀ e ∈ o.after.toList, Region.binds .any e = true → D e.on
theorem edgesOf_mem {i : Nat} : ∀ {l : List Edge}, i ∈ edgesOf l → ∃ e ∈ l, Region.binds .any e = true ∧ e.on = i
  | [], h => by simp [edgesOf] at h
  | e :: l, h => by
    simp only [edgesOf, bsel] at h
    split at h
    · rename_i hb
      rcases List.mem_cons.1 h with h | h
      · exact ⟨e, List.mem_cons_self, hb, h.symm⟩
      · obtain ⟨e', h1, h2⟩ := edgesOf_mem h
        exact ⟨e', List.mem_cons_of_mem _ h1, h2⟩
    · obtain ⟨e', h1, h2⟩ := edgesOf_mem h
      exact ⟨e', List.mem_cons_of_mem _ h1, h2⟩
theorem uni_mem {i : Nat} : ∀ {a b : List Nat}, i ∈ uni a b → i ∈ a ∨ i ∈ b
  | [], b, h => .inr h
  | x :: a, b, h => by
    simp only [uni, bsel] at h
    split at h
    · rcases uni_mem h with h | h
      · exact .inl (List.mem_cons_of_mem _ h)
      · exact .inr h
    · rcases uni_mem h with h | h
      · exact .inl (List.mem_cons_of_mem _ h)
      · rcases List.mem_cons.1 h with h | h
        · exact .inl (by rw [h]; exact List.mem_cons_self)
        · exact .inr h
theorem gather_mem {i : Nat} {ps : List (List Nat)} : ∀ {es acc : List Nat}, i ∈ gather ps es acc → i ∈ acc ∨ i ∈ es ∨ ∃ j ∈ es, ∃ l, ps[j]? = some l ∧ i ∈ l
  | [], acc, h => .inl h
  | j :: es, acc, h => by
    have up : ∀ {acc' : List Nat}, (i ∈ acc' ∨ i ∈ es ∨ ∃ j ∈ es, ∃ l, ps[j]? = some l ∧ i ∈ l) → i ∈ acc' ∨ i ∈ j :: es ∨ ∃ j' ∈ j :: es, ∃ l, ps[j']? = some l ∧ i ∈ l := fun h => by
      rcases h with h | h | ⟨j', h1, h2⟩
      · exact .inl h
      · exact .inr (.inl (List.mem_cons_of_mem _ h))
      · exact .inr (.inr ⟨j', List.mem_cons_of_mem _ h1, h2⟩)
    simp only [gather, bsel] at h
    split at h
    · exact up (gather_mem h)
    · rw [fNs_eq] at h
      rcases up (gather_mem h) with h | h
      · rcases uni_mem h with h | h
        · split at h
          · rename_i l hl
            rw [nth_eq] at hl
            exact .inr (.inr ⟨j, List.mem_cons_self, l, hl, h⟩)
          · cases h
        · rcases List.mem_cons.1 h with h | h
          · exact .inr (.inl (by rw [h]; exact List.mem_cons_self))
          · exact .inl h
      · exact .inr h
theorem predsOf_of {ops : List Oper} {D : Nat → Prop} (hD : Closed ops D) : ∀ (rest : List Oper) {acc : List (List Nat)}, (∀ (k : Nat) (o : Oper), rest[k]? = some o → ops[acc.length + k]? = some o) → (∀ (k : Nat) (p : List Nat), acc[k]? = some p → ∀ i ∈ p, D k → D i) → ∀ (k : Nat) (p : List Nat), (predsOf rest acc)[k]? = some p → ∀ i ∈ p, D k → D i
  | [], acc, _, hacc, k, p, h => hacc k p h
  | o :: rest, acc, hops, hacc, k, p, h => by
    simp only [predsOf, fNs_eq, app_eq] at h
    refine predsOf_of hD rest (fun q x hq => ?_) (fun q p' hq i hi hDq => ?_) k p h
    · have := hops (q + 1) x (by simpa using hq)
      rw [List.length_append]
      simpa [Nat.add_assoc, Nat.add_comm 1] using this
    · by_cases hql : q < acc.length
      · rw [List.getElem?_append_left hql] at hq
        exact hacc q p' hq i hi hDq
      · have hq' := (List.getElem?_eq_some_iff.1 hq).1
        simp at hq'
        have : q = acc.length := by omega
        subst this
        rw [List.getElem?_append_right (Nat.le_refl _)] at hq
        simp only [Nat.sub_self, List.getElem?_cons_zero, Option.some.injEq] at hq
        subst hq
        have ho := hops 0 o rfl
        have dir : ∀ j ∈ edgesOf o.after.toList, D j := fun j hj => by
          obtain ⟨e, h1, h2, h3⟩ := edgesOf_mem hj
          rw [← h3]
          exact hD acc.length o hDq (by simpa using ho) e h1 h2
        rcases gather_mem hi with h | h | ⟨j, h1, l, h2, h3⟩
        · cases h
        · exact dir i h
        · exact hacc j l h2 i h3 (dir j h1)
end Go.W
end

section
/-
  Operations in any order: numbered records. No program in it.
-/
namespace Go.W
open Go Go.RowKit

def num : Nat → List Rc → List (Nat × Rc)
  | _, [] => []
  | n, r :: rs => (n, r) :: num (n + 1) rs
theorem mem_num {k : Nat} {r : Rc} : ∀ {rs : List Rc} {n : Nat}, (k, r) ∈ num n rs ↔ n ≤ k ∧ rs[k - n]? = some r
  | [], n => by simp [num]
  | x :: rs, n => by
    simp only [num, List.mem_cons, Prod.mk.injEq, mem_num (rs := rs)]
    constructor
    · rintro (⟨rfl, rfl⟩ | ⟨h1, h2⟩)
      · simp
      · refine ⟨by omega, ?_⟩
        rw [show k - n = (k - (n + 1)) + 1 by omega, List.getElem?_cons_succ]
        exact h2
    · rintro ⟨h1, h2⟩
      by_cases e : k = n
      · subst e
        left
        simp at h2
        exact ⟨rfl, h2.symm⟩
      · right
        rw [show k - n = (k - (n + 1)) + 1 by omega, List.getElem?_cons_succ] at h2
        exact ⟨by omega, h2⟩
theorem mem_num0 {k : Nat} {r : Rc} {rs : List Rc} : (k, r) ∈ num 0 rs ↔ rs[k]? = some r := by
  rw [mem_num]; simp
theorem num_lt : ∀ (rs : List Rc) (n i : Nat), (num n rs).filter (fun p => decide (p.1 < n + i)) = num n (rs.take i)
  | [], n, i => by simp [num]
  | r :: rs, n, 0 => by
    simp only [num, List.take_zero, List.filter_eq_nil_iff]
    intro p hp
    obtain ⟨k, x⟩ := p
    have := (mem_num (rs := r :: rs)).1 (by simpa [num] using hp)
    simp
    omega
  | r :: rs, n, i + 1 => by
    simp only [num, List.take_succ_cons]
    rw [List.filter_cons_of_pos (by simp)]
    rw [← num_lt rs (n + 1) i]
    simp only [show n + 1 + i = n + (i + 1) by omega]
theorem foldS_num : ∀ (rs : List Rc) (n : Nat) (S : SF), foldS (num n rs) S = rs.foldl stepS S
  | [], _, _ => rfl
  | r :: rs, n, S => foldS_num rs (n + 1) _
theorem foldO_num : ∀ (rs : List Rc) (n : Nat) (O : Obs), foldO (num n rs) O = rs.foldl stepO O
  | [], _, _ => rfl
  | r :: rs, n, O => foldO_num rs (n + 1) _
theorem foldS_lt (rs : List Rc) (i : Nat) (S : SF) : foldS ((num 0 rs).filter fun p => decide (p.1 < i)) S = (rs.take i).foldl stepS S := by
  have := num_lt rs 0 i
  simp only [Nat.zero_add] at this
  rw [this, foldS_num]
theorem foldO_lt (rs : List Rc) (i : Nat) (O : Obs) : foldO ((num 0 rs).filter fun p => decide (p.1 < i)) O = (rs.take i).foldl stepO O := by
  have := num_lt rs 0 i
  simp only [Nat.zero_add] at this
  rw [this, foldO_num]

theorem TrOk.at {E : Env} {ops : List Oper} : ∀ {rs : List Rc} {S : SF} {O : Obs} {tm : Nat}, TrOk E ops S O tm rs → ∀ (i : Nat) (r : Rc), rs[i]? = some r →
    tm ≤ r.tk ∧ (∀ p ∈ r.out.upd, p.1 < r.tk ∧ ∃ o, (rs.take i).foldl stepO O p.1 = some o ∧ o ≠ .gone) ∧ RunOk E ops ((rs.take i).foldl stepS S) ((rs.take i).foldl stepO O) r
  | [], _, _, _, _, i, r, h => by simp at h
  | x :: rs, S, O, tm, ⟨h1, h2, h3, h4⟩, i, r, h => by
    cases i with
    | zero =>
      simp only [List.getElem?_cons_zero, Option.some.injEq] at h
      subst h
      exact ⟨h1, h2, h3⟩
    | succ i =>
      have := TrOk.at h4 i r (by simpa using h)
      exact ⟨by omega, this.2.1, this.2.2⟩
theorem TrOk.lt {E : Env} {ops : List Oper} : ∀ {rs : List Rc} {S : SF} {O : Obs} {tm : Nat}, TrOk E ops S O tm rs → ∀ (i k : Nat) (r q : Rc), i < k → rs[i]? = some r → rs[k]? = some q → r.tk + r.out.new.length < q.tk
  | [], _, _, _, _, i, k, r, q, _, h, _ => by simp at h
  | x :: rs, S, O, tm, ⟨h1, h2, h3, h4⟩, i, k, r, q, hik, hi, hk => by
    obtain ⟨k, rfl⟩ : ∃ m, k = m + 1 := ⟨k - 1, by omega⟩
    rw [List.getElem?_cons_succ] at hk
    cases i with
    | zero =>
      simp only [List.getElem?_cons_zero, Option.some.injEq] at hi
      subst hi
      have := (TrOk.at h4 k q hk).1
      omega
    | succ i => exact TrOk.lt h4 i k r q (by omega) (by simpa using hi) hk

theorem allLt_of {n : Nat} : ∀ {l : List Nat}, allLt n l = true → ∀ i ∈ l, i < n
  | [], _, i, hi => by cases hi
  | j :: l, h, i, hi => by
    obtain ⟨h1, h2⟩ := bsel_and (show bsel (Nat.blt j n) (allLt n l) false = true from h)
    rcases List.mem_cons.1 hi with rfl | hi
    · exact Nat.le_of_ble_eq_true h1
    · exact allLt_of h2 i hi
theorem mem_edgesOf {e : Edge} : ∀ {l : List Edge}, e ∈ l → Region.binds .any e = true → e.on ∈ edgesOf l
  | [], h, _ => by cases h
  | x :: l, h, hb => by
    simp only [edgesOf]
    rcases List.mem_cons.1 h with rfl | h
    · rw [hb]; exact List.mem_cons_self
    · cases Region.binds .any x with
      | true => exact List.mem_cons_of_mem _ (mem_edgesOf h hb)
      | false => exact mem_edgesOf h hb
theorem backOk_of : ∀ {ops : List Oper} {n : Nat}, backOk n ops = true → ∀ (k : Nat) (o : Oper), ops[k]? = some o → ∀ e ∈ o.after.toList, Region.binds .any e = true → e.on < n + k
  | [], _, _, k, o, h => by simp at h
  | x :: ops, n, h, k, o, hk => by
    obtain ⟨h1, h2⟩ := bsel_and (show bsel (allLt n (edgesOf x.after.toList)) (backOk n.succ ops) false = true from h)
    cases k with
    | zero =>
      simp only [List.getElem?_cons_zero, Option.some.injEq] at hk
      subst hk
      exact fun e he hb => by have := allLt_of h1 _ (mem_edgesOf he hb); omega
    | succ k => exact fun e he hb => by have := backOk_of h2 k o (by simpa using hk) e he hb; omega

/-! ### two operations -/
theorem disj_of : ∀ {l m : List Nat}, disj l m = true → ∀ x, x ∈ l → x ∈ m → False
  | [], _, _, x, h, _ => by cases h
  | y :: l, m, h, x, hx, hm => by
    simp only [disj] at h
    cases hy : memN y m with
    | true => rw [hy] at h; cases h
    | false =>
      rw [hy] at h
      rcases List.mem_cons.1 hx with rfl | hx
      · rw [memN_iff.2 hm] at hy; cases hy
      · exact disj_of h x hx hm
structure Free (ops : List Oper) (x y : Rc) : Prop where
  dr : ∀ d, x.o.dst = some d → d ∈ readsOf ops y.o → False
  rd : ∀ d, y.o.dst = some d → d ∈ readsOf ops x.o → False
  dd : ∀ d, x.o.dst = some d → y.o.dst = some d → False
  wt : ∀ j, x.touch j = true → j ∈ y.T → False
  tw : ∀ j, y.touch j = true → j ∈ x.T → False
  ww : ∀ j, x.touch j = true → y.touch j = true → False
theorem Free.of {ops : List Oper} {x y : Rc} (h : freeOf ops x.o y.o x.lg y.lg = true) : Free ops x y := by
  unfold freeOf at h
  simp only [Bool.and_eq_true] at h
  obtain ⟨⟨⟨⟨⟨h1, h2⟩, h3⟩, h4⟩, h5⟩, h6⟩ := h
  have hd : ∀ {r : Rc} {d : Nat}, r.o.dst = some d → d ∈ dstL r.o := fun e => by unfold dstL; rw [e]; exact List.mem_cons_self
  exact ⟨fun d e h => disj_of h1 d (hd e) h, fun d e h => disj_of h2 d (hd e) h, fun d e e' => disj_of h3 d (hd e) (hd e'), fun j e h => disj_of h4 j (memN_iff.1 e) h, fun j e h => disj_of h5 j (memN_iff.1 e) h, fun j e e' => disj_of h6 j (memN_iff.1 e) (memN_iff.1 e')⟩
/-- two operations: one must come ahead, or they are free of each other -/
theorem pairs {ops : List Oper} {rs : List Rc} (hops : rs.map Rc.o = ops) (h : chkD ops (rs.map Rc.lg) = true) {D : Nat → Prop} (hD : Closed ops D) {i k : Nat} {x y : Rc} (hik : i < k) (hi : rs[i]? = some x) (hk : rs[k]? = some y) : (D k → D i) ∨ Free ops x y := by
  obtain ⟨_, h2⟩ := bsel_and h
  have e1 : ops[i]? = some x.o := by rw [← hops]; simp [hi]
  have e2 : ops[k]? = some y.o := by rw [← hops]; simp [hk]
  rcases logOk_of ops h2 rfl i k x.o y.o x.lg y.lg hik (Nat.zero_le _) (by simpa using e1) (by simpa using e2) (by simp [hi]) (by simp [hk]) with ⟨p, h3, h4⟩ | h3
  · left
    exact predsOf_of hD ops (fun k o h => by simpa using h) (fun k p h => by simp at h) k p h3 i h4
  · exact .inr (Free.of h3)
end Go.W
end

section
/-
  Operations in any order: drawn regions. No program in it.
-/
namespace Go.W
open Go Go.RowKit

def SDf (rs : List Rc) (S : SF) (D : Nat → Bool) : SF := foldS ((num 0 rs).filter fun p => D p.1) S
def ODf (rs : List Rc) (O : Obs) (D : Nat → Bool) : Obs := foldO ((num 0 rs).filter fun p => D p.1) O

section
variable {E : Env} {N : Nat} {w0 : World} {K0 : Kn} {H : Nat → Prop} {G : Ghs} {ops : List Oper} {rs : List Rc} {D D' : Nat → Bool} {i : Nat} {r : Rc} {S0 : SF} {O0 : Obs} {tm0 : Nat}

/-- the operation i comes next -/
structure Nx (ops : List Oper) (rs : List Rc) (D D' : Nat → Bool) (i : Nat) (r : Rc) : Prop where
  hops : rs.map Rc.o = ops
  chk : chkD ops (rs.map Rc.lg) = true
  cl : Closed ops (fun k => D k = true)
  cl' : Closed ops (fun k => D' k = true)
  at_ : rs[i]? = some r
  no : D i = false
  self : D' i = true
  oth : ∀ k, k ≠ i → D' k = D k
theorem Nx.agree (h : Nx ops rs D D' i r) {k : Nat} {q : Rc} (hk : rs[k]? = some q) (h1 : ¬ Free ops q r) (h2 : ¬ Free ops r q) : D k = decide (k < i) := by
  rcases Nat.lt_trichotomy k i with hki | rfl | hki
  · rcases pairs h.hops h.chk h.cl' hki hk h.at_ with h3 | h3
    · have := h3 h.self
      rw [h.oth k (by omega)] at this
      rw [this]; simp [hki]
    · exact absurd h3 h1
  · rw [h.no]; simp
  · rcases pairs h.hops h.chk h.cl hki h.at_ hk with h3 | h3
    · have : D k = false := by
        cases hd : D k with
        | false => rfl
        | true => have := h3 hd; rw [h.no] at this; cases this
      rw [this]; simp; omega
    · exact absurd h3 h2
theorem wr_iff {q : Rc} {x : Nat} : q.wr x = true ↔ q.o.dst = some x := by unfold Rc.wr; simp
theorem Nx.reads (h : Nx ops rs D D' i r) (S : SF) {x : Nat} (hx : x ∈ readsOf ops r.o) : SDf rs S D x = (rs.take i).foldl stepS S x := by
  rw [← foldS_lt]
  refine foldS_same (g := fun k => decide (k < i)) fun p hp hw => ?_
  have hp := mem_num0.1 (show (p.1, p.2) ∈ num 0 rs from hp)
  exact h.agree hp (fun hf => hf.dr x (wr_iff.1 hw) hx) (fun hf => hf.rd x (wr_iff.1 hw) hx)
theorem Nx.sees (h : Nx ops rs D D' i r) (O : Obs) {j : Nat} (hx : j ∈ r.T ∨ r.touch j = true) : ODf rs O D j = (rs.take i).foldl stepO O j := by
  rw [← foldO_lt]
  refine foldO_same (g := fun k => decide (k < i)) fun p hp hw => ?_
  have hp := mem_num0.1 (show (p.1, p.2) ∈ num 0 rs from hp)
  rcases hx with hx | hx
  · exact h.agree hp (fun hf => hf.wt j hw hx) (fun hf => hf.tw j hw hx)
  · exact h.agree hp (fun hf => hf.ww j hw hx) (fun hf => hf.ww j hx hw)
theorem take_next (h : rs[i]? = some r) : rs.take (i + 1) = rs.take i ++ [r] := by
  rw [List.take_add_one, h]; rfl
theorem Nx.stepS (h : Nx ops rs D D' i r) (S : SF) : SDf rs S D' = stepS (SDf rs S D) r := by
  funext x
  cases hw : r.wr x with
  | true =>
    have e1 : SDf rs S D' x = (rs.take (i + 1)).foldl W.stepS S x := by
      rw [← foldS_lt]
      refine foldS_same (g := fun k => decide (k < i + 1)) fun p hp hw' => ?_
      have hp := mem_num0.1 (show (p.1, p.2) ∈ num 0 rs from hp)
      by_cases e : p.1 = i
      · rw [e, h.self]; simp
      · rw [h.oth _ e, h.agree hp (fun hf => hf.dd x (wr_iff.1 hw') (wr_iff.1 hw)) (fun hf => hf.dd x (wr_iff.1 hw) (wr_iff.1 hw'))]
        simp only [decide_eq_decide]; omega
    rw [e1, take_next h.at_, List.foldl_append]
    exact stepS_wr hw
  | false =>
    rw [stepS_no hw]
    refine foldS_same fun p hp hw' => ?_
    have hp := mem_num0.1 (show (p.1, p.2) ∈ num 0 rs from hp)
    refine h.oth _ fun e => ?_
    rw [e, h.at_] at hp
    injection hp with hp
    rw [← hp, hw] at hw'; cases hw'
theorem Nx.stepO (h : Nx ops rs D D' i r) (O : Obs) : ODf rs O D' = stepO (ODf rs O D) r := by
  funext x
  cases hw : r.touch x with
  | true =>
    have e1 : ODf rs O D' x = (rs.take (i + 1)).foldl W.stepO O x := by
      rw [← foldO_lt]
      refine foldO_same (g := fun k => decide (k < i + 1)) fun p hp hw' => ?_
      have hp := mem_num0.1 (show (p.1, p.2) ∈ num 0 rs from hp)
      by_cases e : p.1 = i
      · rw [e, h.self]; simp
      · rw [h.oth _ e, h.agree hp (fun hf => hf.ww x hw' hw) (fun hf => hf.ww x hw hw')]
        simp only [decide_eq_decide]; omega
    rw [e1, take_next h.at_, List.foldl_append]
    exact stepO_in hw
  | false =>
    rw [stepO_no hw]
    refine foldO_same fun p hp hw' => ?_
    have hp := mem_num0.1 (show (p.1, p.2) ∈ num 0 rs from hp)
    refine h.oth _ fun e => ?_
    rw [e, h.at_] at hp
    injection hp with hp
    rw [← hp, hw] at hw'; cases hw'

structure DR (E : Env) (N : Nat) (w0 : World) (K0 : Kn) (H : Nat → Prop) (G : Ghs) (S0 : SF) (O0 : Obs) (tm0 : Nat) (rs : List Rc) (D : Nat → Bool) (γ : Ghs) (K : Kn) (a : Act) (w : World) : Prop where
  size : a.tmps.size = N
  defers : a.defers = []
  slots : ∀ x sv, SDf rs S0 D x = some sv → RepSV γ K sv (a.tmps.getD x undef)
  hp : Hp w0 K0 H γ (ODf rs O0 D) K w
  glob : GlobOk E K
  tok : ∀ j g, γ j = some g → j < tm0 ∨ ∃ k q, rs[k]? = some q ∧ D k = true ∧ q.tk ≤ j ∧ j < q.tk + q.out.new.length
  hvW : ∀ j g, γ j = some g → g.hv < tm0 ∨ ∃ k q, rs[k]? = some q ∧ D k = true ∧ g.hv ≤ q.tk
  hvS : ∀ j g o, γ j = some g → ODf rs O0 D j = some o → o ≠ .gone → g.hv < tm0 ∨ ∃ k q, rs[k]? = some q ∧ D k = true ∧ q.touch j = true ∧ g.hv ≤ q.tk
  all : ∀ j o, ODf rs O0 D j = some o → ∃ g, γ j = some g
  fix : Ghs.le G γ

theorem ObOk.hv_eq {γ γ' : Ghs} {K K' : Kn} {w w' : World} {g g' : Gh} {o : Ob} (hng : o ≠ .gone) (h : ObOk γ K w g o) (h' : ObOk γ' K' w' g' o) : g'.hv = g.hv := by
  cases o with
  | box ti cs => obtain ⟨_, _, e, _⟩ := h; obtain ⟨_, _, e', _⟩ := h'; rw [e, e']
  | row hv t xs => obtain ⟨e, _⟩ := h; obtain ⟨e', _⟩ := h'; rw [e, e']
  | frz hv t xs => obtain ⟨e, _⟩ := h; obtain ⟨e', _⟩ := h'; rw [e, e']
  | iter s p => obtain ⟨_, e, _⟩ := h; obtain ⟨_, e', _⟩ := h'; rw [e, e']
  | map kt vt es => obtain ⟨_, _, _, e, _⟩ := h; obtain ⟨_, _, _, e', _⟩ := h'; rw [e, e']
  | gone => exact absurd rfl hng
theorem Nx.D_le (h : Nx ops rs D D' i r) {k : Nat} (hk : D k = true) : D' k = true := by
  rw [h.oth k fun e => by subst e; rw [h.no] at hk; cases hk]; exact hk
variable {γ : Ghs} {K : Kn} {a : Act} {w : World}
theorem DR.fresh (hR : DR E N w0 K0 H G S0 O0 tm0 rs D γ K a w) (h : Nx ops rs D D' i r) (ht : TrOk E ops S0 O0 tm0 rs) (m : Nat) (hm : m < r.out.new.length) : γ (r.tk + m) = none := by
  cases hg : γ (r.tk + m) with
  | none => rfl
  | some g =>
    have h0 := (ht.at i r h.at_).1
    rcases hR.tok _ g hg with h1 | ⟨k, q, h1, h2, h3, h4⟩
    · omega
    · rcases Nat.lt_trichotomy k i with hki | rfl | hki
      · have := ht.lt k i q r hki h1 h.at_; omega
      · rw [h.no] at h2; cases h2
      · have := ht.lt i k r q hki h.at_ h1; omega
theorem DR.updHv (hR : DR E N w0 K0 H G S0 O0 tm0 rs D γ K a w) (h : Nx ops rs D D' i r) (ht : TrOk E ops S0 O0 tm0 rs) : ∀ p ∈ r.out.upd, ∀ g, γ p.1 = some g → g.hv < r.tk := fun p hp g hg => by
  obtain ⟨h0, h1, _⟩ := ht.at i r h.at_
  obtain ⟨_, o, ho, hng⟩ := h1 p hp
  have htch : r.touch p.1 = true := touch_iff.2 (.inl ⟨p, hp, rfl⟩)
  rw [← h.sees O0 (.inr htch)] at ho
  rcases hR.hvS _ g o hg ho hng with h2 | ⟨k, q, h2, h3, h4, h5⟩
  · omega
  · have := h.agree h2 (fun hf => hf.ww _ h4 htch) (fun hf => hf.ww _ htch h4)
    rw [h3] at this
    have hki : k < i := of_decide_eq_true this.symm
    have := ht.lt k i q r hki h2 h.at_
    omega

theorem DR.step (hR : DR E N w0 K0 H G S0 O0 tm0 rs D γ K a w) (h : Nx ops rs D D' i r) (ht : TrOk E ops S0 O0 tm0 rs) (hd : ∀ d, r.o.dst = some d → d < N) {v : Value} {γ' : Ghs} {K' : Kn} {w' : World} (hs : Step w0 K0 H γ (ODf rs O0 D) K r.tk r.out v γ' K' w') : DR E N w0 K0 H G S0 O0 tm0 rs D' γ' K' (a.put r.o.dst v) w' := by
  have hO : ODf rs O0 D' = newF r.tk r.out.new (updF r.out.upd (ODf rs O0 D)) := h.stepO O0
  have hhp : Hp w0 K0 H γ' (ODf rs O0 D') K' w' := by rw [hO]; exact hs.hp
  have hup : ∀ j, (∃ p ∈ r.out.upd, p.1 = j) → ∃ o, ODf rs O0 D j = some o ∧ o ≠ .gone := fun j hj => by
    obtain ⟨p, hp, rfl⟩ := hj
    obtain ⟨_, o, ho, hng⟩ := (ht.at i r h.at_).2.1 p hp
    exact ⟨o, by rw [h.sees O0 (.inr (touch_iff.2 (.inl ⟨p, hp, rfl⟩)))]; exact ho, hng⟩
  refine ⟨?_, ?_, ?_, hhp, hR.glob.mono hs.kle, ?_, ?_, ?_, ?_, ?_⟩
  · cases hdd : r.o.dst <;> simp [Act.put, hR.size]
  · cases hdd : r.o.dst <;> simp [Act.put, hR.defers]
  · intro x sv hx
    rw [h.stepS S0] at hx
    cases hdd : r.o.dst with
    | none =>
      simp only [W.stepS, hdd] at hx
      simpa [Act.put] using (hR.slots x sv hx).mono hs.gle hs.kle
    | some d =>
      simp only [W.stepS, hdd] at hx
      by_cases e : x = d
      · subst e
        rw [fset_same] at hx
        injection hx with hx
        subst hx
        rw [getD_put_same (by rw [hR.size]; exact hd x hdd)]; exact hs.sv
      · rw [fset_ne _ _ e] at hx
        rw [getD_put_ne e]; exact (hR.slots x sv hx).mono hs.gle hs.kle
  · intro j g hg
    have old : (∃ g, γ j = some g) → j < tm0 ∨ ∃ k q, rs[k]? = some q ∧ D' k = true ∧ q.tk ≤ j ∧ j < q.tk + q.out.new.length := fun ⟨g, hg⟩ => by
      rcases hR.tok j g hg with h1 | ⟨k, q, h1, h2, h3⟩
      · exact .inl h1
      · exact .inr ⟨k, q, h1, h.D_le h2, h3⟩
    rcases hs.new j g hg with h1 | ⟨_, h1 | h1⟩
    · exact old ⟨_, h1⟩
    · exact old h1
    · exact .inr ⟨i, r, h.at_, h.self, h1⟩
  · intro j g hg
    rcases hs.new j g hg with h1 | ⟨h1, _⟩
    · rcases hR.hvW j g h1 with h1 | ⟨k, q, h1, h2, h3⟩
      · exact .inl h1
      · exact .inr ⟨k, q, h1, h.D_le h2, h3⟩
    · exact .inr ⟨i, r, h.at_, h.self, h1⟩
  · intro j g o hg ho hng
    have old : ∀ o, γ j = some g → ODf rs O0 D j = some o → o ≠ .gone → g.hv < tm0 ∨ ∃ k q, rs[k]? = some q ∧ D' k = true ∧ q.touch j = true ∧ g.hv ≤ q.tk := fun o hg ho hng => by
      rcases hR.hvS j g o hg ho hng with h1 | ⟨k, q, h1, h2, h3⟩
      · exact .inl h1
      · exact .inr ⟨k, q, h1, h.D_le h2, h3⟩
    cases htc : r.touch j with
    | true =>
      rcases hs.new j g hg with h1 | ⟨h1, _⟩
      · rcases touch_iff.1 htc with h2 | ⟨m, h2, h3⟩
        · obtain ⟨o', ho', hng'⟩ := hup j h2
          exact old o' h1 ho' hng'
        · have := hR.fresh h ht m h2
          rw [← h3, h1] at this; cases this
      · exact .inr ⟨i, r, h.at_, h.self, htc, h1⟩
    | false =>
      have ho' : ODf rs O0 D j = some o := by rw [h.stepO O0, stepO_no htc] at ho; exact ho
      rcases hs.new j g hg with h1 | ⟨_, ⟨g0, h1⟩ | h1⟩
      · exact old o h1 ho' hng
      · have e := ObOk.hv_eq hng (hR.hp.ok j o g0 ho' h1) (hhp.ok j o g ho hg)
        rcases hR.hvS j g0 o h1 ho' hng with h2 | ⟨k, q, h2, h3, h4, h5⟩
        · exact .inl (by omega)
        · exact .inr ⟨k, q, h2, h.D_le h3, h4, by omega⟩
      · have := touch_iff.2 (.inr ⟨j - r.tk, by omega, by omega⟩ : (∃ p ∈ r.out.upd, p.1 = j) ∨ (∃ i, i < r.out.new.length ∧ j = r.tk + i))
        rw [htc] at this; cases this
  · intro j o ho
    have le : (∃ g, γ j = some g) → ∃ g, γ' j = some g := fun ⟨g, hg⟩ => by obtain ⟨g', h1, _⟩ := hs.gle j g hg; exact ⟨g', h1⟩
    cases htc : r.touch j with
    | true =>
      rcases touch_iff.1 htc with h2 | ⟨m, h2, h3⟩
      · obtain ⟨o', ho', _⟩ := hup j h2
        exact le (hR.all j o' ho')
      · rw [h3]; exact hs.made m h2
    | false =>
      rw [h.stepO O0, stepO_no htc] at ho
      exact le (hR.all j o ho)
  · intro j g hg
    exact (hR.fix.trans hs.gle) j g hg
end
end Go.W
end

section
/-
  Drawn regions are what the machine on plain values says. No program in it.
-/
namespace Go.W
open Go Go.RowKit

theorem tmpsOf_mem {t : Nat} : ∀ {l : List Operand}, Operand.tmp t ∈ l → t ∈ tmpsOf l
  | [], h => by cases h
  | x :: l, h => by
    rcases List.mem_cons.1 h with h | h
    · subst h; exact List.mem_cons_self
    · have := tmpsOf_mem h
      cases x <;> simp only [tmpsOf]
      case tmp => exact List.mem_cons_of_mem _ this
      all_goals exact this
theorem reads_op {ops : List Oper} {o : Oper} {t : Nat} (h : Operand.tmp t ∈ o.op.operands.toList) : t ∈ readsOf ops o := by
  have := tmpsOf_mem h
  unfold readsOf
  split
  · exact this
  · split
    · exact List.mem_cons_of_mem _ this
    · exact this
theorem reads_guard {ops : List Oper} {o : Oper} {j g : Nat} {b : Bool} (h : o.guard = some (j, b)) (hg : dstAt ops j = some g) : g ∈ readsOf ops o := by
  unfold readsOf
  rw [h]
  simp only [hg]
  exact List.mem_cons_self

section
variable {E : Env} {N : Nat} {w0 : World} {K0 : Kn} {H : Nat → Prop} {G : Ghs} {ops : List Oper} {rs : List Rc} {D D' : Nat → Bool} {i : Nat} {r : Rc} {S0 : SF} {O0 : Obs} {tm0 : Nat} {γ : Ghs} {K : Kn} {a : Act} {w : World}

theorem DR.get (hR : DR E N w0 K0 H G S0 O0 tm0 rs D γ K a w) (x : Operand) : RepSV γ K (getF E (SDf rs S0 D) x) (a.eval x) := by
  cases x with
  | tmp t =>
    simp only [getF, Act.eval]
    cases hl : SDf rs S0 D t with
    | none => exact True.intro
    | some sv => exact hR.slots t sv hl
  | const v => exact svV_rep v
  | global g =>
    simp only [getF, Act.eval]
    cases hl : lkG E.gl g with
    | none => exact True.intro
    | some p =>
      obtain ⟨T, x⟩ := p
      obtain ⟨cs, h1, h2, _⟩ := hR.glob.1 g T x hl
      exact ⟨_, cs, rfl, rfl, h1, fun j u hu => by simpa using h2 j u hu⟩
  | func f => exact rfl
theorem getF_at {S S' : SF} {x : Operand} (h : ∀ t, x = .tmp t → S t = S' t) : getF E S x = getF E S' x := by
  cases x with
  | tmp t => simp only [getF]; rw [h t rfl]
  | _ => rfl
/-- one operation -/
theorem DR.op {opa : Array Oper} (hR : DR E N w0 K0 H G S0 O0 tm0 rs D γ K a w) (h : Nx opa.toList rs D D' i r) (ht : TrOk E opa.toList S0 O0 tm0 rs) (h0 : 0 < tm0) (hd : ∀ d, r.o.dst = some d → d < N) {Q : Exit → Act → World → Prop} {k : Act → World → Prop}
    (hk : ∀ γ' K' a' w', DR E N w0 K0 H G S0 O0 tm0 rs D' γ' K' a' w' → k a' w') : wpOp E.P opa Q i k a w := by
  obtain ⟨htm, hup, hrun⟩ := ht.at i r h.at_
  have hoi : opa[i]? = some r.o := by
    rw [← Array.getElem?_toList, ← h.hops]; simp [h.at_]
  have slot : ∀ {j b g v}, r.o.guard = some (j, b) → dstAt opa.toList j = some g → getF E ((rs.take i).foldl stepS S0) (.tmp g) = v → RepSV γ K v (a.tmps.getD g undef) := fun {j b g v} h1 h2 h3 => by
    have := hR.get (.tmp g)
    rw [getF_at (S' := (rs.take i).foldl stepS S0) (fun t e => by injection e with e; subst e; exact h.reads S0 (reads_guard h1 h2)), h3] at this
    exact this
  unfold wpOp
  rw [hoi]
  simp only
  rcases hrun with ⟨hw, hop⟩ | ⟨hw, hout⟩
  · rw [if_pos]
    · left
      refine hop w0 K0 H γ (ODf rs O0 D) K a w (fun x hx => ?_) (fun j x hj => ?_) hR.hp hR.glob (hR.fresh h ht) (hR.updHv h ht) (by omega) _ _ fun v γ' K' w' hs => ?_
      · rw [← getF_at (S := SDf rs S0 D) fun t e => h.reads S0 (reads_op (by rw [← e]; exact hx))]
        exact hR.get x
      · unfold resO bsel at hj
        split at hj
        · rename_i hm
          rw [h.sees O0 (.inl (memN_iff.1 hm))]; exact hj
        · cases hj
      · exact hk γ' K' _ w' (hR.step h ht hd hs)
    · rcases hw with hw | ⟨j, b, g, h1, h2, h3⟩
      · exact wanted_none hw
      · refine (wanted_some h1 h2).2 ?_
        have := slot h1 h2 h3
        simpa [RepSV, RepV, RepCell, RepC] using this
  · rw [if_neg]
    · refine hk γ K _ w (hR.step h ht hd ?_)
      rw [hout]
      exact ⟨Ghs.le.refl γ, Kn.le.refl K, ⟨[], rfl, rfl⟩, hR.hp, fun _ _ hg => .inl hg, fun i hi => absurd hi (Nat.not_lt_zero i)⟩
    · obtain ⟨j, b, g, h1, h2, h3⟩ := hw
      intro hh
      have hv := (wanted_some h1 h2).1 hh
      rcases h3 with h3 | h3
      · have := slot h1 h2 h3
        rw [hv] at this
        have this : [Value.bool b] = [.bool !b] := this
        injection this with this
        injection this with this
        cases b <;> cases this
      · obtain ⟨vs, e1, e2⟩ := slot h1 h2 h3
        rw [hv] at e1
        cases e1
end

/-! ### all orders -/
theorem count_set : ∀ {l : List Bool} {i : Nat}, l[i]? = some false → (l.set i true).count false + 1 = l.count false
  | [], i, h => by simp at h
  | b :: l, 0, h => by
    simp only [List.getElem?_cons_zero, Option.some.injEq] at h
    subst h
    simp
  | b :: l, i + 1, h => by
    have := count_set (l := l) (i := i) (by simpa using h)
    simp only [List.set_cons_succ, List.count_cons]
    omega
theorem count_zero {l : List Bool} (h : l.count false = 0) (i : Nat) (hi : l[i]? = some false) : False := by
    have := List.count_pos_iff.2 (List.mem_of_getElem? hi)
    omega

theorem drawn_ok {E : Env} (hE : EnvOk E) {tab : List Con} (htab : CallsOk E tab) : DrawnOk E tab := by
  intro N w0 K0 H G id ops s γ K a w α k r Q hdr hd hR hk
  have hv : Vok s := ⟨fun x v sv h => (hR.slots x v sv h).1, fun j v o h => hR.obv j v o h⟩
  obtain ⟨rs, s', q1, q2, q3, q4, q5, q6, q7, q8, q9⟩ := drawC_trace hE htab ops.toList hdr hv
  simp only [List.nil_append] at q3
  have hlen : rs.length = ops.size := by
    have := congrArg List.length q1
    simpa using this
  have hback := backOk_of (bsel_and q3).1
  refine wp_region_any hE.mixed ?_
  have start : DR E N w0 K0 H G (sfOf s) (obs s) s.tm rs (fun k => (Array.replicate ops.size false).getD k false) γ K a { w with drawn := w.drawn + 1 } := by
    have hf : ∀ k, (Array.replicate ops.size false).getD k false = false := fun k => by
      rw [Array.getD_eq_getD_getElem?]
      by_cases hk : k < ops.size
      · simp [hk]
      · simp [Array.getElem?_eq_none, hk]
    have e1 : ((num 0 rs).filter fun p => (Array.replicate ops.size false).getD p.1 false) = [] := by
      rw [List.filter_eq_nil_iff]
      intro p _
      rw [hf]; simp
    have eS : SDf rs (sfOf s) (fun k => (Array.replicate ops.size false).getD k false) = sfOf s := by unfold SDf; rw [e1]; rfl
    have eO : ODf rs (obs s) (fun k => (Array.replicate ops.size false).getD k false) = obs s := by unfold ODf; rw [e1]; rfl
    refine ⟨hR.size, hR.defers, fun x sv hx => ?_, ?_, hR.glob, fun j g hg => .inl (hR.tok j g hg).1, fun j g hg => .inl (hR.tok j g hg).2, fun j g o hg _ _ => .inl (hR.tok j g hg).2, fun j o hj => ?_, hR.fix⟩
    · rw [eS] at hx
      simp only [sfOf, Option.map_eq_some_iff] at hx
      obtain ⟨⟨v, sv'⟩, h1, h2⟩ := hx
      subst h2
      exact (hR.slots x v sv' h1).2
    · rw [eO]
      have h := hR.hp
      exact ⟨h.os, h.tape, h.output, h.size, h.blk, h.mono, h.kok, fun j o g h1 h2 => (h.ok j o g h1 h2).mono (Ghs.le.refl γ) (Kn.le.refl K) (fun _ _ _ => ⟨rfl, fun _ => rfl⟩), h.own, h.sep⟩
    · rw [eO] at hj
      obtain ⟨v, hv⟩ := obs_some hj
      exact hR.all j _ hv
  have fin : ∀ {listed : Array Bool} {γ : Ghs} {K : Kn} {a : Act} {w : World}, (∀ k, k < ops.size → listed.getD k false = true) → DR E N w0 K0 H G (sfOf s) (obs s) s.tm rs (fun k => listed.getD k false) γ K a w → Q .normal a w := fun {listed γ K a w} hall h => by
    have e1 : ((num 0 rs).filter fun p => listed.getD p.1 false) = num 0 rs := by
      rw [List.filter_eq_self]
      intro p hp
      have := mem_num0.1 (show (p.1, p.2) ∈ num 0 rs from hp)
      have := (List.getElem?_eq_some_iff.1 this).1
      exact hall p.1 (by omega)
    have eS : SDf rs (sfOf s) (fun k => listed.getD k false) = sfOf s' := by unfold SDf; rw [e1, foldS_num, q7]
    have eO : ODf rs (obs s) (fun k => listed.getD k false) = obs s' := by unfold ODf; rw [e1, foldO_num, q8]
    refine hk s' γ K a w q2 q5 ⟨h.size, h.defers, fun x v sv hx => ⟨q6.sl x v sv hx, ?_⟩, ?_, h.glob, fun j g hg => ⟨?_, ?_⟩, fun j v o hj => q6.ob j v o hj, fun j e hj => ?_, h.fix, ?_⟩
    · refine h.slots x sv ?_
      rw [eS]; simp [sfOf, hx]
    · rw [← eO]; exact h.hp
    · rcases h.tok j g hg with h1 | ⟨k, q, h1, _, h3, h4⟩
      · have := q5.tm; omega
      · have := q9 q (List.mem_of_getElem? h1); omega
    · rcases h.hvW j g hg with h1 | ⟨k, q, h1, _, h3⟩
      · have := q5.tm; omega
      · have := q9 q (List.mem_of_getElem? h1); omega
    · refine h.all j e.2 ?_
      rw [eO]
      unfold obs
      rw [hj]
    · have := q5.tm; have := hR.pos; omega
  have main : ∀ (fuel : Nat) (listed : Array Bool) (γ : Ghs) (K : Kn) (a : Act) (w : World), listed.size = ops.size → listed.toList.count false ≤ fuel → Closed ops.toList (fun k => listed.getD k false = true) → DR E N w0 K0 H G (sfOf s) (obs s) s.tm rs (fun k => listed.getD k false) γ K a w → wpAny E.P .any ops Q fuel listed a w := by
    intro fuel
    have alld : ∀ {listed : Array Bool}, listed.size = ops.size → Region.ready .any ops listed = [] → ∀ k, k < ops.size → listed.getD k false = true := fun {listed} hsz hr k => by
      induction k using Nat.strongRecOn with
      | ind k ih =>
        intro hk
        cases hl : listed.getD k false with
        | true => rfl
        | false =>
          exfalso
          have hkl : k < listed.size := by omega
          have : k ∈ Region.ready .any ops listed := mem_ready.2 ⟨by simpa [hkl] using hl, ops[k], by simp [hk], fun e he hb => ih e.on (by have := hback k ops[k] (by simp [hk]) e (by simpa using he) hb; omega) (by have := hback k ops[k] (by simp [hk]) e (by simpa using he) hb; omega)⟩
          rw [hr] at this; cases this
    induction fuel with
    | zero =>
      intro listed γ K a w hsz hc hcl h
      have hz : ∀ k, k < ops.size → listed.getD k false = true := fun k hk => by
        cases hl : listed.getD k false with
        | true => rfl
        | false =>
          exfalso
          have hkl : k < listed.size := by omega
          exact count_zero (Nat.le_zero.1 hc) k (by rw [Array.getElem?_toList]; simpa [hkl] using hl)
      refine ⟨?_, fin hz h⟩
      rw [List.eq_nil_iff_forall_not_mem]
      intro k hk
      obtain ⟨h1, o, h2, _⟩ := mem_ready.1 hk
      have hkl := (Array.getElem?_eq_some_iff.1 h2).1
      have := hz k hkl
      have hkl' : k < listed.size := by omega
      simp [hkl'] at h1 this
      rw [h1] at this; cases this
    | succ fuel ih =>
      intro listed γ K a w hsz hc hcl h
      refine ⟨fun hr => fin (alld hsz hr) h, fun i hi => ?_⟩
      obtain ⟨h1, o, h2, h3⟩ := mem_ready.1 hi
      have hio := (Array.getElem?_eq_some_iff.1 h2).1
      have hil : i < listed.size := by omega
      have hif : listed[i]? = some false := by simpa [hil] using h1
      have hir : i < rs.length := by omega
      have hoi : rs[i].o = o := by
        have := congrArg (·[i]?) q1
        simp [hir, h2] at this
        exact this
      have hcl' : Closed ops.toList (fun k => (listed.setIfInBounds i true).getD k false = true) := by
        intro k o' hk ho' e he hb
        by_cases hki : k = i
        · subst hki
          rw [Array.getElem?_toList, h2] at ho'
          injection ho' with ho'
          subst ho'
          exact getD_set_true (h3 e (by simpa using he) hb)
        · rw [getD_set_ne false (Ne.symm hki)] at hk
          exact getD_set_true (hcl k o' hk ho' e he hb)
      have nx : Nx ops.toList rs (fun k => listed.getD k false) (fun k => (listed.setIfInBounds i true).getD k false) i rs[i] := by
        refine ⟨q1, q3, hcl, hcl', by simp [hir], ?_, ?_, fun k hki => getD_set_ne false (Ne.symm hki)⟩
        · simpa [hil] using h1
        · simp [hil]
      refine h.op nx q4 hR.pos (fun d hdd => hd o (Array.mem_toList_iff.2 (Array.mem_of_getElem? h2)) d (by rw [← hoi]; exact hdd)) fun γ' K' a' w' h' => ?_
      refine ih _ γ' K' a' w' (by simp [hsz]) ?_ hcl' h'
      have := count_set (l := listed.toList) (i := i) (by rw [Array.getElem?_toList]; exact hif)
      rw [Array.toList_setIfInBounds]
      omega
  exact main ops.size _ γ K a _ (by simp) (by simp) (fun k o hk => by
    exfalso
    have hk : (Array.replicate ops.size false).getD k false = true := hk
    rw [Array.getD_eq_getD_getElem?] at hk
    by_cases hkk : k < ops.size
    · simp [hkk] at hk
    · simp [Array.getElem?_eq_none, hkk] at hk) start
end Go.W
end

section
/-
  Functions of the library without a body, and what is checked at a Builder: contracts by hand. No program in it.
-/
namespace Go.W
open Go Go.RowKit

/-! ### tables of contracts -/
def AllOk (E : Env) : List Con → Prop
  | [] => True
  | c :: l => ConOk E c ∧ AllOk E l
theorem callsOk_all {E : Env} {tab : List Con} (h : AllOk E tab) : CallsOk E tab := by
  refine callsOk_of ?_
  induction tab with
  | nil => intro c hc; cases hc
  | cons d l ih =>
    intro c hc
    rcases List.mem_cons.1 hc with hc | hc
    · rw [hc]; exact h.1
    · exact ih h.2 c hc

/-! ### a call that leaves all as it is -/
theorem back_still {E : Env} {rs : List Kd} {ps : List PK} {x : Vec (kTys (kdP ps))} {r : Vec (kTys (app rs (kdB ps)))} {w : World} {K : Kn} {H : Nat → Prop} {γ : Ghs} {args : Array Value} {V : Value} {tk : Nat} (hEnt : Ent E ps x w K H γ args)
    (h1 : (unpackG tk (app rs (kdB ps)) 0 r).2 = []) (h2 : obsP (unpackG tk (app rs (kdB ps)) 0 r).1 = []) (hV : ∀ γ2, RepSV γ2 K (oneV (valsP rs (unpackG tk (app rs (kdB ps)) 0 r).1)) V) : Back rs ps x r w K H γ V w tk := by
  refine ⟨γ, obs (start ps x), K, [], [], hEnt.hp, ?_, fun j => by simp, fun i o ho => ?_, fun γ2 _ => hV γ2⟩
  · rw [h1]; exact ⟨rfl, rfl⟩
  · rw [h2] at ho; simp at ho

/-! ### the first such byte -/
def psIx : List PK := [.k (.v (.slice .u8) []), .k (.v .u8 [])]
def psIxS : List PK := [.k (.v .str []), .k (.v .u8 [])]
def rsIx : List Kd := [.v (.int .i64) []]
def hand_bytealg_IndexByte (_N : Nat) (x : List UInt8 × UInt8) : Option Int := some (Lib.indexByte x.1 x.2)
def hand_bytealg_IndexByteString (_N : Nat) (x : List UInt8 × UInt8) : Option Int := some (Lib.indexByte x.1 x.2)
def hand_bytealg_CountString (_N : Nat) (x : List UInt8 × UInt8) : Option Int := some ((Lib.countByte x.1 x.2 : Nat) : Int)

theorem byte_back (x : UInt8) : (n8 x).toNat.toUInt8 = x := by
  show (Int.toNat ((x.toNat : Nat) : Int)).toUInt8 = x
  simp
theorem args_two {args : Array Value} {n : Nat} (h : args.size = n) (h2 : n = 2) : args = #[args.getD 0 undef, args.getD 1 undef] := by
  subst h2
  apply Array.ext
  · simpa using h
  · intro i h1 h3
    simp at h3
    match i, h3 with
    | 0, _ => simp [Array.getD, h]
    | 1, _ => simp [Array.getD, h]

theorem run_loadBytesX {P : Program} {w : World} : ∀ (bs : List UInt8) (ad : Addr) (acc : ByteArray), (∀ j u, (bs.map fun b => Value.int .u8 (b.toNat : Int))[j]? = some u → w.cell? (ad.add j) = some u) →
    (Extern.Bytes.loadBytes ad bs.length acc).run P w = .ok ⟨acc.data ++ bs.toArray⟩ w
  | [], ad, acc, _ => by simp [Extern.Bytes.loadBytes]
  | b :: r, ad, acc, h => by
    have h0 := h 0 (.int .u8 (b.toNat : Int)) (by simp)
    have ha : ad.add 0 = ad := by simp [Addr.add]
    rw [ha] at h0
    have ih := run_loadBytesX (P := P) (w := w) r (ad.add 1) (acc.push b) (fun j u hu => by
      rw [show (ad.add 1).add j = ad.add (j + 1) by simp [Addr.add, Nat.add_assoc, Nat.add_comm 1 j]]
      exact h (j + 1) u (by simpa using hu))
    simp only [List.length_cons, Extern.Bytes.loadBytes, Sem.run_bind, load, Sem.run, h0, Result.andThen_ok, Int.toNat_natCast]
    rw [show b.toNat.toUInt8 = b from by simp [Nat.toUInt8]]
    rw [ih]
    simp [ByteArray.push]
theorem cellsK_rep {K : Kn} {w : World} (hk : KOk K w) {ad : Addr} (hs : ad.spot = none) {j : Nat} {u : Value} (h : K ad.block (ad.off + j) = some u) (hu : u.oneCell' = true) : w.cell? (ad.add j) = some u := by
  obtain ⟨cs, e, fz, h1, h2⟩ := hk _ _ _ h
  obtain ⟨b, o, sp⟩ := ad
  simp only at hs
  subst hs
  rw [add_lit, cell_row h1]
  exact h2.1 hu
theorem run_bytesOf_rep {P : Program} {K : Kn} {w : World} (hk : KOk K w) {bs : List UInt8} {v : Value} (h : RepC K (.slice .u8) bs [v]) : (Extern.Bytes.bytesOf v).run P w = .ok ⟨bs.toArray⟩ w := by
  obtain ⟨A, c, e1, _, _, es, h2, h3⟩ := h
  injection e1 with e1 _
  subst e1
  have hes := repL_u8_cells h2
  rcases h3 with h3 | ⟨ad, a1, a2, a3⟩
  · rw [h3] at hes
    have : bs = [] := by simpa using hes.symm
    subst this
    cases A <;> rfl
  · subst a1
    subst hes
    have := run_loadBytesX (P := P) (w := w) bs ad ByteArray.empty (fun j u hu => cellsK_rep hk a2 (a3 j u hu) (by obtain ⟨b, _, e⟩ := List.mem_map.1 (List.mem_of_getElem? hu); rw [← e]; rfl))
    simp only [Extern.Bytes.bytesOf, this]
    have e0 : ByteArray.empty.data = #[] := rfl
    rw [e0]
    simp

theorem kh_IndexByte {E : Env} {f : Nat} {fn : Func} (hf : E.P.funcs[f]? = some fn) (hname : (fn.name == "runtime.NumGoroutine") = false) (hb : fn.body.isNone = true) (hx : Extern.findNext fn = none) (he : Extern.find fn = some Extern.BytealgIndexByte.indexByte) (N : Nat) :
    ConOk E ⟨f, psIx, rsIx, hand_bytealg_IndexByte N⟩ := by
  intro x r h w K H γ args hEnt
  have h : some (Lib.indexByte x.1 x.2) = some r := h
  injection h with h
  subst h
  left
  have hs := hEnt.size
  have s0 := (hEnt.slots 0 0 (.val (.one (.v (.slice .u8) x.1))) rfl).2
  have s1 := (hEnt.slots 1 0 (.val (.one (.v .u8 x.2))) rfl).2
  have ha := args_two hs rfl
  have hk := hEnt.hp.kok
  have s1 : args.getD 1 undef = .int .u8 (n8 x.2) := by simpa [RepSV, RepV, RepCell, RepC] using s1
  have s0 : RepC K (.slice .u8) x.1 [args.getD 0 undef] := s0
  refine ⟨.int .i64 (Lib.indexByte x.1 x.2), w, ?_, fun tk _ => back_still hEnt rfl rfl fun _ => rfl⟩
  rw [ha, s1]
  have hr := run_bytesOf_rep (P := E.P) hk s0
  obtain ⟨A, c, e1, _⟩ := s0
  injection e1 with e1 _
  rw [e1] at hr ⊢
  have hrun : (Extern.BytealgIndexByte.indexByte #[.slice A x.1.length c, .int .u8 (n8 x.2)]).run E.P w = .ok (.int .i64 (Lib.indexByte x.1 x.2)) w := by
    have h2 := Lib.run_indexByteString (P := E.P) ⟨x.1.toArray⟩ (n8 x.2) w
    have e2 : ((n8 x.2).toNat.toUInt8) = x.2 := byte_back x.2
    rw [e2] at h2
    have e3 : (⟨x.1.toArray⟩ : ByteArray).data.toList = x.1 := rfl
    rw [e3] at h2
    rw [← h2]
    show ((do
      let b ← Extern.Bytes.bytesOf (.slice A x.1.length c)
      let c ← Extern.Bytes.asByte (.int .u8 (n8 x.2))
      match (List.range b.size).find? fun i => b[i]! == c with
      | some i => pure (goInt i)
      | none => pure (goInt (-1)) : Sem Value).run E.P w) = ((do
      let b ← Extern.Bytes.bytesOf (.string ⟨x.1.toArray⟩)
      let c ← Extern.Bytes.asByte (.int .u8 (n8 x.2))
      match (List.range b.size).find? fun i => b[i]! == c with
      | some i => pure (goInt i)
      | none => pure (goInt (-1)) : Sem Value).run E.P w)
    have hst : (Extern.Bytes.bytesOf (.string ⟨x.1.toArray⟩)).run E.P w = .ok ⟨x.1.toArray⟩ w := rfl
    rw [Sem.run_bind, Sem.run_bind, hr, hst]
  rw [run_callFunc_indexByte hf hname hb hx he, hrun]
  rfl
theorem kh_IndexByteString {E : Env} {f : Nat} {fn : Func} (hf : E.P.funcs[f]? = some fn) (hname : (fn.name == "runtime.NumGoroutine") = false) (hb : fn.body.isNone = true) (hx : Extern.findNext fn = none) (he : Extern.find fn = some Extern.BytealgIndexByte.indexByte) (N : Nat) :
    ConOk E ⟨f, psIxS, rsIx, hand_bytealg_IndexByteString N⟩ := by
  intro x r h w K H γ args hEnt
  have h : some (Lib.indexByte x.1 x.2) = some r := h
  injection h with h
  subst h
  left
  have hs := hEnt.size
  have s0 := (hEnt.slots 0 0 (.val (.one (.v .str x.1))) rfl).2
  have s1 := (hEnt.slots 1 0 (.val (.one (.v .u8 x.2))) rfl).2
  have ha := args_two hs rfl
  have s1 : args.getD 1 undef = .int .u8 (n8 x.2) := by simpa [RepSV, RepV, RepCell, RepC] using s1
  have s0 : args.getD 0 undef = .string (bst x.1) := by simpa [RepSV, RepV, RepCell, RepC] using s0
  refine ⟨.int .i64 (Lib.indexByte x.1 x.2), w, ?_, fun tk _ => back_still hEnt rfl rfl fun _ => rfl⟩
  rw [ha, s1, s0]
  have h2 := Lib.run_indexByteString (P := E.P) (bst x.1) (n8 x.2) w
  have e2 : ((n8 x.2).toNat.toUInt8) = x.2 := byte_back x.2
  rw [e2] at h2
  have e3 : (bst x.1).data.toList = x.1 := rfl
  rw [e3] at h2
  rw [run_callFunc_indexByte hf hname hb hx he, h2]
  rfl

theorem kh_CountString {E : Env} {f : Nat} {fn : Func} (hf : E.P.funcs[f]? = some fn) (hname : (fn.name == "runtime.NumGoroutine") = false) (hb : fn.body.isNone = true) (hx : Extern.findNext fn = none) (he : Extern.find fn = some Extern.BytealgCount.count) (N : Nat) :
    ConOk E ⟨f, psIxS, rsIx, hand_bytealg_CountString N⟩ := by
  intro x r h w K H γ args hEnt
  have h : some ((Lib.countByte x.1 x.2 : Nat) : Int) = some r := h
  injection h with h
  subst h
  left
  have hs := hEnt.size
  have s0 := (hEnt.slots 0 0 (.val (.one (.v .str x.1))) rfl).2
  have s1 := (hEnt.slots 1 0 (.val (.one (.v .u8 x.2))) rfl).2
  have ha := args_two hs rfl
  have s1 : args.getD 1 undef = .int .u8 (n8 x.2) := by simpa [RepSV, RepV, RepCell, RepC] using s1
  have s0 : args.getD 0 undef = .string (bst x.1) := by simpa [RepSV, RepV, RepCell, RepC] using s0
  refine ⟨.int .i64 ((Lib.countByte x.1 x.2 : Nat) : Int), w, ?_, fun tk _ => back_still hEnt rfl rfl fun _ => rfl⟩
  rw [ha, s1, s0]
  have h2 := Lib.run_countString (P := E.P) (bst x.1) (n8 x.2) w
  have e2 : ((n8 x.2).toNat.toUInt8) = x.2 := byte_back x.2
  rw [e2] at h2
  have e3 : (bst x.1).data.toList = x.1 := rfl
  rw [e3] at h2
  rw [run_callFunc_extern hf hname hb hx he, h2]
  rfl

/-! ### room that is not cleared -/
theorem digits_bytes : ∀ (n t : Nat) (acc : Array Value) (bs : List UInt8), acc.toList = bs.map (fun b => Value.int .u8 (b.toNat : Int)) → ∃ bs' : List UInt8, (Extern.BytealgMakeNoZero.digits n t acc).toList = bs'.map (fun b => Value.int .u8 (b.toNat : Int))
  | 0, _, acc, bs, h => ⟨bs, h⟩
  | n + 1, t, acc, bs, h => by
    rw [Extern.BytealgMakeNoZero.digits]
    refine digits_bytes n (t / 256) _ (bs ++ [UInt8.ofNat (t % 256)]) ?_
    have : (UInt8.ofNat (t % 256)).toNat = t % 256 := by
      rw [UInt8.toNat_ofNat']; omega
    simp [h, this]
theorem nz_ok {P : Program} {f : Nat} {fn : Func} {ps : Array TypeId} {t : TypeId} (hf : P.funcs[f]? = some fn) (hname : (fn.name == "runtime.NumGoroutine") = false)
    (hb : fn.body.isNone = true) (hn : Extern.findNext fn = none) (he : Extern.find fn = some (Extern.BytealgMakeNoZero.makeNoZero ps #[t])) (ht : P.underlying t = some (.slice ub)) : NzOk P f := by
  intro n w hle
  have hdef : Extern.BytealgMakeNoZero.makeNoZero ps #[t] #[.int .i64 n] =
      (do
        let .slice elem ← underlying t | stuck "bytealg.MakeNoZero: slice type expected"
        if (n : Int) < 0 || (n : Int) > 2 ^ 48 then runtimePanic (.error "makeslice: len out of range")
        let cap ← choose (.appendCap (n : Int).toNat 0 elem)
        askRoom cap
        let bytes ← choose (.extern "internal/bytealg.MakeNoZero.bytes" 0)
        let a ← newRow elem (Extern.BytealgMakeNoZero.digits cap bytes #[])
        pure (.slice (some a) (n : Int).toNat cap)) := rfl
  obtain ⟨bs, hbs⟩ := digits_bytes (grownCap w n 0 ub) ((Question.extern "internal/bytealg.MakeNoZero.bytes" 0).cut (w.tape (w.drawn + 1) (.extern "internal/bytealg.MakeNoZero.bytes" 0))) #[] [] rfl
  have hsz : bs.length = grownCap w n 0 ub := by
    have := congrArg List.length hbs
    simp only [Array.length_toList, Lib.size_digits, List.length_map, Array.size_empty, Nat.zero_add] at this
    exact this.symm
  have hA : Extern.BytealgMakeNoZero.digits (grownCap w n 0 ub) ((Question.extern "internal/bytealg.MakeNoZero.bytes" 0).cut (w.tape (w.drawn + 1) (.extern "internal/bytealg.MakeNoZero.bytes" 0))) #[] = (bs.map fun b => Value.int .u8 (b.toNat : Int)).toArray := by
    apply Array.toList_inj.1
    rw [hbs]
  refine ⟨bs, w.drawn + 1 + 1, ?_, ?_, ?_⟩
  · rw [run_callFunc_extern hf hname hb hn he, hdef]
    have h1 : ¬ (n : Int) < 0 := by omega
    have h2 : ¬ (281474976710656 : Int) < (n : Int) := by omega
    rw [← hA, hsz]
    simp [run_underlying ht, h1, h2, Question.forced, newRow, grownCap]
    rfl
  · rw [hsz]; simpa using grownCap_ge w n 0 ub
  · rw [hsz]; simpa using grownCap_le_maxLen w n 0 ub (by unfold maxLen; omega)

/-! ### the check of a Builder -/
def tyB : Ty := .st (.pair .nptr (.slice .u8))
def psCc (t : Nat) : List PK := [.k (.b t tyB [1])]
def hand_strings_Builder_copyCheck (_N : Nat) (x : Unit × List UInt8) : Option (Unit × List UInt8) := some x
/-- what the check does: the Builder's own address is put down, or stands there -/
def CcOk (P : Program) (f t : Nat) : Prop := ∀ (w : World) (b : Nat) (p v : Value), w.heap[b]? = some (.cells #[p, v] t (0, 0)) → (p = .pointer none ∨ p = .pointer (some ⟨b, 0, none⟩)) →
  ((callFunc f #[.pointer (some ⟨b, 0, none⟩)]).run P w = .ok (.enter f #[.pointer (some ⟨b, 0, none⟩)]) w) ∧ Calls P f #[.pointer (some ⟨b, 0, none⟩)] w fun e w' => e = .returned (.tuple #[]) ∧ w'.os = w.os ∧ w'.tape = w.tape ∧ w'.output = w.output ∧ w'.heap.size = w.heap.size ∧ (∀ b', b' ≠ b → w'.heap[b']? = w.heap[b']?) ∧ (∃ p', w'.heap[b]? = some (.cells #[p', v] t (0, 0)) ∧ (p' = .pointer none ∨ p' = .pointer (some ⟨b, 0, none⟩)))
theorem kh_copyCheck {E : Env} {f t : Nat} (hcc : CcOk E.P f t) (N : Nat) : ConOk E ⟨f, psCc t, [], hand_strings_Builder_copyCheck N⟩ := by
  intro x r h w K H γ args hEnt
  have h : some x = some r := h
  injection h with h
  subst h
  have hs : args.size = 1 := hEnt.size
  have o1 : obs (start (psCc t) x) 1 = some (.row 1 .u8 x.2) := rfl
  have o2 : obs (start (psCc t) x) 2 = some (.box t [.nilp, .row 1 1]) := rfl
  obtain ⟨g1, hg1⟩ := hEnt.all 1 _ (show lk (start (psCc t) x).ob 1 = some (0, .row 1 .u8 x.2) from rfl)
  obtain ⟨g2, hg2⟩ := hEnt.all 2 _ (show lk (start (psCc t) x).ob 2 = some (0, .box t [.nilp, .row 1 1]) from rfl)
  have s0 := (hEnt.slots 0 0 (.val (.one (.ptr 2 0))) rfl).2
  obtain ⟨g2', b, k1, k2, k3, k4⟩ := s0
  rw [hg2] at k1
  injection k1 with k1
  subst k1
  have ha : args = #[.pointer (some ⟨b, 0, none⟩)] := by
    apply Array.ext
    · simpa using hs
    · intro i h1 h3
      simp at h3
      subst h3
      have : args.getD 0 undef = args[0] := by simp [Array.getD, hs]
      rw [← this, k4]
      rfl
  obtain ⟨b', vs, q0, q1, ⟨us, q2, qs⟩, q3, q4⟩ := hEnt.hp.ok 2 _ g2 o2 hg2
  rw [k3] at q1
  injection q1 with q1
  injection q1 with q1
  subst q1
  obtain ⟨v1, vr, e1, e1', _, v2, vr2, e2, e3, e3', e4⟩ := q3
  have e4 : vr2 = [] := e4
  have e1' : v1 = .pointer none := e1'
  subst e4
  subst e1'
  subst e2
  subst e1
  obtain ⟨u1, u2, rfl⟩ : ∃ u1 u2, us = [u1, u2] := by
    have := qs.1
    match us, this with
    | [u1, u2], _ => exact ⟨u1, u2, rfl⟩
  have hu1 : u1 = .pointer none ∨ u1 = .pointer (some ⟨b, 0, none⟩) := by
    rcases qs.2 0 u1 (.pointer none) rfl rfl with e | ⟨_, e⟩
    · exact .inl e
    · exact .inr e
  have hu2 : u2 = v2 := by
    rcases qs.2 1 u2 v2 rfl rfl with e | ⟨e, _⟩
    · exact e
    · obtain ⟨h0, _⟩ := e3
      subst e
      cases h0
  subst hu2
  obtain ⟨c1, c2⟩ := hcc w b u1 u2 (by simpa using q2) hu1
  subst ha
  right
  refine ⟨c1, c2.mono fun e w' he => ?_⟩
  obtain ⟨rfl, d1, d2, d3, d4, d5, p', d6, d7⟩ := he
  intro tk h0
  obtain ⟨r1, r2, r3, r4, r5, vi, r6, r7, r8⟩ := hEnt.hp.ok 1 _ g1 o1 hg1
  have hslf : Slf b [p', u2] [.pointer none, u2] := by
    refine ⟨rfl, fun i u v hu hv => ?_⟩
    match i with
    | 0 =>
      simp at hu hv
      subst hu
      subst hv
      rcases d7 with d7 | d7
      · exact .inl d7
      · exact .inr ⟨rfl, d7⟩
    | 1 =>
      simp at hu hv
      subst hu
      subst hv
      exact .inl rfl
    | i + 2 => simp at hu
  have hH : Hp w K H γ (obs (start (psCc t) x)) K w' := by
    obtain ⟨_, t2⟩ := hEnt.hp.turn (w' := w') 2 g2 (.box t [.nilp, .row 1 1]) d1 d2 d3 (Nat.le_of_eq d4.symm) (fun gg hgg => by rw [hg2] at hgg; injection hgg with hgg; subst hgg; exact ⟨Nat.le_refl _, fun _ => rfl⟩)
      (fun b2 _ hne => d5 b2 (hne _ g2 _ o2 hg2 rfl k3))
      (fun _ ad had => .inr ⟨_, g2, ad, o2, hg2, rfl, had, rfl⟩)
      (by
        rw [fset_id hg2]
        exact ⟨b, [.pointer none, u2], q0, k3, ⟨[p', u2], by simpa using d6, hslf⟩, ⟨_, _, rfl, rfl, rfl, _, _, rfl, e3, e3', rfl⟩, q4⟩)
    rw [fset_id hg2, fset_id o2] at t2
    exact t2
  have hrow : ∀ γ2, ObOk γ2 K w' ⟨g1.a, g1.c, g1.n, g1.sz, tk⟩ (.row tk .u8 x.2) := fun γ2 => by
    refine ⟨rfl, h0, r3, r4, r5, vi, ⟨r6.1, ?_⟩, r7, r8⟩
    rcases r6.2 with z | ⟨b2, cur, ee, fz, z1, z2, z3, z4⟩
    · exact .inl z
    · refine .inr ⟨b2, cur, ee, fz, z1, ?_, z3, z4⟩
      rw [d5 b2 (hEnt.hp.sep 1 2 _ _ g1 g2 o1 o2 hg1 hg2 rfl rfl (by decide) ⟨b2, 0, none⟩ ⟨b, 0, none⟩ z1 k3)]
      exact z2
  refine ⟨γ, obs (start (psCc t) x), K, [⟨g1.a, g1.c, g1.n, g1.sz, tk⟩], [some 1], hH, ⟨_, _, _, _, rfl, rfl, ⟨rfl, hrow, rfl, .inr ⟨1, g1, _, rfl, hg1, o1, rfl, rfl⟩⟩, rfl, rfl⟩, fun j => ?_, fun i o ho => ?_, fun γ2 _ => ⟨[], rfl, rfl⟩⟩
  · rw [List.count_cons, List.count_nil]; split <;> simp
  · match i with
    | 0 =>
      have ho : some (Ob.box t [.nilp, .row (tk + 0) tk]) = some o := ho
      injection ho with ho
      subst ho
      refine ⟨(by decide : List.count (some 2) [some 1] = 0), rfl, ⟨_, o2, rfl⟩, fun γ2 hG g hg => ?_⟩
      have hg : γ 2 = some g := hg
      rw [hg2] at hg
      injection hg with hg
      subst hg
      have hn := hG 0 _ rfl
      refine ⟨b, [.pointer none, u2], q0, k3, ⟨[p', u2], by simpa using d6, hslf⟩, ⟨_, _, rfl, rfl, rfl, _, _, rfl, ?_, e3', rfl⟩, q4⟩
      obtain ⟨y0, gy, y1, y2, y3, y4⟩ := e3
      rw [hg1] at y1
      injection y1 with y1
      subst y1
      exact ⟨y0, ⟨g1.a, g1.c, g1.n, g1.sz, tk⟩, by simpa using hn, h0, Nat.le_refl _, fun _ => y4 r1⟩
    | i + 1 =>
      have ho : ([] : List Ob)[i]? = some o := ho
      simp at ho
/-- unicode/utf8.ValidString -/
def hand_utf8_ValidString (_N : Nat) (x : List UInt8) : Option Bool := grd (catOk (len x)) (some (Lib.validD x))

/-! ### a contract of the library: two texts, whether -/
theorem con_ssb {E : Env} {f : Nat} {fn : Func} (g : List UInt8 × List UInt8 → Option Bool) (hf : E.P.funcs[f]? = some fn) (hb : fn.body.isNone = false) (hn : (fn.name == "runtime.NumGoroutine") = false)
    (h : ∀ x r, g x = some r → ∀ (w : World) (K : Kn), GlobOk E K → KOk K w → Calls E.P f #[.string (bst x.1), .string (bst x.2)] w fun e w' => e = .returned (.bool r) ∧ w' = w) :
    ConOk E ⟨f, [.k (.v .str []), .k (.v .str [])], [.v .bool []], g⟩ := by
  intro x r hr w K H γ args hEnt
  have h := h x r hr w K hEnt.glob hEnt.hp.kok
  right
  have hs : args.size = 2 := hEnt.size
  have s0 := (hEnt.slots 0 0 (.val (.one (.v .str x.1))) rfl).2
  have s0 : args.getD 0 undef = .string (bst x.1) := by simpa [RepSV, RepV, RepCell, RepC] using s0
  have s1 := (hEnt.slots 1 0 (.val (.one (.v .str x.2))) rfl).2
  have s1 : args.getD 1 undef = .string (bst x.2) := by simpa [RepSV, RepV, RepCell, RepC] using s1
  have ha : args = #[.string (bst x.1), .string (bst x.2)] := by
    apply Array.ext
    · simpa using hs
    · intro i h1 h3
      simp at h3
      have : i = 0 ∨ i = 1 := by omega
      rcases this with rfl | rfl
      · have : args.getD 0 undef = args[0] := by simp [Array.getD, hs]
        rw [← this, s0]; rfl
      · have : args.getD 1 undef = args[1] := by simp [Array.getD, hs]
        rw [← this, s1]; rfl
  subst ha
  refine ⟨by
    unfold callFunc
    simp only [program, Sem.run_bind, Sem.run, Result.andThen_ok, hf, hn, hb]
    rfl, ?_⟩
  refine h.mono fun e w' he => ?_
  obtain ⟨rfl, rfl⟩ := he
  intro tk _
  refine ⟨γ, obs (W.start [.k (.v .str []), .k (.v .str [])] x), K, [], [], hEnt.hp, ⟨rfl, rfl⟩, fun j => by simp, fun i o ho => ?_, fun γ2 _ => rfl⟩
  have ho : ([] : List Ob)[i]? = some o := ho
  simp at ho
def hand_strings_Contains (_N : Nat) (x : List UInt8 × List UInt8) : Option Bool := grd (decide (x.1.length < 4294967281)) (some (Lib.contains x.1 x.2))
/-! ### FormatInt at base 10 -/
theorem Hp.grown {w0 w w' : World} {K0 K : Kn} {H : Nat → Prop} {γ : Ghs} {ob : Obs} (h : Hp w0 K0 H γ ob K w) (h1 : w'.os = w.os) (h2 : w'.tape = w.tape) (h3 : w'.output = w.output) (h4 : w.heap.size ≤ w'.heap.size) (h5 : ∀ b, b < w.heap.size → w'.heap[b]? = w.heap[b]?) : Hp w0 K0 H γ ob K w' :=
  ⟨h1.trans h.os, h2.trans h.tape, h3.trans h.output, Nat.le_trans h.size h4, fun b hb hH => ⟨(h5 b (Nat.lt_of_lt_of_le hb h.size)).trans (h.blk b hb hH).1, (h.blk b hb hH).2⟩, h.mono, fun b o v hv => by
    obtain ⟨cs, e, fz, q1, q2⟩ := h.kok b o v hv
    exact ⟨cs, e, fz, (h5 b (Array.getElem?_eq_some_iff.1 q1).1).trans q1, q2⟩, fun j o g q1 q2 => (h.ok j o g q1 q2).mono (Ghs.le.refl γ) (Kn.le.refl K) fun q3 ad q4 => ⟨h5 _ ((h.ok j o g q1 q2).block q3 q4).1, fun _ => rfl⟩, h.own, h.sep⟩
theorem con_fmt {E : Env} {f : Nat} {fn : Func} (g : Int × Int → Option (List UInt8)) (hf : E.P.funcs[f]? = some fn) (hb : fn.body.isNone = false) (hn : (fn.name == "runtime.NumGoroutine") = false)
    (h : ∀ x r, g x = some r → ∀ (w : World) (K : Kn), GlobOk E K → KOk K w → Calls E.P f #[.int .i64 x.1, .int .i64 x.2] w fun e w' => e = .returned (.string (bst r)) ∧ w'.os = w.os ∧ w'.tape = w.tape ∧ w'.output = w.output ∧ w.heap.size ≤ w'.heap.size ∧ ∀ b, b < w.heap.size → w'.heap[b]? = w.heap[b]?) :
    ConOk E ⟨f, [.k (.v (.int .i64) []), .k (.v (.int .i64) [])], [.v .str []], g⟩ := by
  intro x r hr w K H γ args hEnt
  have h := h x r hr w K hEnt.glob hEnt.hp.kok
  right
  have hs : args.size = 2 := hEnt.size
  have s0 := (hEnt.slots 0 0 (.val (.one (.v (.int .i64) x.1))) rfl).2
  have s0 : args.getD 0 undef = .int .i64 x.1 := by simpa [RepSV, RepV, RepCell, RepC] using s0
  have s1 := (hEnt.slots 1 0 (.val (.one (.v (.int .i64) x.2))) rfl).2
  have s1 : args.getD 1 undef = .int .i64 x.2 := by simpa [RepSV, RepV, RepCell, RepC] using s1
  have ha : args = #[.int .i64 x.1, .int .i64 x.2] := by
    apply Array.ext
    · simpa using hs
    · intro i h1 h3
      simp at h3
      have : i = 0 ∨ i = 1 := by omega
      rcases this with rfl | rfl
      · have : args.getD 0 undef = args[0] := by simp [Array.getD, hs]
        rw [← this, s0]; rfl
      · have : args.getD 1 undef = args[1] := by simp [Array.getD, hs]
        rw [← this, s1]; rfl
  subst ha
  refine ⟨by
    unfold callFunc
    simp only [program, Sem.run_bind, Sem.run, Result.andThen_ok, hf, hn, hb]
    rfl, ?_⟩
  refine h.mono fun e w' he => ?_
  obtain ⟨rfl, h1, h2, h3, h4, h5⟩ := he
  intro tk _
  refine ⟨γ, obs (W.start [.k (.v (.int .i64) []), .k (.v (.int .i64) [])] x), K, [], [], hEnt.hp.grown h1 h2 h3 h4 h5, ⟨rfl, rfl⟩, fun j => by simp, fun i o ho => ?_, fun γ2 _ => rfl⟩
  have ho : ([] : List Ob)[i]? = some o := ho
  simp at ho
/-! ### Index, Replace -/
def hand_strings_Index (_N : Nat) (x : List UInt8 × List UInt8) : Option Int := grd (decide (x.1.length < 4294967281)) (some (Lib.index x.1 x.2))
def hand_strings_Replace (_N : Nat) (x : List UInt8 × List UInt8 × List UInt8 × Int) : Option (List UInt8) := grd (decide (x.1.length < 4294967281)) (grd (decide (1 ≤ x.2.1.length)) (grd (decide (x.1.length + Lib.count x.1 x.2.1 * x.2.2.1.length ≤ 140737488355328)) (some (Lib.replace x.1 x.2.1 x.2.2.1 x.2.2.2))))
theorem con_sssi {E : Env} {f : Nat} {fn : Func} (g : List UInt8 × List UInt8 × List UInt8 × Int → Option (List UInt8)) (hf : E.P.funcs[f]? = some fn) (hb : fn.body.isNone = false) (hn : (fn.name == "runtime.NumGoroutine") = false)
    (h : ∀ x r, g x = some r → ∀ (w : World) (K : Kn), GlobOk E K → KOk K w → Calls E.P f #[.string (bst x.1), .string (bst x.2.1), .string (bst x.2.2.1), .int .i64 x.2.2.2] w fun e w' => e = .returned (.string (bst r)) ∧ w'.os = w.os ∧ w'.tape = w.tape ∧ w'.output = w.output ∧ w.heap.size ≤ w'.heap.size ∧ ∀ b, b < w.heap.size → w'.heap[b]? = w.heap[b]?) :
    ConOk E ⟨f, [.k (.v .str []), .k (.v .str []), .k (.v .str []), .k (.v (.int .i64) [])], [.v .str []], g⟩ := by
  intro x r hr w K H γ args hEnt
  have h := h x r hr w K hEnt.glob hEnt.hp.kok
  right
  have hs : args.size = 4 := hEnt.size
  have s0 := (hEnt.slots 0 0 (.val (.one (.v .str x.1))) rfl).2
  have s0 : args.getD 0 undef = .string (bst x.1) := by simpa [RepSV, RepV, RepCell, RepC] using s0
  have s1 := (hEnt.slots 1 0 (.val (.one (.v .str x.2.1))) rfl).2
  have s1 : args.getD 1 undef = .string (bst x.2.1) := by simpa [RepSV, RepV, RepCell, RepC] using s1
  have s2 := (hEnt.slots 2 0 (.val (.one (.v .str x.2.2.1))) rfl).2
  have s2 : args.getD 2 undef = .string (bst x.2.2.1) := by simpa [RepSV, RepV, RepCell, RepC] using s2
  have s3 := (hEnt.slots 3 0 (.val (.one (.v (.int .i64) x.2.2.2))) rfl).2
  have s3 : args.getD 3 undef = .int .i64 x.2.2.2 := by simpa [RepSV, RepV, RepCell, RepC] using s3
  have ha : args = #[.string (bst x.1), .string (bst x.2.1), .string (bst x.2.2.1), .int .i64 x.2.2.2] := by
    apply Array.ext
    · simpa using hs
    · intro i h1 h3
      simp at h3
      have : i = 0 ∨ i = 1 ∨ i = 2 ∨ i = 3 := by omega
      rcases this with rfl | rfl | rfl | rfl
      · have : args.getD 0 undef = args[0] := by simp [Array.getD, hs]
        rw [← this, s0]; rfl
      · have : args.getD 1 undef = args[1] := by simp [Array.getD, hs]
        rw [← this, s1]; rfl
      · have : args.getD 2 undef = args[2] := by simp [Array.getD, hs]
        rw [← this, s2]; rfl
      · have : args.getD 3 undef = args[3] := by simp [Array.getD, hs]
        rw [← this, s3]; rfl
  subst ha
  refine ⟨by
    unfold callFunc
    simp only [program, Sem.run_bind, Sem.run, Result.andThen_ok, hf, hn, hb]
    rfl, ?_⟩
  refine h.mono fun e w' he => ?_
  obtain ⟨rfl, h1, h2, h3, h4, h5⟩ := he
  intro tk _
  refine ⟨γ, obs (W.start [.k (.v .str []), .k (.v .str []), .k (.v .str []), .k (.v (.int .i64) [])] x), K, [], [], hEnt.hp.grown h1 h2 h3 h4 h5, ⟨rfl, rfl⟩, fun j => by simp, fun i o ho => ?_, fun γ2 _ => rfl⟩
  have ho : ([] : List Ob)[i]? = some o := ho
  simp at ho
theorem con_ssi {E : Env} {f : Nat} {fn : Func} (g : List UInt8 × List UInt8 → Option Int) (hf : E.P.funcs[f]? = some fn) (hb : fn.body.isNone = false) (hn : (fn.name == "runtime.NumGoroutine") = false)
    (h : ∀ x r, g x = some r → ∀ (w : World) (K : Kn), GlobOk E K → KOk K w → Calls E.P f #[.string (bst x.1), .string (bst x.2)] w fun e w' => e = .returned (.int .i64 r) ∧ w'.os = w.os ∧ w'.tape = w.tape ∧ w'.output = w.output ∧ w.heap.size ≤ w'.heap.size ∧ ∀ b, b < w.heap.size → w'.heap[b]? = w.heap[b]?) :
    ConOk E ⟨f, [.k (.v .str []), .k (.v .str [])], [.v (.int .i64) []], g⟩ := by
  intro x r hr w K H γ args hEnt
  have h := h x r hr w K hEnt.glob hEnt.hp.kok
  right
  have hs : args.size = 2 := hEnt.size
  have s0 := (hEnt.slots 0 0 (.val (.one (.v .str x.1))) rfl).2
  have s0 : args.getD 0 undef = .string (bst x.1) := by simpa [RepSV, RepV, RepCell, RepC] using s0
  have s1 := (hEnt.slots 1 0 (.val (.one (.v .str x.2))) rfl).2
  have s1 : args.getD 1 undef = .string (bst x.2) := by simpa [RepSV, RepV, RepCell, RepC] using s1
  have ha : args = #[.string (bst x.1), .string (bst x.2)] := by
    apply Array.ext
    · simpa using hs
    · intro i h1 h3
      simp at h3
      have : i = 0 ∨ i = 1 := by omega
      rcases this with rfl | rfl
      · have : args.getD 0 undef = args[0] := by simp [Array.getD, hs]
        rw [← this, s0]; rfl
      · have : args.getD 1 undef = args[1] := by simp [Array.getD, hs]
        rw [← this, s1]; rfl
  subst ha
  refine ⟨by
    unfold callFunc
    simp only [program, Sem.run_bind, Sem.run, Result.andThen_ok, hf, hn, hb]
    rfl, ?_⟩
  refine h.mono fun e w' he => ?_
  obtain ⟨rfl, h1, h2, h3, h4, h5⟩ := he
  intro tk _
  refine ⟨γ, obs (W.start [.k (.v .str []), .k (.v .str [])] x), K, [], [], hEnt.hp.grown h1 h2 h3 h4 h5, ⟨rfl, rfl⟩, fun j => by simp, fun i o ho => ?_, fun γ2 _ => rfl⟩
  have ho : ([] : List Ob)[i]? = some o := ho
  simp at ho
theorem con_or {E : Env} {f : Nat} {ps : List PK} {rs : List Kd} {b : Vec (kTys (kdP ps)) → Bool} {g1 g2 : Vec (kTys (kdP ps)) → Option (Vec (kTys (app rs (kdB ps))))} (h1 : ConOk E ⟨f, ps, rs, fun x => grd (b x) (g1 x)⟩) (h2 : ConOk E ⟨f, ps, rs, g2⟩) : ConOk E ⟨f, ps, rs, fun x => bsel (b x) (g1 x) (g2 x)⟩ := by
  intro x r hr
  have hr : bsel (b x) (g1 x) (g2 x) = some r := hr
  cases hb : b x with
  | true =>
    rw [hb] at hr
    exact h1 x r (by show grd (b x) (g1 x) = some r; rw [hb]; exact hr)
  | false =>
    rw [hb] at hr
    exact h2 x r hr
def asciiL : List UInt8 → Bool
  | [] => true
  | b :: l => bsel (Nat.blt b.toNat 128) (asciiL l) false
theorem asciiL_at : ∀ {l : List UInt8}, asciiL l = true → ∀ (j : Nat) b, l[j]? = some b → b.toNat < 128
  | [], _, j, b, h => by simp at h
  | c :: l, ha, j, b, h => by
    simp only [asciiL] at ha
    unfold bsel at ha
    split at ha
    · rename_i hc
      cases j with
      | zero =>
        simp at h
        subst h
        exact Nat.le_of_ble_eq_true hc
      | succ j => exact asciiL_at ha j b (by simpa using h)
    · cases ha
/-! ### Trim with a set of letters, and blanks in the place of white space -/
def hand_strings_Trim (_N : Nat) (x : List UInt8 × List UInt8) : Option (List UInt8) := grd (decide (x.1.length < 4294967281)) (grd (decide (x.2.length < 4294967281)) (grd (asciiL x.2) (some (Lib.trimS x.1 x.2))))
/-- tabs, line feeds and carriage returns become blanks -/
def flatB (b : UInt8) : UInt8 := bsel (b == 9) 32 (bsel (b == 10) 32 (bsel (b == 13) 32 b))
def hand_xml_flat (_N : Nat) (x : List UInt8) : Option (List UInt8) := grd (decide (x.length < 4294967281)) (some (x.map flatB))
theorem con_ss {E : Env} {f : Nat} {fn : Func} (g : List UInt8 → Option (List UInt8)) (hf : E.P.funcs[f]? = some fn) (hb : fn.body.isNone = false) (hn : (fn.name == "runtime.NumGoroutine") = false)
    (h : ∀ x r, g x = some r → ∀ (w : World) (K : Kn), GlobOk E K → KOk K w → Calls E.P f #[.string (bst x)] w fun e w' => e = .returned (.string (bst r)) ∧ w'.os = w.os ∧ w'.tape = w.tape ∧ w'.output = w.output ∧ w.heap.size ≤ w'.heap.size ∧ ∀ b, b < w.heap.size → w'.heap[b]? = w.heap[b]?) :
    ConOk E ⟨f, [.k (.v .str [])], [.v .str []], g⟩ := by
  intro x r hr w K H γ args hEnt
  have h := h x r hr w K hEnt.glob hEnt.hp.kok
  right
  have hs : args.size = 1 := hEnt.size
  have s0 := (hEnt.slots 0 0 (.val (.one (.v .str x))) rfl).2
  have s0 : args.getD 0 undef = .string (bst x) := by simpa [RepSV, RepV, RepCell, RepC] using s0
  have ha : args = #[.string (bst x)] := by
    apply Array.ext
    · simpa using hs
    · intro i h1 h3
      simp at h3
      subst h3
      have : args.getD 0 undef = args[0] := by simp [Array.getD, hs]
      rw [← this, s0]; rfl
  subst ha
  refine ⟨by
    unfold callFunc
    simp only [program, Sem.run_bind, Sem.run, Result.andThen_ok, hf, hn, hb]
    rfl, ?_⟩
  refine h.mono fun e w' he => ?_
  obtain ⟨rfl, h1, h2, h3, h4, h5⟩ := he
  intro tk _
  refine ⟨γ, obs (W.start [.k (.v .str [])] x), K, [], [], hEnt.hp.grown h1 h2 h3 h4 h5, ⟨rfl, rfl⟩, fun j => by simp, fun i o ho => ?_, fun γ2 _ => rfl⟩
  have ho : ([] : List Ob)[i]? = some o := ho
  simp at ho
theorem con_sss {E : Env} {f : Nat} {fn : Func} (g : List UInt8 × List UInt8 → Option (List UInt8)) (hf : E.P.funcs[f]? = some fn) (hb : fn.body.isNone = false) (hn : (fn.name == "runtime.NumGoroutine") = false)
    (h : ∀ x r, g x = some r → ∀ (w : World) (K : Kn), GlobOk E K → KOk K w → Calls E.P f #[.string (bst x.1), .string (bst x.2)] w fun e w' => e = .returned (.string (bst r)) ∧ w'.os = w.os ∧ w'.tape = w.tape ∧ w'.output = w.output ∧ w.heap.size ≤ w'.heap.size ∧ ∀ b, b < w.heap.size → w'.heap[b]? = w.heap[b]?) :
    ConOk E ⟨f, [.k (.v .str []), .k (.v .str [])], [.v .str []], g⟩ := by
  intro x r hr w K H γ args hEnt
  have h := h x r hr w K hEnt.glob hEnt.hp.kok
  right
  have hs : args.size = 2 := hEnt.size
  have s0 := (hEnt.slots 0 0 (.val (.one (.v .str x.1))) rfl).2
  have s0 : args.getD 0 undef = .string (bst x.1) := by simpa [RepSV, RepV, RepCell, RepC] using s0
  have s1 := (hEnt.slots 1 0 (.val (.one (.v .str x.2))) rfl).2
  have s1 : args.getD 1 undef = .string (bst x.2) := by simpa [RepSV, RepV, RepCell, RepC] using s1
  have ha : args = #[.string (bst x.1), .string (bst x.2)] := by
    apply Array.ext
    · simpa using hs
    · intro i h1 h3
      simp at h3
      have : i = 0 ∨ i = 1 := by omega
      rcases this with rfl | rfl
      · have : args.getD 0 undef = args[0] := by simp [Array.getD, hs]
        rw [← this, s0]; rfl
      · have : args.getD 1 undef = args[1] := by simp [Array.getD, hs]
        rw [← this, s1]; rfl
  subst ha
  refine ⟨by
    unfold callFunc
    simp only [program, Sem.run_bind, Sem.run, Result.andThen_ok, hf, hn, hb]
    rfl, ?_⟩
  refine h.mono fun e w' he => ?_
  obtain ⟨rfl, h1, h2, h3, h4, h5⟩ := he
  intro tk _
  refine ⟨γ, obs (W.start [.k (.v .str []), .k (.v .str [])] x), K, [], [], hEnt.hp.grown h1 h2 h3 h4 h5, ⟨rfl, rfl⟩, fun j => by simp, fun i o ho => ?_, fun γ2 _ => rfl⟩
  have ho : ([] : List Ob)[i]? = some o := ho
  simp at ho
/-- a text of more than eight bytes, and some letters that are looked for -/
def longAny (x : List UInt8 × List UInt8) : Bool := Nat.ble 9 x.1.length && Nat.ble x.1.length 4294967280 && Nat.ble 2 x.2.length && Nat.ble x.2.length 4294967280 && asciiL x.2
theorem repL_int {K : Kn} {k : IntKind} : ∀ {xs : List Int} {vs : List Value}, RepL (RepC K (.int k)) xs vs → vs = xs.map fun z => Value.int k z
  | [], _, h => h
  | x :: xs, vs, ⟨c1, c2, e, h1, h2⟩ => by
    have h1 : c1 = [.int k x] := h1
    subst h1
    subst e
    rw [repL_int h2]
    rfl
theorem tab_is {P : Program} {K : Kn} {w : World} (hk : KOk K w) {g n : Nat} {k : IntKind} {xs : List Int} {cs : List Value} {name : String} (hr : RepC K (.arr n (.int k)) xs cs) (hc : ∀ j u, cs[j]? = some u → K g j = some u) (he : K g cs.length = some (.tuple #[])) (hn : P.globalNamed name = some g) : Lib.TabIs P w name k xs := by
  obtain ⟨ds, e, fz, h1, h2⟩ := hk _ _ _ he
  have hs : cs.length = ds.size := h2.2 rfl
  have hcs : cs = xs.map fun z => Value.int k z := repL_int hr.2
  have hd : ds = cs.toArray := by
    apply Array.ext
    · simp [hs]
    · intro i h3 h4
      have hu : cs[i]? = some cs[i] := List.getElem?_eq_getElem (by omega)
      obtain ⟨ds', e', fz', q1, q2⟩ := hk _ _ _ (hc i _ hu)
      rw [h1] at q1
      injection q1 with q1
      injection q1 with q1
      subst q1
      have q3 := q2.1 (RepC_one hr _ (List.mem_of_getElem? hu))
      rw [Array.getElem?_eq_getElem h3] at q3
      exact Option.some.inj q3
  unfold Lib.TabIs World.var?
  rw [hn]
  simp only [Option.bind_some, h1]
  rw [hd, hcs]
/-- the digits of a number, the last one first in the making -/
def dig10 : Nat → Nat → List UInt8 → List UInt8
  | 0, _, l => l
  | n + 1, u, l => bsel (Nat.ble 10 u) (dig10 n (u / 10) (UInt8.ofNat (48 + u % 10) :: l)) (UInt8.ofNat (48 + u) :: l)
theorem dig10_eq : ∀ (n u : Nat) (l : List UInt8), u < 10 ^ n → dig10 n u l = Lib.decDigits u ++ l ∨ n = 0
  | 0, _, _, _ => .inr rfl
  | n + 1, u, l, h => by
    left
    unfold dig10 bsel
    rw [Lib.decDigits]
    by_cases h1 : u < 10
    · have hb : Nat.ble 10 u = false := by rw [← Bool.not_eq_true]; intro k; have := Nat.le_of_ble_eq_true k; omega
      rw [dif_pos h1, hb]
      rfl
    · have hb : Nat.ble 10 u = true := Nat.ble_eq_true_of_le (by omega)
      rw [dif_neg h1, hb]
      have hn : u / 10 < 10 ^ n := by rw [Nat.pow_succ] at h; omega
      rcases dig10_eq n (u / 10) (UInt8.ofNat (48 + u % 10) :: l) hn with k | k
      · simp only [k, List.append_assoc, List.singleton_append]
      · subst k
        simp at hn
        omega
def itoa10 (x : Int) : List UInt8 := match x with
  | .ofNat n => dig10 20 n []
  | .negSucc n => 45 :: dig10 20 (n + 1) []
theorem itoa10_eq {x : Int} (h0 : -9223372036854775808 ≤ x) (h1 : x ≤ 9223372036854775807) : itoa10 x = Lib.itoa x := by
  unfold Lib.itoa
  cases x with
  | ofNat n =>
    rw [if_neg (by show ¬ ((n : Nat) : Int) < 0; omega)]
    rcases dig10_eq 20 n [] (by have h1 : ((n : Nat) : Int) ≤ _ := h1; omega) with k | k
    · show dig10 20 n [] = _
      rw [k, List.append_nil]
      rfl
    · cases k
  | negSucc n =>
    rw [if_pos (Int.negSucc_lt_zero n)]
    rcases dig10_eq 20 (n + 1) [] (by have h0 : _ ≤ Int.negSucc n := h0; rw [Int.negSucc_eq] at h0; omega) with k | k
    · show 45 :: dig10 20 (n + 1) [] = _
      rw [k, List.append_nil]
      rfl
    · cases k
def hand_istrconv_FormatInt (_N : Nat) (x : Int × Int) : Option (List UInt8) := grd (ieq x.2 10) (grd (ile (-9223372036854775808) x.1) (grd (ile x.1 9223372036854775807) (some (itoa10 x.1))))
/-- a function's contract from its run -/
theorem conOf {E : Env} (hE : EnvOk E) {tab : List Con} {N f : Nat} {fn : Func} {an : Ann} {ps : List PK} {rs : List Kd} {m : Vec (kTys (kdP ps)) → Option (Vec (kTys (app rs (kdB ps))))}
    (hx : execF E tab N fn an ps rs = m) (h : AllOk E tab) (hf : E.P.funcs[f]? = some fn) (hn : (fn.name == "runtime.NumGoroutine") = false) : ConOk E ⟨f, ps, rs, m⟩ := by
  have hc : CallsOk E tab := callsOk_all h
  rw [← hx]
  exact execF_ok hE hc (drawn_ok hE hc) hf hn _ _ _
end Go.W
end

section
/-
  Arguments of a law, opened to plain values; a law that has returned true. No program in it.
-/
namespace Go.W
open Go Go.RowKit Go.WideShapes Go.ChangeShapes Go.Deep

/-- the ranges of the numbers in a value, the lengths -/
def OkV : (T : Ty) → T.den → Prop
  | .int k, x => (Lit.int k x).wf = true
  | .str, s => List.length s ≤ maxLen
  | .slice t, xs => List.length xs ≤ maxLen ∧ ∀ x ∈ (xs : List t.den), OkV t x
  | .arr _ t, xs => ∀ x ∈ (xs : List t.den), OkV t x
  | .pair a b, x => OkV a x.1 ∧ OkV b x.2
  | .st t, x => OkV t x
  | _, _ => True

/-- no pointers, no interfaces -/
def Ty.plain : Ty → Bool
  | .slice t | .arr _ t | .st t => t.plain
  | .pair a b => a.plain && b.plain
  | .nptr | .nif => false
  | _ => true

/-- all that lies in the memory now -/
def kOf (w : World) : Kn := fun b o => match w.heap[b]? with
  | some (.cells cs _ _) => if o = cs.size then some (.tuple #[]) else match cs[o]? with
    | some v => if v.oneCell' = true then some v else none
    | none => none
  | _ => none
theorem kOf_spot {w : World} {a : Addr} {v : Value} (h : w.cell? a = some v) : a.spot = none := by
  unfold World.cell? at h
  split at h
  · split at h
    · cases h
    · rename_i hs; simpa using hs
  · cases h
theorem kOf_cell {w : World} {a : Addr} {v : Value} (h : w.cell? a = some v) (hv : v.oneCell' = true) : a.spot = none ∧ kOf w a.block a.off = some v := by
  refine ⟨kOf_spot h, ?_⟩
  unfold World.cell? at h
  split at h
  · rename_i cs e fz hb
    split at h
    · cases h
    · have hlt := (Array.getElem?_eq_some_iff.1 h).1
      unfold kOf
      rw [hb]
      simp only
      rw [if_neg (by omega), h]
      simp only
      rw [if_pos hv]
  · cases h
theorem kOf_end {w : World} {b : Nat} {cs : Array Value} {e : TypeId} {fz : Nat × Nat} (h : w.heap[b]? = some (.cells cs e fz)) : kOf w b cs.size = some (.tuple #[]) := by
  unfold kOf
  rw [h]
  exact if_pos rfl
theorem kOf_ok (w : World) : KOk (kOf w) w := fun b o v h => by
  unfold kOf at h
  split at h
  · rename_i cs e fz hb
    split at h
    · rename_i ho
      injection h with h
      subst h
      exact ⟨cs, e, fz, hb, fun hv => (by cases hv), fun _ => ho⟩
    · split at h
      · rename_i u hu
        split at h
        · rename_i hv
          injection h with h
          subst h
          exact ⟨cs, e, fz, hb, fun _ => hu, fun hm => (by subst hm; cases hv)⟩
        · cases h
      · cases h
  · cases h

theorem repL_chunks {α : Type} {R : α → List Value → Prop} {sz : Nat} : ∀ (n : Nat) {Q : Nat → α → Prop} {es : List Value}, es.length = n * sz → (∀ i, i < n → ∃ a, R a ((es.drop (i * sz)).take sz) ∧ Q i a) → ∃ xs : List α, xs.length = n ∧ RepL R xs es ∧ ∀ i x, xs[i]? = some x → Q i x
  | 0, Q, es, hl, _ => ⟨[], rfl, List.eq_nil_of_length_eq_zero (by simpa using hl), fun i x hx => by simp at hx⟩
  | n + 1, Q, es, hl, h => by
    obtain ⟨a, ha, hq⟩ := h 0 (Nat.succ_pos n)
    rw [Nat.zero_mul, List.drop_zero] at ha
    obtain ⟨xs, x1, x2, x3⟩ := repL_chunks (R := R) (sz := sz) n (Q := fun i => Q (i + 1)) (es := es.drop sz) (by rw [List.length_drop, hl, Nat.add_mul]; omega) (fun i hi => by
      obtain ⟨b, hb, hq⟩ := h (i + 1) (by omega)
      refine ⟨b, ?_, hq⟩
      rw [List.drop_drop]
      rw [Nat.add_mul, Nat.one_mul, Nat.add_comm] at hb
      exact hb)
    exact ⟨a :: xs, by simp [x1], ⟨_, _, (List.take_append_drop sz es).symm, ha, x2⟩, fun i x hx => by
      cases i with
      | zero => simp at hx; subst hx; exact hq
      | succ i => exact x3 i x (by simpa using hx)⟩

/-! ### how much there is -/
def bkL {α : Type} (f : α → Nat) : List α → Nat
  | [] => 0
  | x :: r => f x + bkL f r
/-- so many values and letters -/
def bkV : (T : Ty) → T.den → Nat
  | .str, s => List.length s + 1
  | .slice t, xs => bkL (bkV t) xs + 1
  | .arr _ t, xs => bkL (bkV t) xs
  | .unit, _ => 0
  | .pair a b, x => bkV a x.1 + bkV b x.2
  | .st t, x => bkV t x
  | _, _ => 1
/-- a measure of what is read -/
structure Bk (H : Type) where
  b : DataW H → Nat
  all : List (DataW H) → Nat
  str : ∀ s, b (.lit (.string s)) = s.length + 1
  one : ∀ d, 1 ≤ b d
  sl : ∀ l r, all l + 1 ≤ b (.slice l r)
  ag : ∀ l, all l ≤ b (.agg l)
  nil : all [] = 0
  cons : ∀ d r, all (d :: r) = b d + all r
theorem Bk.sum {H α : Type} (B : Bk H) {f : α → Nat} : ∀ (xs : List α) (ds : List (DataW H)), xs.length = ds.length → (∀ (i : Nat) (x : α) (d : DataW H), xs[i]? = some x → ds[i]? = some d → f x ≤ B.b d) → bkL f xs ≤ B.all ds
  | [], ds, _, _ => Nat.zero_le _
  | x :: xs, [], h, _ => by cases h
  | x :: xs, d :: ds, h, hi => by
    have h1 := hi 0 x d rfl rfl
    have h2 := B.sum (f := f) xs ds (by simpa using h) fun i y e hy he => hi (i + 1) y e (by simpa using hy) (by simpa using he)
    rw [B.cons]
    simp only [bkL]
    omega

section
variable {H : Type} (B : Bk H) {enc : TypeId × Value → H} {E : Env} {w : World} {base : Nat} {spare : Nat → Bool} {held : Bool}
theorem cellsOf_ok (hE : EnvOk E) {t : TypeId} {T : Ty} (ht : E.t t = some T) : E.P.cellsOf t = T.size := by
  obtain ⟨i, z, h1, h2, _⟩ := hE.info ht
  unfold Program.cellsOf
  rw [h1]
  exact h2
/-- what can be read of a type is a plain value -/
def Op1 (B : Bk H) (enc : TypeId × Value → H) (E : Env) (w : World) (base : Nat) (spare : Nat → Bool) (held : Bool) (T : Ty) : Prop :=
  ∀ (t : TypeId) (fuel : Nat) (cs : List Value) (x : DataW H × List MemPlace), E.t t = some T → DataW.trod enc E.P w base spare held fuel t cs = some x → ∃ a : T.den, RepC (kOf w) T a cs ∧ OkV T a ∧ bkV T a ≤ B.b x.1
/-- fields -/
def Op2 (B : Bk H) (enc : TypeId × Value → H) (E : Env) (w : World) (base : Nat) (spare : Nat → Bool) (held : Bool) (U : Ty) : Prop :=
  ∀ (fs : List Field) (off n : Nat) (cs : List Value) (ys : List (DataW H × List MemPlace)), fldOk E fs off U = true → off + U.size ≤ cs.length → ys.length = fs.length → (∀ (i : Nat) (f : Field), fs[i]? = some f → DataW.trod enc E.P w base spare held n f.type ((cs.drop f.offset).take (E.P.cellsOf f.type)) = ys[i]?) →
    ∃ a : U.den, RepC (kOf w) U a ((cs.drop off).take U.size) ∧ OkV U a ∧ bkV U a ≤ B.all (ys.map (·.1))
theorem op2_of (hE : EnvOk E) {U : Ty} (h : Op1 B enc E w base spare held U) (hp : U.isPair = false) : Op2 B enc E w base spare held U := by
  intro fs off n cs ys hf hl hyl hr
  match fs, hf with
  | [], hf => cases hf
  | [f], hf =>
    simp only [fldOk, Bool.and_eq_true] at hf
    obtain ⟨⟨⟨h1, h2⟩, _⟩, _⟩ := hf
    have h1 := Nat.eq_of_beq_eq_true h1
    have ht := tyIs_eq h2
    match ys, hyl with
    | [y], _ =>
      have hy := hr 0 f rfl
      rw [h1, cellsOf_ok hE ht] at hy
      obtain ⟨a, r1, r2, r3⟩ := h f.type n _ y ht hy
      refine ⟨a, r1, r2, ?_⟩
      simp only [List.map_cons, List.map_nil, B.cons, B.nil]
      omega
  | f :: g :: r, hf =>
    cases U with
    | pair a b => cases hp
    | _ => cases hf
theorem opens_both (hE : EnvOk E) (T : Ty) (hpl : T.plain = true) : Op1 B enc E w base spare held T ∧ Op2 B enc E w base spare held T := by
  induction T with
  | int k =>
    have h : Op1 B enc E w base spare held (.int k) := fun t fuel cs x ht hr => by
      obtain ⟨z, h1, _, hwf⟩ := DataW.trod_int (hE.und ht).1 hr
      exact ⟨z, h1, hwf, B.one _⟩
    exact ⟨h, op2_of B hE h rfl⟩
  | u8 =>
    have h : Op1 B enc E w base spare held .u8 := fun t fuel cs x ht hr => by
      obtain ⟨z, h1, _, hwf⟩ := DataW.trod_int (hE.und ht) hr
      have hz : 0 ≤ z ∧ z ≤ 255 := by simpa [Lit.wf, IntKind.min, IntKind.max, IntKind.signed, IntKind.bits] using hwf
      refine ⟨b8 z, ?_, trivial, B.one _⟩
      show cs = [.int .u8 (n8 (b8 z))]
      rw [h1]
      congr 2
      unfold n8 b8
      rw [UInt8.toNat_ofNat']
      omega
    exact ⟨h, op2_of B hE h rfl⟩
  | bool =>
    have h : Op1 B enc E w base spare held .bool := fun t fuel cs x ht hr => by
      obtain ⟨z, h1, _⟩ := DataW.trod_bool (hE.und ht) hr
      exact ⟨z, h1, trivial, B.one _⟩
    exact ⟨h, op2_of B hE h rfl⟩
  | str =>
    have h : Op1 B enc E w base spare held .str := fun t fuel cs x ht hr => by
      obtain ⟨s, h1, hx, hs⟩ := DataW.trod_string (hE.und ht) hr
      refine ⟨s.data.toList, ?_, ?_, by rw [hx, B.str]; exact Nat.le_refl _⟩
      · show cs = [.string (bst s.data.toList)]
        rw [h1]
        rfl
      · show s.data.toList.length ≤ maxLen
        have : s.data.toList.length = s.size := Array.length_toList
        omega
    exact ⟨h, op2_of B hE h rfl⟩
  | slice T ih =>
    have ih := ih hpl
    have h : Op1 B enc E w base spare held (.slice T) := fun t fuel cs x ht hr => by
      obtain ⟨te, hu, he⟩ := hE.und ht
      have hc := cellsOf_ok hE he
      have hpos : 0 < T.size := by obtain ⟨_, _, _, _, _, _, hpos, _⟩ := hE.info he; exact hpos
      rcases DataW.trod_slice hu hr with ⟨rfl, _⟩ | ⟨a, len, cap, elems, rest, n, rfl, rfl, hxx, hb, hl, hm, hel, hi, _⟩
      · exact ⟨[], ⟨none, 0, rfl, Nat.le_refl _, Nat.zero_le _, [], rfl, .inl rfl⟩, ⟨Nat.zero_le _, fun x hx => by cases hx⟩, B.one _⟩
      · rw [hc] at hi
        have hcell : ∀ j, j < len * T.size → ∃ v, w.cell? (a.add j) = some v := fun j hj => by
          have hq : j / T.size < len := (Nat.div_lt_iff_lt_mul hpos).2 hj
          have h1 := hi (j / T.size) hq
          rw [List.getElem?_eq_getElem (by omega)] at h1
          cases hcs : w.cells? base (a.add (j / T.size * T.size)) T.size with
          | none => rw [hcs] at h1; cases h1
          | some c =>
            obtain ⟨_, c2, c3⟩ := World.cells?_some hcs
            have := c3 (j % T.size) (Nat.mod_lt _ hpos)
            rw [add_add, Nat.div_add_mod'] at this
            rw [this]
            exact ⟨_, List.getElem?_eq_getElem (by rw [c2]; exact Nat.mod_lt _ hpos)⟩
        let es := (List.range (len * T.size)).map fun j => (w.cell? (a.add j)).getD undef
        have hes : ∀ j v, es[j]? = some v → w.cell? (a.add j) = some v := fun j v hv => by
          have hj : j < len * T.size := by have := (List.getElem?_eq_some_iff.1 hv).1; simpa [es] using this
          obtain ⟨u, hu⟩ := hcell j hj
          simp only [es, List.getElem?_map, List.getElem?_range hj, Option.map_some, hu, Option.getD_some, Option.some.injEq] at hv
          rw [hu, hv]
        obtain ⟨xs, x1, x2, x3⟩ := repL_chunks (R := RepC (kOf w) T) (Q := fun i x => OkV T x ∧ ∀ y, elems[i]? = some y → bkV T x ≤ B.b y.1) (sz := T.size) len (es := es) (by simp [es]) (fun i hil => by
          have h1 := hi i hil
          rw [List.getElem?_eq_getElem (by omega)] at h1
          cases hcs : w.cells? base (a.add (i * T.size)) T.size with
          | none => rw [hcs] at h1; cases h1
          | some c =>
            rw [hcs] at h1
            obtain ⟨v, hv, hq, hbk⟩ := ih.1 te n c _ he h1
            obtain ⟨_, c2, c3⟩ := World.cells?_some hcs
            have : (es.drop (i * T.size)).take T.size = c := by
              apply List.ext_getElem?
              intro r
              rw [List.getElem?_take]
              split
              · rename_i hr
                rw [List.getElem?_drop]
                have hlt : i * T.size + r < len * T.size := by
                  have : (i + 1) * T.size ≤ len * T.size := Nat.mul_le_mul_right _ hil
                  rw [Nat.add_mul] at this
                  omega
                have := c3 r hr
                rw [add_add] at this
                simp only [es, List.getElem?_map, List.getElem?_range hlt, Option.map_some]
                rw [this, List.getElem?_eq_getElem (by omega)]
                rfl
              · rename_i hr
                rw [List.getElem?_eq_none (by omega)]
            exact ⟨v, by rw [this]; exact hv, hq, fun y hy => by rw [List.getElem?_eq_getElem (by omega)] at hy; injection hy with hy; rw [← hy]; exact hbk⟩)
        refine ⟨xs, ⟨some a, cap, by show _ = [Value.slice _ (List.length xs) cap]; rw [x1], by show List.length xs ≤ cap; omega, hm, es, x2, ?_⟩, ⟨by show List.length xs ≤ maxLen; omega, fun x hx => by obtain ⟨i, hi⟩ := List.mem_iff_getElem?.1 hx; exact (x3 i x hi).1⟩, ?_⟩
        by_cases h0 : len * T.size = 0
        · left; apply List.eq_nil_of_length_eq_zero; simpa [es] using h0
        · right
          obtain ⟨v0, hv0⟩ := hcell 0 (by omega)
          have hs : a.spot = none := by
            have := kOf_spot hv0
            simpa [Addr.add] using this
          refine ⟨a, rfl, hs, fun j v hv => ?_⟩
          have := (kOf_cell (hes j v hv) (RepL_all (fun v => v.oneCell' = true) (fun x cs h => RepC_one h) x2 v (List.mem_of_getElem? hv))).2
          rw [add_parts hs] at this
          exact this
        · have h1 := B.sl (elems.map (·.1)) (rest.map (·.1))
          have h2 := B.sum (f := bkV T) xs (elems.map (·.1)) (by rw [List.length_map]; omega) fun i x d hx hd => by
            rw [List.getElem?_map] at hd
            obtain ⟨y, hy, hyd⟩ := Option.map_eq_some_iff.1 hd
            rw [← hyd]
            exact (x3 i x hx).2 y hy
          rw [hxx]
          show bkL (bkV T) xs + 1 ≤ _
          exact Nat.le_trans (Nat.succ_le_succ h2) h1
    exact ⟨h, op2_of B hE h rfl⟩
  | arr n T ih =>
    have ih := ih hpl
    have h : Op1 B enc E w base spare held (.arr n T) := fun t fuel cs x ht hr => by
      obtain ⟨te, hu, he, _⟩ := hE.und ht
      have hc := cellsOf_ok hE he
      obtain ⟨xs, m, _, hxx, hl, hxl, hf⟩ := DataW.trod_array hu hr
      rw [cellsOf_ok hE ht] at hl
      rw [hc] at hf
      obtain ⟨ys, y1, y2, y3⟩ := repL_chunks (R := RepC (kOf w) T) (Q := fun i x => OkV T x ∧ ∀ y, xs[i]? = some y → bkV T x ≤ B.b y.1) (sz := T.size) n (es := cs) hl (fun i hi => by
        have h1 := hf i hi
        rw [List.getElem?_eq_getElem (by omega)] at h1
        obtain ⟨v, hv, hq, hbk⟩ := ih.1 te m _ _ he h1
        exact ⟨v, hv, hq, fun y hy => by rw [List.getElem?_eq_getElem (by omega)] at hy; injection hy with hy; rw [← hy]; exact hbk⟩)
      refine ⟨ys, ⟨y1, y2⟩, fun x hx => ?_, ?_⟩
      · obtain ⟨i, hi⟩ := List.mem_iff_getElem?.1 hx; exact (y3 i x hi).1
      · rw [hxx]
        refine Nat.le_trans (B.sum (f := bkV T) ys (xs.map (·.1)) (by rw [List.length_map]; omega) fun i x d hx hd => ?_) (B.ag _)
        rw [List.getElem?_map] at hd
        obtain ⟨y, hy, hyd⟩ := Option.map_eq_some_iff.1 hd
        rw [← hyd]
        exact (y3 i x hx).2 y hy
    exact ⟨h, op2_of B hE h rfl⟩
  | unit => exact ⟨fun t fuel cs x ht hr => (hE.und ht).elim, op2_of B hE (fun t fuel cs x ht hr => (hE.und ht).elim) rfl⟩
  | pair a b iha ihb =>
    simp only [Ty.plain, Bool.and_eq_true] at hpl
    have iha := iha hpl.1
    have ihb := ihb hpl.2
    refine ⟨fun t fuel cs x ht hr => (hE.und ht).elim, ?_⟩
    intro fs off n cs ys hf hl hyl hr
    match fs, hf with
    | [], hf => cases hf
    | [f], hf => simp [fldOk, Ty.isPair] at hf
    | f :: g :: r, hf =>
      simp only [fldOk, Bool.and_eq_true] at hf
      obtain ⟨⟨⟨h1, h2⟩, _⟩, h4⟩ := hf
      have h1 := Nat.eq_of_beq_eq_true h1
      have ht := tyIs_eq h2
      match ys, hyl with
      | y :: ys, hyl =>
      have hy := hr 0 f rfl
      rw [h1, cellsOf_ok hE ht] at hy
      obtain ⟨va, r1, q1, b1⟩ := iha.1 f.type n _ y ht hy
      have hsz : (Ty.pair a b).size = a.size + b.size := rfl
      rw [hsz] at hl ⊢
      obtain ⟨vb, r2, q2, b2⟩ := ihb.2 (g :: r) (off + a.size) n cs ys h4 (by omega) (by simpa using hyl) (fun i f' hf' => by simpa using hr (i + 1) f' (by simpa using hf'))
      refine ⟨(va, vb), ⟨_, _, ?_, r1, r2⟩, ⟨q1, q2⟩, ?_⟩
      · rw [List.take_add, List.drop_drop]
      · rw [List.map_cons, B.cons]
        show bkV a va + bkV b vb ≤ _
        omega
  | st U ih =>
    have ih := ih hpl
    have h : Op1 B enc E w base spare held (.st U) := fun t fuel cs x ht hr => by
      obtain ⟨fs, hu, hf, _⟩ := hE.und ht
      obtain ⟨xs, n, _, hxx, hl, hxl, hff⟩ := DataW.trod_struct hu hr
      rw [cellsOf_ok hE ht] at hl
      have hl : cs.length = U.size := hl
      obtain ⟨a, r1, q1, b1⟩ := ih.2 fs.toList 0 n cs xs hf (by omega) (by rw [hxl, Array.length_toList]) (fun i f hfi => hff i f (by simpa using hfi))
      refine ⟨a, ?_, q1, by rw [hxx]; exact Nat.le_trans b1 (B.ag _)⟩
      rw [List.drop_zero, List.take_of_length_le (by omega)] at r1
      exact r1
    exact ⟨h, op2_of B hE h rfl⟩
  | nptr => cases hpl
  | nif => cases hpl

/-! ### arguments of a law: values alone -/
def psOf : List Ty → List PK
  | [] => []
  | T :: Ts => .k (.v T []) :: psOf Ts
def OkVec : (Ts : List Ty) → Vec (kTys (kdP (psOf Ts))) → Prop
  | [], _ => True
  | T :: Ts, x => OkV T (vhd T (kTys (kdP (psOf Ts))) x) ∧ OkVec Ts (vtl T (kTys (kdP (psOf Ts))) x)
def bkVec : (Ts : List Ty) → Vec (kTys (kdP (psOf Ts))) → Nat
  | [], _ => 0
  | T :: Ts, x => bkV T (vhd T (kTys (kdP (psOf Ts))) x) + bkVec Ts (vtl T (kTys (kdP (psOf Ts))) x)
theorem vhd_vcons : ∀ (t : Ty) (ts : List Ty) (x : t.den) (v : Vec ts), vhd t ts (vcons t ts x v) = x
  | _, [], _, _ => rfl
  | _, _ :: _, _, _ => rfl
theorem vtl_vcons : ∀ (t : Ty) (ts : List Ty) (x : t.den) (v : Vec ts), vtl t ts (vcons t ts x v) = v
  | _, [], _, _ => rfl
  | _, _ :: _, _, _ => rfl
theorem psOf_len : ∀ Ts : List Ty, (psOf Ts).length = Ts.length
  | [] => rfl
  | _ :: Ts => by simp only [psOf, List.length_cons, psOf_len Ts]
theorem unmask_nil (tk : Nat) : ∀ (cs : List Cell) (i n : Nat), unmask [] tk i n cs = (cs, [])
  | [], _, _ => rfl
  | c :: cs, i, n => by simp only [unmask, memN, unmask_nil tk cs]
theorem unpackV_nil (T : Ty) (tk n : Nat) (x : T.den) : unpackV T [] tk n x = (valOf T x, []) := by
  unfold unpackV valOf
  rw [unmask_nil]
  cases T.agg <;> cases cellsOf T x <;> rfl
theorem valOf_of {γ : Ghs} {K : Kn} {T : Ty} {x : T.den} {V : Value} {cs : List Value} (h : RepC K T x cs) (hag : T.agg = true → V = .agg cs.toArray) (hno : T.agg = false → cs = [V]) : RepV γ K (valOf T x) V := by
  have hr := cellsOf_rep (γ := γ) h
  unfold valOf
  cases ha : T.agg with
  | true =>
    have : V = .agg cs.toArray := hag ha
    subst this
    exact ⟨cs, rfl, hr⟩
  | false =>
    have := hno ha
    subst this
    cases hc : cellsOf T x with
    | nil => rw [hc] at hr; cases hr
    | cons c r =>
      rw [hc] at hr
      obtain ⟨v, rr, e, h1, _⟩ := hr
      injection e with e1 e2
      subst e1
      exact h1
theorem arg_open (hE : EnvOk E) {T : Ty} (hpl : T.plain = true) (hna : ∀ n U, T ≠ .arr n U) {t : TypeId} {r : Reach} {b0 : Nat} {v : Value} {d : DataW H} {ps : List MemPlace} (ht : E.t t = some T) (hv : Value.okWide E.P w r b0 t v) (h : DataW.Trod enc E.P w base spare held t v d ps) :
    ∃ a : T.den, (∀ γ, RepV γ (kOf w) (valOf T a) v) ∧ OkV T a ∧ bkV T a ≤ B.b d := by
  obtain ⟨fuel, hf⟩ := h
  obtain ⟨a, h1, h2, h3⟩ := (opens_both B hE T hpl).1 t fuel _ _ ht hf
  refine ⟨a, fun γ => valOf_of h1 (fun ha => ?_) (fun ha => ?_), h2, h3⟩
  · cases T with
    | st U =>
      obtain ⟨fs, hu, _⟩ := hE.und ht
      obtain ⟨cs, rfl, _⟩ := okWide_struct hu hv
      simp [Value.cells]
    | arr n U => exact absurd rfl (hna n U)
    | _ => cases ha
  · cases T with
    | int k => obtain ⟨n, rfl⟩ := okWide_int (hE.und ht).1 hv; rfl
    | u8 => obtain ⟨n, rfl⟩ := okWide_int (hE.und ht) hv; rfl
    | bool => obtain ⟨n, rfl⟩ := okWide_bool (hE.und ht) hv; rfl
    | str => obtain ⟨n, rfl⟩ := okWide_string (hE.und ht) hv; rfl
    | slice U => obtain ⟨te, hu, _⟩ := hE.und ht; obtain ⟨_, _, _, rfl⟩ := okWide_slice hu hv; rfl
    | unit => exact (hE.und ht).elim
    | pair a b => exact (hE.und ht).elim
    | nptr => cases hpl
    | nif => cases hpl
    | _ => cases ha
def notArr : Ty → Bool
  | .arr _ _ => false
  | _ => true
theorem args_open (hE : EnvOk E) {r : Reach} {b0 : Nat} : ∀ (Ts : List Ty) (ts : List TypeId) (vs : List Value) (ds : List (DataW H)) (ps : List MemPlace), (∀ T ∈ Ts, T.plain = true ∧ notArr T = true) → ts.map E.t = Ts.map some → (∀ (j : Nat) t v, ts[j]? = some t → vs[j]? = some v → Value.okWide E.P w r b0 t v) → DataW.TrodAll enc E.P w base spare held ts vs ds ps →
    ∃ x : Vec (kTys (kdP (psOf Ts))), OkVec Ts x ∧ bkVec Ts x ≤ B.all ds ∧ vs.length = Ts.length ∧ (unpackG 1 (kdP (psOf Ts)) 0 x).2 = [] ∧ ∀ i0 b, (inP (psOf Ts) (unpackG 1 (kdP (psOf Ts)) 0 x).1 i0 b).2 = [] ∧
      ∀ y v sv, lk (inP (psOf Ts) (unpackG 1 (kdP (psOf Ts)) 0 x).1 i0 b).1 y = some (v, sv) → v = 0 ∧ i0 ≤ y ∧ ∀ γ, RepSV γ (kOf w) sv (vs.getD (y - i0) undef)
  | [], ts, vs, ds, ps, _, hts, _, h => by
    cases ts with
    | cons _ _ => simp at hts
    | nil =>
      cases vs with
      | cons _ _ => cases ds <;> exact h.elim
      | nil => exact ⟨(), trivial, Nat.zero_le _, rfl, rfl, fun i0 b => ⟨rfl, fun y v sv hy => by cases hy⟩⟩
  | T :: Ts, ts, vs, ds, ps, hT, hts, hok, h => by
    cases ts with
    | nil => simp at hts
    | cons t ts =>
      simp only [List.map_cons, List.cons.injEq] at hts
      cases vs with
      | nil => cases ds <;> exact h.elim
      | cons v vs =>
        cases ds with
        | nil => exact h.elim
        | cons d ds =>
          obtain ⟨p, q, h1, h2, rfl⟩ := h
          obtain ⟨a, ha, hq, hb⟩ := arg_open B hE (hT T List.mem_cons_self).1 (fun n U e => by have := (hT T List.mem_cons_self).2; subst e; cases this) hts.1 (hok 0 t v rfl rfl) h1
          obtain ⟨x, x1, x0, x2, x3, x4⟩ := args_open hE Ts ts vs ds q (fun U hU => hT U (List.mem_cons_of_mem _ hU)) hts.2 (fun j t' v' e1 e2 => hok (j + 1) t' v' e1 e2) h2
          have hu : unpackG 1 (kdP (psOf (T :: Ts))) 0 (vcons T (kTys (kdP (psOf Ts))) a x) = (.val (valOf T a) :: (unpackG 1 (kdP (psOf Ts)) 0 x).1, []) := by
            show (match unpackK 1 0 (.v T []) (vhd T (kTys (kdP (psOf Ts))) (vcons T (kTys (kdP (psOf Ts))) a x)) with
              | (p, os) => match unpackG 1 (kdP (psOf Ts)) (0 + lng os) (vtl T (kTys (kdP (psOf Ts))) (vcons T (kTys (kdP (psOf Ts))) a x)) with
                | (ps, os') => (p :: ps, app os os')) = _
            rw [vhd_vcons, vtl_vcons]
            simp only [unpackK, unpackV_nil, lng, Nat.add_zero]
            rw [show unpackG 1 (kdP (psOf Ts)) 0 x = ((unpackG 1 (kdP (psOf Ts)) 0 x).1, (unpackG 1 (kdP (psOf Ts)) 0 x).2) from rfl, x3]
            rfl
          refine ⟨vcons T _ a x, ⟨by rw [vhd_vcons]; exact hq, by rw [vtl_vcons]; exact x1⟩, by simp only [bkVec, vhd_vcons, vtl_vcons, B.cons]; omega, by simp [x2], by rw [hu], fun i0 b => ?_⟩
          rw [hu]
          obtain ⟨y1, y2⟩ := x4 (i0 + 1) b
          refine ⟨y1, fun y v' sv hy => ?_⟩
          have hy : lk ((i0, 0, .val (valOf T a)) :: (inP (psOf Ts) (unpackG 1 (kdP (psOf Ts)) 0 x).1 (i0 + 1) b).1) y = some (v', sv) := hy
          by_cases hb : y = i0
          · subst hb
            have hy : some (0, SV.val (valOf T a)) = some (v', sv) := by
              rw [← hy]
              simp only [lk]
              rw [show Nat.beq y y = true by simp]
              rfl
            simp only [Option.some.injEq, Prod.mk.injEq] at hy
            obtain ⟨e1, e2⟩ := hy
            subst e1
            subst e2
            exact ⟨rfl, Nat.le_refl _, fun γ => by rw [Nat.sub_self]; exact ha γ⟩
          · have hbq : Nat.beq i0 y = false := by
              cases hq : Nat.beq i0 y with
              | false => rfl
              | true => exact absurd (Nat.eq_of_beq_eq_true hq).symm hb
            have hy : lk (inP (psOf Ts) (unpackG 1 (kdP (psOf Ts)) 0 x).1 (i0 + 1) b).1 y = some (v', sv) := by
              rw [← hy]
              conv => rhs; unfold lk
              rw [hbq]
              rfl
            obtain ⟨z1, z2, z3⟩ := y2 y v' sv hy
            refine ⟨z1, by omega, fun γ => ?_⟩
            have := z3 γ
            rw [show y - i0 = (y - (i0 + 1)) + 1 by omega]
            simpa using this

/-! ### a law is called -/
theorem law_call (_hE : EnvOk E) {f : Nat} {Ts : List Ty} {fn : Vec (kTys (kdP (psOf Ts))) → Option (Vec (kTys (app [.v .bool []] (kdB (psOf Ts)))))} (hc : ConOk E ⟨f, psOf Ts, [.v .bool []], fn⟩) {x : Vec (kTys (kdP (psOf Ts)))} {r : Vec (kTys (app [.v .bool []] (kdB (psOf Ts))))} (hx : fn x = some r)
    {vs : List Value} (hlen : vs.length = Ts.length) (h1 : (unpackG 1 (kdP (psOf Ts)) 0 x).2 = []) (h2 : ∀ i0 b, (inP (psOf Ts) (unpackG 1 (kdP (psOf Ts)) 0 x).1 i0 b).2 = [] ∧
      ∀ y v sv, lk (inP (psOf Ts) (unpackG 1 (kdP (psOf Ts)) 0 x).1 i0 b).1 y = some (v, sv) → v = 0 ∧ i0 ≤ y ∧ ∀ γ, RepSV γ (kOf w) sv (vs.getD (y - i0) undef)) (hg : GlobOk E (kOf w))
    (hnv : (callFunc f vs.toArray).run E.P w = .ok (.enter f vs.toArray) w) :
    Calls E.P f vs.toArray w fun e w' => ∃ V, e = .returned V ∧ Below w.heap.size w w' ∧ ∃ γ K, RepSV γ K (oneV (valsP [.v .bool []] (unpackG 1 (app [.v .bool []] (kdB (psOf Ts))) 0 r).1)) V := by
  have hpl := psOf_len Ts
  have hob : (start (psOf Ts) x).ob = [] := by
    unfold start
    rw [show unpackG 1 (kdP (psOf Ts)) 0 x = ((unpackG 1 (kdP (psOf Ts)) 0 x).1, (unpackG 1 (kdP (psOf Ts)) 0 x).2) from rfl, h1]
    have := (h2 0 (1 + lng ([] : List Ob))).1
    simp only
    rw [show inP (psOf Ts) (unpackG 1 (kdP (psOf Ts)) 0 x).1 0 (1 + lng ([] : List Ob)) = ((inP (psOf Ts) (unpackG 1 (kdP (psOf Ts)) 0 x).1 0 (1 + lng ([] : List Ob))).1, (inP (psOf Ts) (unpackG 1 (kdP (psOf Ts)) 0 x).1 0 (1 + lng ([] : List Ob))).2) from rfl, this]
    rfl
  have hsl : (start (psOf Ts) x).sl = (inP (psOf Ts) (unpackG 1 (kdP (psOf Ts)) 0 x).1 0 (1 + lng ([] : List Ob))).1 := by
    unfold start
    rw [show unpackG 1 (kdP (psOf Ts)) 0 x = ((unpackG 1 (kdP (psOf Ts)) 0 x).1, (unpackG 1 (kdP (psOf Ts)) 0 x).2) from rfl, h1]
  have hobs : ∀ j, obs (start (psOf Ts) x) j = none := fun j => by
    unfold obs
    rw [hob]
    rfl
  have hEnt : Ent E (psOf Ts) x w (kOf w) (fun _ => False) (fun _ => none) vs.toArray := by
    refine ⟨by simp [hlen, hpl], fun y v sv hy => ?_, ?_, hg, fun j g hg => (by cases hg), fun j e hj => (by rw [hob] at hj; cases hj)⟩
    · rw [hsl] at hy
      obtain ⟨z1, _, z3⟩ := (h2 0 _).2 y v sv hy
      refine ⟨z1, ?_⟩
      have := z3 (fun _ => none)
      rw [Nat.sub_zero] at this
      simpa using this
    · exact ⟨rfl, rfl, rfl, Nat.le_refl _, fun b _ _ => ⟨rfl, fun _ => rfl⟩, Kn.le.refl _, kOf_ok w, fun j o g hj => (by rw [hobs] at hj; cases hj), fun j o g hj => (by rw [hobs] at hj; cases hj), fun i j p q g g' hi => (by rw [hobs] at hi; cases hi)⟩
  rcases hc x r hx w (kOf w) _ _ vs.toArray hEnt with ⟨v, w', e1, _⟩ | ⟨_, h⟩
  · rw [hnv] at e1; cases e1
  · refine h.mono fun e w' he => ?_
    cases e with
    | returned V =>
      obtain ⟨γf, obF, Kf, gs, js, q1, q2, _, _, q5⟩ := he 1 Nat.one_pos
      refine ⟨V, rfl, ⟨q1.os, q1.tape, q1.output, q1.size, fun b hb => (q1.blk b hb (fun h => h)).1⟩, fun j => gs[j - 1]?, Kf, q5 _ fun k g hk => ?_⟩
      show gs[1 + (0 + k) - 1]? = some g
      rw [show 1 + (0 + k) - 1 = k by omega]
      exact hk
    | panicked ch => exact he.elim
    | outgrown => exact he.elim

theorem trodAll_len {P : Program} {W : World} : ∀ {ts : List TypeId} {vs : List Value} {ds : List (DataW H)} {ps : List MemPlace}, DataW.TrodAll enc P W base spare held ts vs ds ps → ds.length = ts.length
  | [], [], [], _, _ => rfl
  | _ :: _, _ :: _, _ :: _, _, ⟨_, _, _, h, _⟩ => by simp [trodAll_len h]
  | [], [], _ :: _, _, h => h.elim
  | [], _ :: _, _, _, h => h.elim
  | _ :: _, [], _, _, h => h.elim
  | _ :: _, _ :: _, [], _, h => h.elim
theorem trodAll_stays {P : Program} (hl : laidOutB P = true) {W W' : World} (hb : Below W.heap.size W W') : ∀ {ts : List TypeId} {vs : List Value} {ds : List (DataW H)} {ps : List MemPlace}, DataW.TrodAll enc P W 0 (fun _ => true) true ts vs ds ps →
    (∀ t ∈ ts, P.readableRec t = true ∧ t < P.types.size) → (∀ x ∈ ps, x.block < W.heap.size) → DataW.TrodAll enc P W' 0 (fun b => decide (b < W.heap.size)) true ts vs ds ps
  | [], [], [], _, h, _, _ => h
  | t :: _, _ :: _, _ :: _, _, ⟨p, q, h1, h2, rfl⟩, hr, hlt =>
    ⟨p, q, Below.trod hl (hr t (List.mem_cons_self ..)).1 (hr t (List.mem_cons_self ..)).2 h1 hb (fun x hx => hlt x (List.mem_append_left _ hx)),
      trodAll_stays hl hb h2 (fun t' ht' => hr t' (List.mem_cons_of_mem _ ht')) (fun x hx => hlt x (List.mem_append_right _ hx)), rfl⟩
  | [], [], _ :: _, _, h, _, _ => h.elim
  | [], _ :: _, _, _, h, _, _ => h.elim
  | _ :: _, [], _, _, h, _, _ => h.elim
  | _ :: _, _ :: _, [], _, h, _, _ => h.elim

/-- what a law's row asks of a call that has returned true and made new memory alone -/
theorem law_post {P : Program} {f : Func} {s : ChangeSpec} {apart fresh handsOn : Bool} {W W' : World} {args : Array Value} {ds gs : List (DataW H)} {before : List MemPlace} {tb : TypeId}
    (hW : DataW.Whole enc P f.params.toList s.vars apart W args.toList ds gs before) (hvars : s.vars = []) (hfn : s.fn H (ds ++ gs) = { results := [.lit (.bool true)], args := ds })
    (hrt : f.resultTypes = #[tb]) (htb : P.underlying tb = some .bool) (hl : laidOutB P = true) (hread : ∀ t ∈ f.params.toList, P.readableRec t = true ∧ t < P.types.size) (hb : Below W.heap.size W W') :
    s.post enc P f apart fresh handsOn false W args (.bool true) W' := by
  have hlt : ∀ p ∈ before, p.block < W.heap.size := fun p hp => hW.lt p hp
  have hW0 := hW
  obtain ⟨p, q, hA, hV, rfl, _, _⟩ := hW0
  refine ⟨ds, gs, p ++ q, [], p, [], hW, ?_, ?_, ?_, hb.frame _, fun h => by cases h⟩
  · rw [hfn, hrt]
    exact trodAll_mk1 (shut_bool htb true)
  · rw [hfn]
    exact trodAll_stays hl hb hA hread (fun x hx => hlt x (List.mem_append_left _ hx))
  · rw [hfn, hvars]
    rfl
end
end Go.W
end

section
/-
  Package variables that are listed with their content, asl the machine on plain values knows them. No program in it.
-/
namespace Go.W
open Go Go.RowKit

def Ty.flat : Ty → Bool
  | .int _ | .u8 | .bool | .str => true
  | .arr _ t => t.flat && !t.isPair
  | .st t => t.flat
  | .pair a b => a.flat && b.flat && !a.isPair
  | _ => false
mutual
/-- a value asl a datum -/
def toD {H : Type} : (T : Ty) → T.den → DataW H
  | .int k, x => .lit (.int k x)
  | .u8, x => .lit (.int .u8 (n8 x))
  | .bool, x => .lit (.bool x)
  | .str, x => .lit (.string x)
  | .arr _ t, xs => .agg (List.map (toD t) xs)
  | .st B, x => .agg (toDs B x)
  | _, _ => .nil
def toDs {H : Type} : (B : Ty) → B.den → List (DataW H)
  | .pair a b, x => toD a x.1 :: toDs b x.2
  | .int k, x => [.lit (.int k x)]
  | .u8, x => [.lit (.int .u8 (n8 x))]
  | .bool, x => [.lit (.bool x)]
  | .str, x => [.lit (.string x)]
  | .arr _ t, xs => [.agg (List.map (toD t) xs)]
  | .st B, x => [.agg (toDs B x)]
  | _, _ => []
end
theorem toDs_one {H : Type} {T : Ty} (hf : T.flat = true) (hp : T.isPair = false) (x : T.den) : toDs (H := H) T x = [toD T x] := by
  cases T with
  | int k => simp only [toDs, toD]
  | u8 => simp only [toDs, toD]
  | bool => simp only [toDs, toD]
  | str => simp only [toDs, toD]
  | arr n t => simp only [toDs, toD]
  | st B => simp only [toDs, toD]
  | pair a b => cases hp
  | _ => cases hf
theorem map_inj {α β : Type} {f : α → β} (h : ∀ x y, f x = f y → x = y) : ∀ {l m : List α}, l.map f = m.map f → l = m
  | [], [], _ => rfl
  | [], _ :: _, e => by cases e
  | _ :: _, [], e => by cases e
  | x :: l, y :: m, e => by
    simp only [List.map_cons, List.cons.injEq] at e
    rw [h x y e.1, map_inj h e.2]
theorem toD_inj {H : Type} (T : Ty) (hf : T.flat = true) : (∀ x y : T.den, T.isPair = false → toD (H := H) T x = toD T y → x = y) ∧ (∀ x y : T.den, toDs (H := H) T x = toDs T y → x = y) := by
  have one : ∀ {T : Ty}, T.flat = true → T.isPair = false → (∀ x y : T.den, toD (H := H) T x = toD T y → x = y) → (∀ x y : T.den, T.isPair = false → toD (H := H) T x = toD T y → x = y) ∧ (∀ x y : T.den, toDs (H := H) T x = toDs T y → x = y) := fun hf hp h =>
    ⟨fun x y _ => h x y, fun x y e => by
      rw [toDs_one hf hp, toDs_one hf hp] at e
      injection e with e _
      exact h x y e⟩
  induction T with
  | int k => exact one hf rfl fun x y e => by simpa [toD] using e
  | u8 =>
    refine one hf rfl fun x y e => ?_
    have : n8 x = n8 y := by simpa [toD] using e
    unfold n8 at this
    apply UInt8.toNat_inj.1
    omega
  | bool => exact one hf rfl fun x y e => by simpa [toD] using e
  | str => exact one hf rfl fun x y e => by simpa [toD] using e
  | arr n t ih =>
    refine one hf rfl fun x y e => ?_
    simp only [toD, DataW.agg.injEq] at e
    simp only [Ty.flat, Bool.and_eq_true, Bool.not_eq_true'] at hf
    exact map_inj (fun a b h => (ih hf.1).1 a b hf.2 h) e
  | st B ih =>
    refine one hf rfl fun x y e => ?_
    simp only [toD, DataW.agg.injEq] at e
    exact (ih hf).2 x y e
  | pair a b iha ihb =>
    simp only [Ty.flat, Bool.and_eq_true, Bool.not_eq_true'] at hf
    refine ⟨fun x y hp _ => (by cases hp), fun x y e => ?_⟩
    simp only [toDs, List.cons.injEq] at e
    exact Prod.ext ((iha hf.1.1).1 _ _ hf.2 e.1) ((ihb hf.1.2).2 _ _ e.2)
  | _ => cases hf

theorem repL_chunksD {α β : Type} {R : α → List Value → Prop} {f : α → β} {sz : Nat} : ∀ (n : Nat) {es : List Value} {xs : List β}, es.length = n * sz → xs.length = n → (∀ i, i < n → ∃ a, R a ((es.drop (i * sz)).take sz) ∧ xs[i]? = some (f a)) → ∃ asl : List α, asl.length = n ∧ RepL R asl es ∧ xs = asl.map f
  | 0, es, xs, hl, hx, _ => ⟨[], rfl, List.eq_nil_of_length_eq_zero (by simpa using hl), by simpa using List.eq_nil_of_length_eq_zero hx⟩
  | n + 1, es, xs, hl, hx, h => by
    obtain ⟨a, ha, hq⟩ := h 0 (Nat.succ_pos n)
    rw [Nat.zero_mul, List.drop_zero] at ha
    cases xs with
    | nil => simp at hx
    | cons x xs =>
      obtain ⟨asl, x1, x2, x3⟩ := repL_chunksD (R := R) (f := f) (sz := sz) n (es := es.drop sz) (xs := xs) (by rw [List.length_drop, hl, Nat.add_mul]; omega) (by simpa using hx) (fun i hi => by
        obtain ⟨b, hb, hq⟩ := h (i + 1) (by omega)
        refine ⟨b, ?_, by simpa using hq⟩
        rw [List.drop_drop]
        rw [Nat.add_mul, Nat.one_mul, Nat.add_comm] at hb
        exact hb)
      refine ⟨a :: asl, by simp [x1], ⟨_, _, (List.take_append_drop sz es).symm, ha, x2⟩, ?_⟩
      simp only [List.getElem?_cons_zero, Option.some.injEq] at hq
      rw [hq, x3]
      rfl

section
variable {H : Type} {enc : TypeId × Value → H} {E : Env} {w : World} {base : Nat} {spare : Nat → Bool} {held : Bool}
def Dp1 (enc : TypeId × Value → H) (E : Env) (w : World) (base : Nat) (spare : Nat → Bool) (held : Bool) (T : Ty) : Prop :=
  ∀ (t : TypeId) (fuel : Nat) (cs : List Value) (x : DataW H × List MemPlace), E.t t = some T → DataW.trod enc E.P w base spare held fuel t cs = some x → ∃ a : T.den, RepC (kOf w) T a cs ∧ x.1 = toD T a
def Dp2 (enc : TypeId × Value → H) (E : Env) (w : World) (base : Nat) (spare : Nat → Bool) (held : Bool) (B : Ty) : Prop :=
  ∀ (fs : List Field) (off n : Nat) (cs : List Value) (xs : List (DataW H × List MemPlace)), fldOk E fs off B = true → off + B.size ≤ cs.length → xs.length = fs.length → (∀ (i : Nat) (f : Field), fs[i]? = some f → DataW.trod enc E.P w base spare held n f.type ((cs.drop f.offset).take (E.P.cellsOf f.type)) = xs[i]?) →
    ∃ a : B.den, RepC (kOf w) B a ((cs.drop off).take B.size) ∧ xs.map (·.1) = toDs B a
theorem dp2_of (hE : EnvOk E) {B : Ty} (hfl : B.flat = true) (h : Dp1 enc E w base spare held B) (hp : B.isPair = false) : Dp2 enc E w base spare held B := by
  intro fs off n cs xs hf hl hxl hr
  match fs, hf with
  | [], hf => cases hf
  | [f], hf =>
    simp only [fldOk, Bool.and_eq_true] at hf
    obtain ⟨⟨⟨h1, h2⟩, _⟩, _⟩ := hf
    have h1 := Nat.eq_of_beq_eq_true h1
    have ht := tyIs_eq h2
    have hy := hr 0 f rfl
    rw [h1, cellsOf_ok hE ht] at hy
    match xs, hxl with
    | [y], _ =>
      obtain ⟨a, r1, r2⟩ := h f.type n _ y ht hy
      exact ⟨a, r1, by rw [toDs_one hfl hp, ← r2]; rfl⟩
  | f :: g :: r, hf =>
    cases B with
    | pair a b => cases hp
    | _ => cases hf
theorem data_both (hE : EnvOk E) (T : Ty) (hfl : T.flat = true) : (T.isPair = false → Dp1 enc E w base spare held T) ∧ Dp2 enc E w base spare held T := by
  have both : ∀ {T : Ty}, T.flat = true → T.isPair = false → Dp1 enc E w base spare held T → (T.isPair = false → Dp1 enc E w base spare held T) ∧ Dp2 enc E w base spare held T := fun hf hp h => ⟨fun _ => h, dp2_of hE hf h hp⟩
  induction T with
  | int k =>
    refine both hfl rfl fun t fuel cs x ht hr => ?_
    obtain ⟨z, h1, h2, _⟩ := DataW.trod_int (hE.und ht).1 hr
    exact ⟨z, h1, by rw [h2]; simp only [toD]⟩
  | u8 =>
    refine both hfl rfl fun t fuel cs x ht hr => ?_
    obtain ⟨z, h1, h2, hwf⟩ := DataW.trod_int (hE.und ht) hr
    have hz : 0 ≤ z ∧ z ≤ 255 := by simpa [Lit.wf, IntKind.min, IntKind.max, IntKind.signed, IntKind.bits] using hwf
    have e : n8 (b8 z) = z := by
      unfold n8 b8
      rw [UInt8.toNat_ofNat']
      omega
    refine ⟨b8 z, ?_, by rw [h2]; simp only [toD, e]⟩
    show cs = [.int .u8 (n8 (b8 z))]
    rw [h1, e]
  | bool =>
    refine both hfl rfl fun t fuel cs x ht hr => ?_
    obtain ⟨z, h1, h2⟩ := DataW.trod_bool (hE.und ht) hr
    exact ⟨z, h1, by rw [h2]; simp only [toD]⟩
  | str =>
    refine both hfl rfl fun t fuel cs x ht hr => ?_
    obtain ⟨s, h1, hx, _⟩ := DataW.trod_string (hE.und ht) hr
    refine ⟨s.data.toList, ?_, by rw [hx]; simp only [toD]⟩
    show cs = [.string (bst s.data.toList)]
    rw [h1]
    rfl
  | arr n T ih =>
    simp only [Ty.flat, Bool.and_eq_true, Bool.not_eq_true'] at hfl
    refine both (by simp only [Ty.flat, hfl.1, hfl.2]; rfl) rfl fun t fuel cs x ht hr => ?_
    obtain ⟨te, hu, he, _⟩ := hE.und ht
    have hc := cellsOf_ok hE he
    obtain ⟨xs, m, _, hx, hl, hxl, hf⟩ := DataW.trod_array hu hr
    rw [cellsOf_ok hE ht] at hl
    rw [hc] at hf
    obtain ⟨ys, y1, y2, y3⟩ := repL_chunksD (R := RepC (kOf w) T) (f := toD (H := H) T) (sz := T.size) n (es := cs) (xs := xs.map (·.1)) hl (by simpa using hxl) (fun i hi => by
      have h1 := hf i hi
      rw [List.getElem?_eq_getElem (by omega)] at h1
      obtain ⟨a, r1, r2⟩ := (ih hfl.1).1 hfl.2 te m _ _ he h1
      exact ⟨a, r1, by rw [List.getElem?_map, List.getElem?_eq_getElem (by omega)]; simp [r2]⟩)
    exact ⟨ys, ⟨y1, y2⟩, by rw [hx]; simp only [toD, y3]⟩
  | pair a b iha ihb =>
    simp only [Ty.flat, Bool.and_eq_true, Bool.not_eq_true'] at hfl
    refine ⟨fun hp => (by cases hp), ?_⟩
    intro fs off n cs xs hf hl hxl hr
    match fs, hf with
    | [], hf => cases hf
    | [f], hf => simp [fldOk, Ty.isPair] at hf
    | f :: g :: r, hf =>
      simp only [fldOk, Bool.and_eq_true] at hf
      obtain ⟨⟨⟨h1, h2⟩, _⟩, h4⟩ := hf
      have h1 := Nat.eq_of_beq_eq_true h1
      have ht := tyIs_eq h2
      have hy := hr 0 f rfl
      rw [h1, cellsOf_ok hE ht] at hy
      cases xs with
      | nil => simp at hxl
      | cons x xs =>
        obtain ⟨va, r1, q1⟩ := (iha hfl.1.1).1 hfl.2 f.type n _ x ht hy
        have hsz : (Ty.pair a b).size = a.size + b.size := rfl
        rw [hsz] at hl ⊢
        obtain ⟨vb, r2, q2⟩ := (ihb hfl.1.2).2 (g :: r) (off + a.size) n cs xs h4 (by omega) (by simpa using hxl) (fun i f' hf' => by simpa using hr (i + 1) f' hf')
        refine ⟨(va, vb), ⟨_, _, ?_, r1, r2⟩, ?_⟩
        · rw [List.take_add, List.drop_drop]
        · simp only [List.map_cons, toDs, q1, q2]
  | st B ih =>
    refine both hfl rfl fun t fuel cs x ht hr => ?_
    obtain ⟨fs, hu, hf, _⟩ := hE.und ht
    obtain ⟨xs, n, _, hx, hl, hxl, hff⟩ := DataW.trod_struct hu hr
    rw [cellsOf_ok hE ht] at hl
    have hl : cs.length = B.size := hl
    obtain ⟨a, r1, q1⟩ := (ih hfl).2 fs.toList 0 n cs xs hf (by omega) (by simpa using hxl) (fun i f hfi => hff i f (by simpa using hfi))
    refine ⟨a, ?_, by rw [hx]; simp only [toD, q1]⟩
    rw [List.drop_zero, List.take_of_length_le (by omega)] at r1
    exact r1
  | _ => cases hfl
/-- a listed variable is known -/
theorem glob_of (hE : EnvOk E) {W : World} {name : String} {D : DataW Unit} {g t : Nat} {T : Ty} {x : T.den} {cs : Array Value} {fuel : Nat} {p : List MemPlace} {enc : TypeId × Value → Unit} {base : Nat} {spare : Nat → Bool} {held : Bool} (hg : E.P.globalNamed name = some g) (ht : E.t t = some T) (hfl : T.flat = true) (hp : T.isPair = false) (hv : W.var? E.P name = some cs) (hd : DataW.trod enc E.P W base spare held fuel t cs.toList = some (D, p)) (hx : D = toD T x) :
    ∃ cs, RepC (kOf W) T x cs ∧ (∀ j u, cs[j]? = some u → kOf W g j = some u) ∧ kOf W g cs.length = some (.tuple #[]) := by
  obtain ⟨a, r1, r2⟩ := (data_both hE T hfl).1 hp t fuel cs.toList _ ht hd
  have : a = x := (toD_inj T hfl).1 a x hp (by rw [← r2, ← hx])
  subst this
  refine ⟨cs.toList, r1, fun j u hu => ?_, ?_⟩
  · have h1 := World.var?_cell hg hv j
    have hm := RepC_one r1 u (List.mem_of_getElem? hu)
    have hu : cs[j]? = some u := by simpa using hu
    rw [hu] at h1
    exact (kOf_cell h1 hm).2
  · unfold World.var? at hv
    rw [hg] at hv
    simp only [Option.bind_some] at hv
    split at hv
    · rename_i cs' e fz hb
      injection hv with hv
      subst hv
      rw [Array.length_toList]
      exact kOf_end hb
    · cases hv
end
end Go.W
end
