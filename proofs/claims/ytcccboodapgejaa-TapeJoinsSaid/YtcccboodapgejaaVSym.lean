/-
  A symbolic executor over the model's operations, evaluated by the kernel, and its soundness. No program in it.
-/
import Derived.Laws.StructEq
import Derived.WalkKit
import Derived.OrdersHeld
import Derived.Deep.LoopGhost
import Derived.Maps.AppendAt
import Derived.Lib.AppendStr
import Derived.Lib.ConvBytes
namespace Go.Sym
open Go.RowKit

/-! ### runs that touch no memory -/
def pureRun {α : Type} (p : Program) : Sem α → Option α
  | .pure a => some a
  | .program k => pureRun p (k p)
  | .mark _ k => pureRun p k
  | _ => none

theorem pureRun_sound {α : Type} {P : Program} {s : Sem α} {a : α} (w : World) (h : pureRun P s = some a) : s.run P w = .ok a w := by
  induction s with
  | pure b => simp [pureRun] at h; subst h; rfl
  | program k ih => simp only [pureRun] at h; simp only [Sem.run]; exact ih P h
  | mark m k ih => simp only [pureRun] at h; simp only [Sem.run]; exact ih h
  | _ => simp [pureRun] at h

/-! ### what is known of a frame -/
structure Ent where
  s : Nat
  c : Option (Nat × Bool)
  v : Value

def Ent.ok (t : Array Value) (e : Ent) : Prop :=
  match e.c with
  | none => t.getD e.s undef = e.v
  | some (g, b) => (t.getD g undef = .bool b → t.getD e.s undef = e.v) ∧ (t.getD g undef ≠ .bool b → t.getD e.s undef = undef)

structure Fr (N : Nat) (l : List Ent) (a : Act) : Prop where
  size : a.tmps.size = N
  defers : a.defers = []
  ent : ∀ e ∈ l, e.ok a.tmps

abbrev Ctx := List (Nat × Bool)
def memC : Ctx → Nat × Bool → Bool
  | [], _ => false
  | (g, b) :: r, x => (Nat.beq g x.1 && (b == x.2)) || memC r x
def Ctx.ok (t : Array Value) (ctx : Ctx) : Prop := ∀ x ∈ ctx, t.getD x.1 undef = .bool x.2

theorem memC_mem {ctx : Ctx} {x : Nat × Bool} (h : memC ctx x = true) : x ∈ ctx := by
  induction ctx with
  | nil => simp [memC] at h
  | cons y r ih =>
    obtain ⟨g, b⟩ := y
    simp only [memC, Bool.or_eq_true, Bool.and_eq_true] at h
    rcases h with ⟨h1, h2⟩ | h
    · obtain ⟨x1, x2⟩ := x
      have := Nat.eq_of_beq_eq_true h1
      simp only [beq_iff_eq] at h2
      simp only at this
      subst this; subst h2
      exact List.mem_cons_self
    · exact List.mem_cons_of_mem _ (ih h)

def look (ctx : Ctx) : List Ent → Nat → Option Value
  | [], _ => none
  | e :: r, s =>
    if Nat.beq e.s s then
      match e.c with
      | none => some e.v
      | some g => if memC ctx g then some e.v else none
    else look ctx r s

def evl (ctx : Ctx) (l : List Ent) : Operand → Option Value
  | .tmp t => look ctx l t
  | .const v => some v
  | .global g => some (.pointer (some ⟨g, 0, none⟩))
  | .func f => some (.func (.func f) #[] #[])
def evd (ctx : Ctx) (l : List Ent) (x : Operand) : Value := (evl ctx l x).getD undef

theorem look_ok {l : List Ent} {a : Act} {ctx : Ctx} {s : Nat} {v : Value} (hF : ∀ e ∈ l, e.ok a.tmps) (hc : ctx.ok a.tmps) (h : look ctx l s = some v) : a.tmps.getD s undef = v := by
  induction l with
  | nil => simp [look] at h
  | cons e r ih =>
    simp only [look] at h
    split at h
    · rename_i hs
      have hs' := Nat.eq_of_beq_eq_true hs
      have he := hF e List.mem_cons_self
      unfold Ent.ok at he
      cases hcc : e.c with
      | none => simp only [hcc] at h he; injection h with h; rw [← hs', he, h]
      | some g =>
        simp only [hcc] at h he
        split at h
        · rename_i hm
          injection h with h
          rw [← hs', he.1 (hc g (memC_mem hm)), h]
        · cases h
    · exact ih (fun e he => hF e (List.mem_cons_of_mem _ he)) h

theorem evl_ok {N : Nat} {l : List Ent} {a : Act} {ctx : Ctx} {x : Operand} {v : Value} (hF : Fr N l a) (hc : ctx.ok a.tmps) (h : evl ctx l x = some v) : a.eval x = v := by
  cases x with
  | tmp t => exact look_ok hF.ent hc h
  | const u => simp [evl] at h; exact h
  | global g => simp [evl] at h; exact h
  | func f => simp [evl] at h; exact h

def isSel : Op → Bool
  | .select _ _ => true
  | _ => false
/-- all operands are known -/
def known (ctx : Ctx) (l : List Ent) (o : Oper) : Bool := !isSel o.op && o.op.operands.toList.all fun x => (evl ctx l x).isSome

theorem exec_known {N : Nat} {l : List Ent} {a : Act} {ctx : Ctx} {o : Oper} (hF : Fr N l a) (hc : ctx.ok a.tmps) (h : known ctx l o = true) : execOp a.eval o = execOp (evd ctx l) o := by
  simp only [known, Bool.and_eq_true, Bool.not_eq_true', List.all_eq_true] at h
  refine execOp_congr o (fun cs b e => by rw [e] at h; simp [isSel] at h) fun x hx => ?_
  have := h.2 x (by simpa using hx)
  obtain ⟨v, hv⟩ := Option.isSome_iff_exists.1 this
  rw [evl_ok hF hc hv, evd, hv]; rfl

def putE (l : List Ent) (e : Ent) : List Ent :=
  e :: l.filter fun x => !(Nat.beq x.s e.s) && (match x.c with | some (g, _) => !(Nat.beq g e.s) | none => true)

theorem getD_put_ne {a : Act} {d s : Nat} {v : Value} (h : s ≠ d) : (a.put (some d) v).tmps.getD s undef = a.tmps.getD s undef := by
  simp only [Act.put, Array.getD_eq_getD_getElem?]
  rw [Array.getElem?_setIfInBounds_ne (by omega)]
theorem getD_put_same {a : Act} {d : Nat} {v : Value} (h : d < a.tmps.size) : (a.put (some d) v).tmps.getD d undef = v := by
  simp [Act.put, Array.getD_eq_getD_getElem?, h]

theorem Fr.putE {N : Nat} {l : List Ent} {a : Act} {e : Ent} {v : Value} (hF : Fr N l a) (hd : e.s < N) (he : e.ok (a.put (some e.s) v).tmps) : Fr N (putE l e) (a.put (some e.s) v) := by
  refine ⟨by simp [Act.put, hF.size], hF.defers, fun x hx => ?_⟩
  rcases List.mem_cons.1 hx with rfl | hx
  · exact he
  · obtain ⟨hx, hf⟩ := List.mem_filter.1 hx
    have hxo := hF.ent x hx
    simp only [Bool.and_eq_true, Bool.not_eq_true'] at hf
    have h1 : x.s ≠ e.s := fun h => by rw [h] at hf; simp at hf
    unfold Ent.ok at hxo ⊢
    cases hc : x.c with
    | none => simp only [hc] at hxo ⊢; rw [getD_put_ne h1]; exact hxo
    | some g =>
      obtain ⟨g, b⟩ := g
      simp only [hc] at hxo hf ⊢
      have h2 : g ≠ e.s := fun h => by rw [h] at hf; simp at hf
      rw [getD_put_ne h1, getD_put_ne h2]; exact hxo

/-- only these slots are kept -/
def keep (l : List Ent) : List Nat → List Ent
  | [] => []
  | s :: r => match look [] l s with
    | some v => ⟨s, none, v⟩ :: keep l r
    | none => keep l r
theorem Fr.keep {N : Nat} {l : List Ent} {a : Act} (hF : Fr N l a) (ss : List Nat) : Fr N (keep l ss) a := by
  refine ⟨hF.size, hF.defers, ?_⟩
  induction ss with
  | nil => intro e he; simp [Sym.keep] at he
  | cons s r ih =>
    intro e he
    simp only [Sym.keep] at he
    split at he
    · rename_i v hv
      rcases List.mem_cons.1 he with rfl | he
      · exact look_ok hF.ent (fun x hx => by cases hx) hv
      · exact ih e he
    · exact ih e he
theorem Fr.nil {N : Nat} {l : List Ent} {a : Act} (hF : Fr N l a) : Fr N [] a := ⟨hF.size, hF.defers, fun e he => by cases he⟩

/-! ### guards -/
def gslot (ops : Array Oper) (j : Nat) : Option Nat := (ops[j]?).bind (·.dst)
def condOf : List Ent → Nat → Option (Nat × Bool)
  | [], _ => none
  | e :: r, s => if Nat.beq e.s s then e.c else condOf r s
/-- the conditions under which slot g is a bool -/
def chain (l : List Ent) : Nat → Nat → Ctx
  | 0, _ => []
  | f + 1, g => match condOf l g with
    | some c => c :: chain l f c.1
    | none => []
theorem condOf_ok {l : List Ent} {a : Act} {g : Nat} {c : Nat × Bool} (hF : ∀ e ∈ l, e.ok a.tmps) (h : condOf l g = some c) (hb : a.tmps.getD g undef ≠ undef) : a.tmps.getD c.1 undef = .bool c.2 := by
  induction l with
  | nil => simp [condOf] at h
  | cons e r ih =>
    simp only [condOf] at h
    split at h
    · rename_i hs
      have hs' := Nat.eq_of_beq_eq_true hs
      have he := hF e List.mem_cons_self
      unfold Ent.ok at he
      rw [h] at he
      simp only at he
      rw [hs'] at he
      by_cases hc : a.tmps.getD c.1 undef = .bool c.2
      · exact hc
      · exact absurd (he.2 hc) hb
    · exact ih (fun e he => hF e (List.mem_cons_of_mem _ he)) h
theorem bool_ne_undef (b : Bool) : Value.bool b ≠ undef := by unfold undef; simp
theorem chain_ok {l : List Ent} {a : Act} (hF : ∀ e ∈ l, e.ok a.tmps) : ∀ (f g : Nat), a.tmps.getD g undef ≠ undef → (chain l f g).ok a.tmps
  | 0, _, _ => fun x hx => by cases hx
  | f + 1, g, h => by
    unfold chain
    cases hc : condOf l g with
    | none => intro x hx; cases hx
    | some c =>
      have h1 := condOf_ok hF hc h
      intro x hx
      rcases List.mem_cons.1 hx with rfl | hx
      · exact h1
      · exact chain_ok hF f c.1 (by rw [h1]; exact bool_ne_undef _) x hx
/-- the context of an operation with a guard -/
def gctx (ops : Array Oper) (l : List Ent) (o : Oper) : Option Ctx :=
  match o.guard with
  | none => some []
  | some (j, b) => match gslot ops j with
    | some g => some ((g, b) :: chain l 8 g)
    | none => none

theorem wanted_none {ops : Array Oper} {t : Array Value} {o : Oper} (h : o.guard = none) : Region.wanted o (yielded ops t) = true := by simp [Region.wanted, h]
theorem wanted_some {ops : Array Oper} {t : Array Value} {o : Oper} {j g : Nat} {b : Bool} (h : o.guard = some (j, b)) (hg : gslot ops j = some g) :
    Region.wanted o (yielded ops t) = true ↔ t.getD g undef = .bool b := by
  simp only [Region.wanted, h, beq_iff_eq, yielded]
  unfold gslot at hg
  rw [hg]
  simp only [Option.bind_some, Array.getD_eq_getD_getElem?]
  cases hq : t[g]? with
  | none => simp [undef]
  | some v => cases v <;> simp
theorem gctx_ok {N : Nat} {ops : Array Oper} {l : List Ent} {a : Act} {o : Oper} {ctx : Ctx} (hF : Fr N l a) (h : gctx ops l o = some ctx) (hw : Region.wanted o (yielded ops a.tmps) = true) : ctx.ok a.tmps := by
  unfold gctx at h
  cases hg : o.guard with
  | none => rw [hg] at h; simp at h; subst h; intro x hx; cases hx
  | some jb =>
    obtain ⟨j, b⟩ := jb
    rw [hg] at h
    simp only at h
    cases hs : gslot ops j with
    | none => rw [hs] at h; cases h
    | some g =>
      rw [hs] at h
      simp only [Option.some.injEq] at h
      subst h
      have h1 := (wanted_some hg hs).1 hw
      intro x hx
      rcases List.mem_cons.1 hx with rfl | hx
      · exact h1
      · exact chain_ok hF.ent 8 g (by rw [h1]; exact bool_ne_undef _) x hx


/-! ### what is known of the memory -/
inductive Res where
  /-- a whole block of the call's own: its cells -/
  | box (g : Nat) (t : TypeId) (cs : List Value)
  /-- memory that is only read: the slice '.slice A n c', 'size' cells an element, element i: el i -/
  | view (A : Option Addr) (n c size : Nat) (el : Nat → List Value)
  /-- a row of the call's own that may be appended to: '.slice A n c', its cells xs -/
  | row (A : Option Addr) (c : Nat) (e : TypeId) (size n : Nat) (xs : List Value)
  /-- memory that is only read and may be shared with what came in -/
  | al (r : Res)
  /-- n pieces of memory that are only read -/
  | fam (n : Nat) (r : Nat → Res)

def Res.fp : Res → Nat → Prop
  | .box g _ _, b => b = g
  | .view A n _ _ _, b => 0 < n ∧ ∃ ad, A = some ad ∧ ad.block = b
  | .row A _ _ _ _ _, b => ∃ ad, A = some ad ∧ ad.block = b
  | .al r, b => r.fp b
  | .fam n r, b => ∃ i, i < n ∧ (r i).fp b
def Res.mut : Res → Bool
  | .box _ _ _ => true
  | .row _ _ _ _ _ _ => true
  | _ => false

def Res.isAl : Res → Bool
  | .al _ => true
  | _ => false
def Res.strip : Res → Res
  | .al r => r
  | r => r
theorem isAl_mut {r : Res} (h : r.mut = true) : r.isAl = false := by cases r <;> first | rfl | cases h

/-- no cell of the block is frozen -/
def okFz (fz : Nat × Nat) (n : Nat) : Prop := fz.2 ≤ fz.1 ∨ n ≤ fz.1
/-- the slice '.slice A n c' of the call's own: its first cells are xs -/
def rowOk (w : World) (A : Option Addr) (c e size n : Nat) (xs : List Value) : Prop :=
  xs.length = n * size ∧ ((A = none ∧ c = 0 ∧ n = 0) ∨
    ∃ g cur fz, A = some ⟨g, 0, none⟩ ∧ w.heap[g]? = some (.cells cur e fz) ∧ okFz fz cur.size ∧ n ≤ c ∧ c ≤ maxLen ∧ c * size ≤ cur.size ∧ cur.toList.take (n * size) = xs)

def viewAt (w : World) (ad : Addr) (size i : Nat) (es : List Value) : Prop :=
  es.length = size ∧ ∀ j v, es[j]? = some v → w.cell? (ad.add (i * size + j)) = some v

def Res.ok (w : World) : Res → Prop
  | .box g t cs => w.heap[g]? = some (.cells cs.toArray t (0, 0))
  | .view A n c size el => n ≤ c ∧ c ≤ maxLen ∧ (0 < n → ∃ ad, A = some ad ∧ ∀ i, i < n → viewAt w ad size i (el i))
  | .row A c e size n xs => rowOk w A c e size n xs
  | .al r => r.ok w
  | .fam n r => ∀ i, i < n → (r i).ok w

theorem add_block (a : Addr) (n : Nat) : (a.add n).block = a.block := by unfold Addr.add; split <;> rfl
theorem add_add (a : Addr) (i j : Nat) : (a.add i).add j = a.add (i + j) := by
  unfold Addr.add
  by_cases hi : i = 0 <;> by_cases hj : j = 0 <;> simp [hi, hj, Nat.add_assoc]

theorem Res.ok_local {w w' : World} {r : Res} (h : ∀ b, r.fp b → w'.heap[b]? = w.heap[b]?) (hr : r.ok w) : r.ok w' := by
  induction r with
  | box g t cs => exact (h g rfl).trans hr
  | view A n c size el =>
    refine ⟨hr.1, hr.2.1, fun hn => ?_⟩
    obtain ⟨ad, hA, hi⟩ := hr.2.2 hn
    refine ⟨ad, hA, fun i hin => ⟨(hi i hin).1, fun j v hv => ?_⟩⟩
    rw [World.cell?_of_block (w := w)]
    · exact (hi i hin).2 j v hv
    · rw [add_block]; exact h _ ⟨hn, ad, hA, rfl⟩
  | row A c e size n xs =>
    obtain ⟨h1, h2⟩ := hr
    refine ⟨h1, ?_⟩
    rcases h2 with h2 | ⟨g, cur, fz, hA, hg, rest⟩
    · exact .inl h2
    · refine .inr ⟨g, cur, fz, hA, ?_, rest⟩
      rw [h g ⟨_, hA, rfl⟩]; exact hg
  | al r ih => exact ih h hr
  | fam n r ih => exact fun i hi => ih i (fun b hb => h b ⟨i, hi, hb⟩) (hr i hi)

def Sep (r r' : Res) : Prop := (r.mut = true ∨ r'.mut = true) → ∀ b, r.fp b → r'.fp b → False

theorem Sep.symm {r r' : Res} (h : Sep r r') : Sep r' r := fun hm b h1 h2 => h hm.symm b h2 h1

/-- what was there is as it was, but for the blocks of M -/
structure Kept (M : Nat → Prop) (w w' : World) : Prop where
  os : w'.os = w.os
  tape : w'.tape = w.tape
  output : w'.output = w.output
  size : w.heap.size ≤ w'.heap.size
  block : ∀ b, b < w.heap.size → ¬ M b → w'.heap[b]? = w.heap[b]?
theorem Kept.refl (M : Nat → Prop) (w : World) : Kept M w w := ⟨rfl, rfl, rfl, Nat.le_refl _, fun _ _ _ => rfl⟩
theorem Kept.trans {M M' : Nat → Prop} {a b c : World} (h : Kept M a b) (k : Kept M' b c) (hm : ∀ x, x < a.heap.size → M' x → M x) : Kept M a c :=
  ⟨k.os.trans h.os, k.tape.trans h.tape, k.output.trans h.output, Nat.le_trans h.size k.size, fun x hx hn => (k.block x (Nat.lt_of_lt_of_le hx h.size) (fun e => hn (hm x hx e))).trans (h.block x hx hn)⟩
theorem Kept.ofBelow {w w' : World} (h : Below w.heap.size w w') (M : Nat → Prop) : Kept M w w' := ⟨h.os, h.tape, h.output, h.size, fun b hb _ => h.block b hb⟩
theorem Kept.below {w w' : World} (h : Kept (fun _ => False) w w') : Below w.heap.size w w' := ⟨h.os, h.tape, h.output, h.size, fun b hb => h.block b hb (fun e => e)⟩

/-- B: the blocks that may be read, M: the older blocks that may be turned; ns: what is only read; rs: what is the call's own -/
structure Hp (w0 : World) (B M : Nat → Prop) (ns rs : List Res) (w : World) : Prop where
  below : Kept M w0 w
  old : ∀ r ∈ ns, r.mut = false ∧ r.ok w ∧ ∀ b, r.fp b → b < w.heap.size ∧ (B b ∨ w0.heap.size ≤ b ∨ M b)
  nsep : ∀ r ∈ ns, ∀ r' ∈ rs, Sep r r'
  own : ∀ r ∈ rs, r.ok w ∧ ∀ b, r.fp b → b < w.heap.size ∧ (w0.heap.size ≤ b ∨ M b ∨ (r.isAl = true ∧ B b))
  sep : rs.Pairwise Sep

inductive Rf where
  | n (k : Nat)
  | r (k : Nat)
def getR (ns rs : List Res) : Rf → Option Res
  | .n k => ns[k]?
  | .r k => match rs[k]? with
    | some r => some r.strip
    | none => none
theorem strip_ok {w : World} {r : Res} (h : r.ok w) : r.strip.ok w := by cases r <;> exact h
theorem strip_fp {r : Res} {b : Nat} (h : r.strip.fp b) : r.fp b := by cases r <;> exact h
theorem getR_cases {ns rs : List Res} {rf : Rf} {r : Res} (h : getR ns rs rf = some r) : r ∈ ns ∨ ∃ q ∈ rs, r = q.strip := by
  cases rf with
  | n k => exact .inl (List.mem_of_getElem? h)
  | r k =>
    simp only [getR] at h
    split at h
    · rename_i q hq
      simp only [Option.some.injEq] at h
      exact .inr ⟨q, List.mem_of_getElem? hq, h.symm⟩
    · cases h
theorem getR_ok {ns rs : List Res} {rf : Rf} {r : Res} {w : World} (h : getR ns rs rf = some r) (hR : ∀ r ∈ ns ++ rs, r.ok w) : r.ok w := by
  rcases getR_cases h with h1 | ⟨q, hq, rfl⟩
  · exact hR r (List.mem_append_left _ h1)
  · exact strip_ok (hR q (List.mem_append_right _ hq))

section
variable {w0 w w' : World} {B M : Nat → Prop} {ns rs : List Res}

def fpL (l : List Res) (b : Nat) : Prop := ∃ r ∈ l, r.fp b
/-- what a call is handed -/
structure NeedOk (w : World) (need mneed : List Res) : Prop where
  rd : ∀ r ∈ need, r.mut = false ∧ r.ok w ∧ ∀ b, r.fp b → b < w.heap.size
  nsep : ∀ r ∈ need, ∀ r' ∈ mneed, Sep r r'
  wr : ∀ r ∈ mneed, r.ok w ∧ ∀ b, r.fp b → b < w.heap.size
  sep : mneed.Pairwise Sep
/-- what a call hands back: of its own, and what may share memory with what it read -/
structure NewOk (w : World) (B M : Nat → Prop) (w' : World) (new als : List Res) : Prop where
  own : ∀ r ∈ new, r.ok w' ∧ ∀ b, r.fp b → b < w'.heap.size ∧ (w.heap.size ≤ b ∨ M b)
  sep : new.Pairwise Sep
  rd : ∀ r ∈ als, r.mut = false ∧ r.ok w' ∧ ∀ b, r.fp b → b < w'.heap.size ∧ (B b ∨ w.heap.size ≤ b ∨ M b)
  nsep : ∀ r ∈ als, ∀ r' ∈ new, Sep r r'

theorem Hp.start (w : World) {ns ms : List Res} (h : NeedOk w ns ms) : Hp w (fpL ns) (fpL ms) ns ms w :=
  ⟨Kept.refl _ _, fun r hr => ⟨(h.rd r hr).1, (h.rd r hr).2.1, fun b hb => ⟨(h.rd r hr).2.2 b hb, .inl ⟨r, hr, hb⟩⟩⟩, h.nsep, fun r hr => ⟨(h.wr r hr).1, fun b hb => ⟨(h.wr r hr).2 b hb, .inr (.inl ⟨r, hr, hb⟩)⟩⟩, h.sep⟩

theorem Hp.okOld (h : Hp w0 B M ns rs w) {r : Res} (hr : r ∈ ns) : r.ok w := (h.old r hr).2.1

theorem Hp.get (h : Hp w0 B M ns rs w) {rf : Rf} {r : Res} (hr : getR ns rs rf = some r) : r.ok w ∧ ∀ b, r.fp b → b < w.heap.size := by
  rcases getR_cases hr with hm | ⟨q, hq, rfl⟩
  · exact ⟨h.okOld hm, fun b hb => ((h.old r hm).2.2 b hb).1⟩
  · exact ⟨strip_ok (h.own q hq).1, fun b hb => ((h.own q hq).2 b (strip_fp hb)).1⟩

theorem Hp.drew' (h : Hp w0 B M ns rs w) (n : Nat) : Hp w0 B M ns rs { w with drawn := n } :=
  ⟨⟨h.below.os, h.below.tape, h.below.output, h.below.size, h.below.block⟩, fun r hr => ⟨(h.old r hr).1, Res.ok_local (w := w) (fun _ _ => rfl) (h.old r hr).2.1, (h.old r hr).2.2⟩, h.nsep, fun r hr => ⟨Res.ok_local (w := w) (fun _ _ => rfl) (h.own r hr).1, (h.own r hr).2⟩, h.sep⟩
theorem Hp.drew (h : Hp w0 B M ns rs w) : Hp w0 B M ns rs w.drew := h.drew' _

theorem sep_get {rs : List Res} (h : rs.Pairwise Sep) {i j : Nat} {r r' : Res} (hi : rs[i]? = some r) (hj : rs[j]? = some r') (hne : i ≠ j) : Sep r r' := by
  obtain ⟨h1, rfl⟩ := List.getElem?_eq_some_iff.1 hi
  obtain ⟨h2, rfl⟩ := List.getElem?_eq_some_iff.1 hj
  rcases Nat.lt_or_gt_of_ne hne with hlt | hlt
  · exact List.pairwise_iff_getElem.1 h i j h1 h2 hlt
  · exact (List.pairwise_iff_getElem.1 h j i h2 h1 hlt).symm

/-- a step: of the own resources, 'rest' stay, the others ('ms') are given away; only their blocks, and new ones, have turned -/
theorem Hp.step (h : Hp w0 B M ns rs w) {rest ms new als : List Res} (hrest : ∀ r ∈ rest, r ∈ rs) (hrs : rest.Pairwise Sep) (hms : ∀ r ∈ ms, r ∈ rs) (hsep : ∀ r ∈ ms, r.mut = true ∧ ∀ r' ∈ rest, Sep r r')
    (hk : Kept (fpL ms) w w') {need : List Res} (hneed : ∀ q ∈ need, ∃ r, (r ∈ ns ∨ r ∈ rest ∧ (r.mut = true → als = [])) ∧ ∀ b, q.fp b → r.fp b) (hn : NewOk w (fpL need) (fpL ms) w' new als) : Hp w0 B M (ns ++ als) (rest ++ new) w' := by
  have hM : ∀ b, fpL ms b → w0.heap.size ≤ b ∨ M b := fun b ⟨r, hr, hb⟩ => by
    rcases ((h.own r (hms r hr)).2 b hb).2 with h1 | h1 | h1
    · exact .inl h1
    · exact .inr h1
    · rw [isAl_mut (hsep r hr).1] at h1; cases h1.1
  have hBn : ∀ b, fpL need b → b < w.heap.size ∧ (B b ∨ w0.heap.size ≤ b ∨ M b) := fun b ⟨q, hq, hb⟩ => by
    obtain ⟨r, hr, hf⟩ := hneed q hq
    rcases hr with hr | hr
    · exact (h.old r hr).2.2 b (hf b hb)
    · have := (h.own r (hrest r hr.1)).2 b (hf b hb)
      refine ⟨this.1, ?_⟩
      rcases this.2 with h1 | h1 | h1
      · exact .inr (.inl h1)
      · exact .inr (.inr h1)
      · exact .inl h1.2
  have keepR : ∀ r ∈ rest, r.ok w' := fun r hr => Res.ok_local (fun b hb => hk.block b ((h.own r (hrest r hr)).2 b hb).1 fun ⟨m, hm, hmb⟩ => (hsep m hm).2 r hr (.inl (hsep m hm).1) b hmb hb) (h.own r (hrest r hr)).1
  have keepN : ∀ r ∈ ns, r.ok w' := fun r hr => Res.ok_local (fun b hb => hk.block b ((h.old r hr).2.2 b hb).1 fun ⟨m, hm, hmb⟩ => h.nsep r hr m (hms m hm) (.inr (hsep m hm).1) b hb hmb) (h.old r hr).2.1
  have alsRest : ∀ r ∈ als, ∀ r' ∈ rest, Sep r r' := fun r hr r' hr' hm b hb hb' => by
    have hne : als ≠ [] := fun e => by rw [e] at hr; cases hr
    have hrm : r.mut = false := (hn.rd r hr).1
    have hm' : r'.mut = true := by rcases hm with h1 | h1; · rw [hrm] at h1; cases h1
                                   · exact h1
    rcases ((hn.rd r hr).2.2 b hb).2 with h1 | h1 | h1
    · obtain ⟨q, hq, hqb⟩ := h1
      obtain ⟨x, hx, hf⟩ := hneed q hq
      rcases hx with hx | ⟨hx, hx2⟩
      · exact h.nsep x hx r' (hrest r' hr') (.inr hm') b (hf b hqb) hb'
      · by_cases hxm : x.mut = true
        · exact hne (hx2 hxm)
        · obtain ⟨i, hi, hxi⟩ := List.getElem_of_mem hx
          obtain ⟨j, hj, hrj⟩ := List.getElem_of_mem hr'
          have hij : i ≠ j := fun e => by subst e; rw [hxi] at hrj; subst hrj; exact hxm hm'
          exact sep_get hrs (List.getElem?_eq_some_iff.2 ⟨hi, hxi⟩) (List.getElem?_eq_some_iff.2 ⟨hj, hrj⟩) hij (.inr hm') b (hf b hqb) hb'
    · have := ((h.own r' (hrest r' hr')).2 b hb').1; omega
    · obtain ⟨m, hm2, hmb⟩ := h1
      exact (hsep m hm2).2 r' hr' (.inl (hsep m hm2).1) b hmb hb'
  refine ⟨h.below.trans hk fun b hb hm => ?_, fun r hr => ?_, fun r hr r' hr' => ?_, fun r hr => ?_, ?_⟩
  · rcases hM b hm with h1 | h1
    · omega
    · exact h1
  · rcases List.mem_append.1 hr with hr | hr
    · exact ⟨(h.old r hr).1, keepN r hr, fun b hb => ⟨Nat.lt_of_lt_of_le ((h.old r hr).2.2 b hb).1 hk.size, ((h.old r hr).2.2 b hb).2⟩⟩
    · have := hn.rd r hr
      refine ⟨this.1, this.2.1, fun b hb => ⟨(this.2.2 b hb).1, ?_⟩⟩
      rcases (this.2.2 b hb).2 with h1 | h1 | h1
      · exact (hBn b h1).2
      · exact .inr (.inl (Nat.le_trans h.below.size h1))
      · exact .inr (hM b h1)
  · rcases List.mem_append.1 hr with hr | hr <;> rcases List.mem_append.1 hr' with hr' | hr'
    · exact h.nsep r hr r' (hrest r' hr')
    · intro hm b hb hb'
      rcases ((hn.own r' hr').2 b hb').2 with h1 | ⟨m, hm2, hmb⟩
      · have := ((h.old r hr).2.2 b hb).1; omega
      · exact h.nsep r hr m (hms m hm2) (.inr (hsep m hm2).1) b hb hmb
    · exact alsRest r hr r' hr'
    · exact hn.nsep r hr r' hr'
  · rcases List.mem_append.1 hr with hr | hr
    · exact ⟨keepR r hr, fun b hb => ⟨Nat.lt_of_lt_of_le ((h.own r (hrest r hr)).2 b hb).1 hk.size, ((h.own r (hrest r hr)).2 b hb).2⟩⟩
    · have := hn.own r hr
      refine ⟨this.1, fun b hb => ⟨(this.2 b hb).1, ?_⟩⟩
      rcases (this.2 b hb).2 with h1 | h1
      · exact .inl (Nat.le_trans h.below.size h1)
      · exact (hM b h1).imp id .inl
  · refine List.pairwise_append.2 ⟨hrs, hn.sep, fun r hr r' hr' hm b hb hb' => ?_⟩
    rcases ((hn.own r' hr').2 b hb').2 with h1 | ⟨m, hm2, hmb⟩
    · have := ((h.own r (hrest r hr)).2 b hb).1; omega
    · exact (hsep m hm2).2 r hr (.inl (hsep m hm2).1) b hmb hb

/-- the world has grown: all that was there is as it was; new resources lie in new blocks -/
theorem Hp.more (h : Hp w0 B M ns rs w) (hb : Below w.heap.size w w') (new : List Res) (hn : ∀ r ∈ new, r.ok w' ∧ ∀ b, r.fp b → w.heap.size ≤ b ∧ b < w'.heap.size) (hs : new.Pairwise Sep) :
    Hp w0 B M ns (rs ++ new) w' := by
  have := h.step (rest := rs) (ms := []) (new := new) (als := []) (need := []) (fun _ h => h) h.sep (fun _ h => (by cases h)) (fun _ h => (by cases h)) (Kept.ofBelow hb _) (fun _ h => (by cases h))
    ⟨fun r hr => ⟨(hn r hr).1, fun b hb => ⟨((hn r hr).2 b hb).2, .inl ((hn r hr).2 b hb).1⟩⟩, hs, fun _ h => (by cases h), fun _ h => (by cases h)⟩
  simpa using this
theorem Hp.keepAll (h : Hp w0 B M ns rs w) (hb : Below w.heap.size w w') : Hp w0 B M ns rs w' := by
  have := h.more hb [] (fun r hr => by cases hr) List.Pairwise.nil
  simpa using this

/-- one own resource is turned into another; only its blocks, and new ones, have turned -/
theorem Hp.turn (h : Hp w0 B M ns rs w) {k : Nat} {r r' : Res} (hk : rs[k]? = some r) (hm : r.mut = true) (os : w'.os = w.os) (tape : w'.tape = w.tape) (output : w'.output = w.output) (size : w.heap.size ≤ w'.heap.size)
    (hb : ∀ b, b < w.heap.size → ¬ r.fp b → w'.heap[b]? = w.heap[b]?) (hok : r'.ok w') (hfp : ∀ b, r'.fp b → (r.fp b ∨ w.heap.size ≤ b) ∧ b < w'.heap.size) : Hp w0 B M ns (rs.set k r') w' := by
  have hr : r ∈ rs := List.mem_of_getElem? hk
  have hkl : k < rs.length := (List.getElem?_eq_some_iff.1 hk).1
  have hrk : rs[k] = r := (List.getElem?_eq_some_iff.1 hk).2
  have other : ∀ i x, rs[i]? = some x → i ≠ k → Sep r x := fun i x hi hne => sep_get h.sep hk hi (Ne.symm hne)
  have keep : ∀ i x, rs[i]? = some x → i ≠ k → x.ok w' := fun i x hi hne =>
    Res.ok_local (fun b hfb => hb b ((h.own x (List.mem_of_getElem? hi)).2 b hfb).1 fun hf => other i x hi hne (.inl hm) b hf hfb) (h.own x (List.mem_of_getElem? hi)).1
  have split : ∀ x ∈ rs.set k r', x = r' ∨ ∃ i, rs[i]? = some x ∧ i ≠ k := fun x hx => by
    obtain ⟨i, hi, hxi⟩ := List.getElem_of_mem hx
    rw [List.getElem_set] at hxi
    split at hxi
    · exact .inl hxi.symm
    · rename_i hne
      exact .inr ⟨i, List.getElem?_eq_some_iff.2 ⟨by simpa using hi, hxi⟩, fun e => hne e.symm⟩
  refine ⟨h.below.trans (M' := r.fp) ⟨os, tape, output, size, hb⟩ fun b hlt hf => ?_, fun x hx => ?_, fun x hx y hy => ?_, fun x hx => ?_, ?_⟩
  · rcases ((h.own r hr).2 b hf).2 with h1 | h1 | h1
    · omega
    · exact h1
    · rw [isAl_mut hm] at h1; cases h1.1
  · have := h.old x hx
    exact ⟨this.1, Res.ok_local (fun b hfb => hb b (this.2.2 b hfb).1 fun hf => h.nsep x hx r hr (.inr hm) b hfb hf) this.2.1, fun b hfb => ⟨Nat.lt_of_lt_of_le (this.2.2 b hfb).1 size, (this.2.2 b hfb).2⟩⟩
  · rcases split y hy with rfl | ⟨i, hi, _⟩
    · intro _ b h1 h2
      rcases (hfp b h2).1 with h3 | h3
      · exact h.nsep x hx r hr (.inr hm) b h1 h3
      · have := ((h.old x hx).2.2 b h1).1; omega
    · exact h.nsep x hx y (List.mem_of_getElem? hi)
  · rcases split x hx with rfl | ⟨i, hi, hne⟩
    · refine ⟨hok, fun b hfb => ⟨(hfp b hfb).2, ?_⟩⟩
      rcases (hfp b hfb).1 with h1 | h1
      · rcases ((h.own r hr).2 b h1).2 with h2 | h2 | h2
        · exact .inl h2
        · exact .inr (.inl h2)
        · rw [isAl_mut hm] at h2; cases h2.1
      · exact .inl (Nat.le_trans h.below.size h1)
    · have hox := h.own x (List.mem_of_getElem? hi)
      exact ⟨keep i x hi hne, fun b hfb => ⟨Nat.lt_of_lt_of_le (hox.2 b hfb).1 size, (hox.2 b hfb).2⟩⟩
  · refine List.pairwise_iff_getElem.2 fun i j hi hj hij => ?_
    have hi' : i < rs.length := by simpa using hi
    have hj' : j < rs.length := by simpa using hj
    have key : ∀ m (hm' : m < rs.length), m ≠ k → Sep r' rs[m] := fun m hm' hne => by
      have hsep : Sep r rs[m] := other m _ (List.getElem?_eq_getElem hm') hne
      intro _ b h1 h2
      rcases (hfp b h1).1 with h3 | h3
      · exact hsep (.inl hm) b h3 h2
      · have := ((h.own _ (List.getElem_mem hm')).2 b h2).1; omega
    rw [List.getElem_set, List.getElem_set]
    split
    · rename_i e; subst e
      rw [if_neg (by omega)]
      exact key j hj' (by omega)
    · split
      · rename_i e; subst e
        exact (key i hi' (by omega)).symm
      · exact List.pairwise_iff_getElem.1 h.sep i j hi' hj' hij
end


variable {B M : Nat → Prop}
/-- what is handed to a call: a resource that is only read, or an own row looked at -/
inductive Nd where
  | v (rf : Rf)
  | b (k : Nat) (q : Res)
  | w (k : Nat) (el : Nat → List Value)
/-- the resources that the items stand for; what is to be shown; whether a row is looked at -/
def ndRes (ns rs : List Res) : List Nd → Option (List Res × Prop × Bool)
  | [] => some ([], True, false)
  | .v rf :: l => match getR ns rs rf, ndRes ns rs l with
    | some r, some (q, p, b) => if r.mut then none else some (r :: q, p, b)
    | _, _ => none
  | .b k x :: l => match rs[k]?, ndRes ns rs l with
    | some r, some (q, p, _) => if x.mut then none else some (x :: q, (((∀ w, r.ok w → x.ok w) ∧ ∀ b, x.fp b → r.fp b) ∧ p), true)
    | _, _ => none
  | .w k el :: l => match rs[k]?, ndRes ns rs l with
    | some (.row A c t size n vs), some (q, p, _) => some (.view A n c size el :: q, (((∀ w, (Res.row A c t size n vs).ok w → (Res.view A n c size el).ok w) ∧ ∀ b, (Res.view A n c size el).fp b → (Res.row A c t size n vs).fp b) ∧ p), true)
    | _, _ => none
/-! ### certificates: what each operation is to be taken for -/
inductive Ct : Type 1 where
  /-- no memory is touched -/
  | p
  /-- the same, its value written otherwise -/
  | pv (v : Value)
  /-- 'pick': the end of && and || -/
  | pk
  /-- == of two structs of flat fields -/
  | ae
  /-- 'pick' whose guard is known -/
  | pt (b : Bool)
  /-- a load from an own box -/
  | ld (rf : Rf)
  /-- the address of element i of a view or a row -/
  | ia (rf : Rf) (i : Nat)
  /-- a load from element i of a view, at 'off' inside it -/
  | lv (rf : Rf) (i off : Nat)
  /-- a load of one cell from element i of a row: it holds v -/
  | lr (rf : Rf) (i : Nat) (v : Value)
  /-- x[:hi] of a slice -/
  | sh (hi : Nat)
  /-- x[lo:hi], x[lo:] of a slice -/
  | sl (lo hi : Nat)
  /-- x[:hi:mx] of a slice -/
  | s3 (hi mx : Nat)
  /-- a part of a string -/
  | ss (lo hi : Nat)
  /-- a byte of a string -/
  | sx (i : Nat)
  /-- + of strings -/
  | cc
  /-- string(b) of a view of bytes -/
  | tos (rf : Rf) (bs : List UInt8)
  /-- a still operation by an equation of the prover's own -/
  | sv (v : Value)
  /-- a call of a function without a body, by an equation -/
  | ex (ix : List Rf) (v : Value)
  /-- the guard is known to say yes -/
  | gt (c : Ct)
  /-- the guard says no -/
  | sk
  | bx
  | al
  /-- a store into an own box -/
  | st (k : Nat)
  /-- a store into element i of an own row (one cell an element) -/
  | sr (k i : Nat)
  | bs
  /-- a call by its contract -/
  | cl {U : Type} (ix : List Nd) (val : U → Value) (new als : U → List Res) (facts : U → Prop)
  /-- append to the own row k of what rf holds: then its length is n, its cells are vs -/
  | ap (k : Nat) (rf : Rf) (news : List Value) (n : Nat) (vs : List Value)
  /-- append of a string's bytes to the own row k -/
  | aps (k : Nat) (bs : List UInt8) (n : Nat) (vs : List Value)
  /-- the bytes of a string, in a new row -/
  | tb (bs : List UInt8) (vs : List Value)
  /-- the same as c, its value written otherwise -/
  | as (c : Ct) (v : Value)
  /-- make, its length n and capacity c -/
  | mk (n c : Nat) (vs : List Value)
  /-- a call of a function without a body that makes memory, by an equation -/
  | xc {U : Type} (val : U → Value) (new : U → List Res) (facts : U → Prop)
  /-- copy into the own row k from 'off' on (at0: the row's own address) of what rf holds -/
  | cp (k off : Nat) (at0 : Bool) (rf : Rf) (news : List Value)
  /-- the mark on the row of a constant: []byte("..") -/
  | ms (k : Nat)
  /-- the guard is known to say yes: an operation that makes or writes memory -/
  | ge (c : Ct)

def getRs (ns rs : List Res) : List Rf → List Res
  | [] => []
  | k :: r => match getR ns rs k with
    | some x => x :: getRs ns rs r
    | none => getRs ns rs r
theorem getRs_ok {ns rs : List Res} {w : World} (hR : ∀ r ∈ ns ++ rs, r.ok w) : ∀ {ix : List Rf}, ∀ r ∈ getRs ns rs ix, r.ok w
  | [], _, h => by cases h
  | k :: ix, r, h => by
    simp only [getRs] at h
    split at h
    · rename_i x hx
      rcases List.mem_cons.1 h with rfl | h
      · exact getR_ok hx hR
      · exact getRs_ok hR r h
    · exact getRs_ok hR r h
def argC (ctx : Ctx) (l : List Ent) : List Operand → Option (List Value)
  | [] => some []
  | x :: r => match evl ctx l x, argC ctx l r with
    | some v, some vs => some (v :: vs)
    | _, _ => none
theorem argC_ok {N : Nat} {ctx : Ctx} {l : List Ent} {a : Act} (hF : Fr N l a) (hc : ctx.ok a.tmps) : ∀ {xs : List Operand} {vs : List Value}, argC ctx l xs = some vs → xs.map a.eval = vs
  | [], vs, h => by simp [argC] at h; subst h; rfl
  | x :: r, vs, h => by
    simp only [argC] at h
    split at h
    · rename_i v vs' hv hr
      injection h with h
      subst h
      rw [List.map_cons, evl_ok hF hc hv, argC_ok hF hc hr]
    · cases h

def aggB (P : Program) (t : TypeId) : Option Bool := pureRun P (isAgg t)
def szOf (P : Program) (t : TypeId) : Option Nat := pureRun P (sizeOf t)

/-- a variable of type t at the head of these cells -/
def varAt (P : Program) (t : TypeId) (cs : List Value) : Option Value :=
  match aggB P t with
  | some true => match szOf P t with
    | some n => if Nat.ble n cs.length then some (.agg (cs.take n).toArray) else none
    | none => none
  | some false => cs.head?
  | none => none

/-- a slice's memory: address, length, cells an element -/
def Res.sl : Res → Option (Option Addr × Nat × Nat)
  | .view A n _ size _ => some (A, n, size)
  | .row A _ _ size n _ => some (A, n, size)
  | _ => none
def nilA : Addr := ⟨0, 0, none⟩

theorem underlying_of {P : Program} {t : TypeId} {d : TypeDesc} (h : pureRun P (underlying t) = some d) : P.underlying t = some d := by
  unfold underlying at h
  change pureRun P (Sem.program _) = _ at h
  simp only [pureRun, Sem.bind] at h
  cases hu : P.underlying t with
  | none => simp [hu, stuck, pureRun] at h
  | some x => simp [hu, Pure.pure, pureRun] at h; rw [h]
def fieldEq (P : Program) (t : TypeId) (x y : Option Value) : Option Bool :=
  match pureRun P (underlying t), x, y with
  | some .bool, some (.bool a), some (.bool b) => some (a == b)
  | some (.int _), some (.int k a), some (.int k' b) => if k = k' then some (a == b) else none
  | some .string, some (.string a), some (.string b) => some (a.toList == b.toList)
  | _, _, _ => none
def flatEq (P : Program) (xs ys : Array Value) : List Field → Option Bool
  | [] => some true
  | f :: fs => if f.name = "_" then none else match pureRun P (isAgg f.type) with
    | some false => match fieldEq P f.type xs[f.offset]? ys[f.offset]?, flatEq P xs ys fs with
      | some b, some r => some (b && r)
      | _, _ => none
    | _ => none
theorem fieldEq_ok {P : Program} {t : TypeId} {x y : Option Value} {b : Bool} (h : fieldEq P t x y = some b) : ∃ v u, x = some v ∧ y = some u ∧ ∀ (w : World) (d : Nat), (Op.equalIn (d + 1) t v u).run P w = .ok b w := by
  unfold fieldEq at h
  split at h
  · rename_i a c hu
    simp only [Option.some.injEq] at h
    subst h
    exact ⟨_, _, rfl, rfl, fun w d => run_equalIn_bool' w d t a c (underlying_of hu)⟩
  · rename_i kk k a k' c hu
    split at h
    · rename_i hk
      subst hk
      simp only [Option.some.injEq] at h
      subst h
      exact ⟨_, _, rfl, rfl, fun w d => run_equalIn_int w d t k kk a c (underlying_of hu)⟩
    · cases h
  · rename_i a c hu
    simp only [Option.some.injEq] at h
    subst h
    exact ⟨_, _, rfl, rfl, fun w d => run_equalIn_string w d t a c (underlying_of hu)⟩
  · cases h
theorem flatEq_ok {P : Program} {xs ys : Array Value} : ∀ {fs : List Field} {b : Bool}, flatEq P xs ys fs = some b → ∀ (w : World) (d : Nat), (Op.eqFields (d + 1) xs ys fs).run P w = .ok b w
  | [], b, h, w, d => by simp [flatEq] at h; subst h; simp [Op.eqFields]
  | f :: fs, b, h, w, d => by
    simp only [flatEq] at h
    split at h
    · cases h
    · rename_i hname
      split at h
      · rename_i hagg
        split at h
        · rename_i b1 r h1 h2
          simp only [Option.some.injEq] at h
          subst h
          obtain ⟨v, u, hx, hy, heq⟩ := fieldEq_ok h1
          have ih := flatEq_ok h2 w d
          have hp1 : ∀ w, (part f.type xs f.offset).run P w = .ok v w := fun w => by simp [part, pureRun_sound w hagg, hx]
          have hp2 : ∀ w, (part f.type ys f.offset).run P w = .ok u w := fun w => by simp [part, pureRun_sound w hagg, hy]
          simp only [Op.eqFields, ne_eq, hname, not_false_eq_true, if_true, Sem.run_bind, hp1, hp2, heq, Result.andThen_ok, Sem.run_ite]
          cases b1
          · simp
          · simpa using ih
        · cases h
      · cases h

def stillV (P : Program) (ns rs : List Res) (ctx : Ctx) (l : List Ent) (c : Ct) (o : Oper) : Option (Value × Option Prop) :=
  match c with
  | .p => if known ctx l o then match pureRun P (execOp (evd ctx l) o) with
      | some (.value v) => some (v, none)
      | _ => none else none
  | .pv u => if known ctx l o then match pureRun P (execOp (evd ctx l) o) with
      | some (.value v) => some (u, some (v = u))
      | _ => none else none
  | .ae => match o.op with
    | .binOp op t x y _ => match evl ctx l x, evl ctx l y, pureRun P (underlying t) with
      | some (.agg xs), some (.agg ys), some (.struct fs) => if P.stoodInHeld t || P.eqGuardType P.depth t then none else match op, flatEq P xs ys fs.toList with
        | .eql, some b => some (.bool b, none)
        | .neq, some b => some (.bool (!b), none)
        | _, _ => none
      | _, _, _ => none
    | _ => none
  | .sv u => if known ctx l o then some (u, some (∀ w, (∀ r ∈ ns ++ rs, r.ok w) → (execOp (evd ctx l) o).run P w = .ok (.value u) w)) else none
  | .pk => match o.op with
    | .pick (.tmp t) a b => match look ctx l t, evl ((t, true) :: ctx) l a, evl ((t, false) :: ctx) l b with
      | some (.bool cb), some va, some vb => match a, b with
        | .const (.bool true), _ => match vb with
          | .bool y => some (.bool (cb || y), none)
          | _ => none
        | _, .const (.bool false) => match va with
          | .bool x => some (.bool (cb && x), none)
          | _ => none
        | _, _ => some (bif cb then va else vb, none)
      | _, _, _ => none
    | _ => none
  | .pt bb => match o.op with
    | .pick (.tmp t) x y => match look ctx l t, (if bb then evl ((t, true) :: ctx) l x else evl ((t, false) :: ctx) l y) with
      | some (.bool cb), some v => some (v, some (cb = bb))
      | _, _ => none
    | _ => none
  | .ld rf => match o.op with
    | .load t x => match evl ctx l x, getR ns rs rf with
      | some (.pointer (some ad)), some (.box g _ cs) => match varAt P t (cs.drop ad.off) with
        | some v => some (v, some (ad.block = g ∧ ad.spot = none))
        | none => none
      | _, _ => none
    | _ => none
  | .ia rf i => match o.op with
    | .indexAddr t x ix => match evl ctx l x, evl ctx l ix, getR ns rs rf, pureRun P (underlying t) with
      | some (.slice A n _), some (.int _ q), some r, some (.slice e) => match szOf P e, r.sl with
        | some sz, some (A', n', size) => some (.pointer (some ((A.getD nilA).add (i * size))), some (A = A' ∧ n = n' ∧ size = sz ∧ q = (i : Int) ∧ i < n))
        | _, _ => none
      | _, _, _, _ => none
    | _ => none
  | .lv rf i off => match o.op with
    | .load t x => match evl ctx l x, getR ns rs rf with
      | some (.pointer (some ad)), some (.view A n _ size el) => match varAt P t ((el i).drop off) with
        | some v => some (v, some (ad = ((A.getD nilA).add (i * size)).add off ∧ i < n))
        | none => none
      | _, _ => none
    | _ => none
  | .lr rf i v => match o.op with
    | .load t x => match evl ctx l x, getR ns rs rf, aggB P t with
      | some (.pointer (some ad)), some (.row A _ _ size n xs), some false => some (v, some (ad = (A.getD nilA).add (i * size) ∧ i < n ∧ xs[i * size]? = some v))
      | _, _, _ => none
    | _ => none
  | .sh hi => match o.op with
    | .slice t x none (some y) none => match evl ctx l x, evl ctx l y, pureRun P (underlying t) with
      | some (.slice A _ c), some (.int _ q), some (.slice e) => match szOf P e with
        | some _ => some (.slice A hi c, some (q = (hi : Int) ∧ hi ≤ c))
        | none => none
      | _, _, _ => none
    | _ => none
  | .sl lo hi => match o.op with
    | .slice t x (some y) z none => match evl ctx l x, evl ctx l y, pureRun P (underlying t) with
      | some (.slice A n c), some (.int _ q), some (.slice e) => match szOf P e, z with
        | some size, none => some (.slice (if c = lo then A else A.map (·.add (lo * size))) (hi - lo) (c - lo), some (q = (lo : Int) ∧ hi = n ∧ lo ≤ hi ∧ hi ≤ c))
        | some size, some z => match evl ctx l z with
          | some (.int _ qz) => some (.slice (if c = lo then A else A.map (·.add (lo * size))) (hi - lo) (c - lo), some (q = (lo : Int) ∧ qz = (hi : Int) ∧ lo ≤ hi ∧ hi ≤ c))
          | _ => none
        | _, _ => none
      | _, _, _ => none
    | _ => none
  | .s3 hi mx => match o.op with
    | .slice t x none (some y) (some z) => match evl ctx l x, evl ctx l y, evl ctx l z, pureRun P (underlying t) with
      | some (.slice A _ c), some (.int _ q), some (.int _ qz), some (.slice e) => match szOf P e with
        | some _ => some (.slice A hi mx, some (q = (hi : Int) ∧ qz = (mx : Int) ∧ hi ≤ mx ∧ mx ≤ c))
        | none => none
      | _, _, _, _ => none
    | _ => none
  | .ss lo hi => match o.op with
    | .slice t x y z none => match evl ctx l x, pureRun P (underlying t) with
      | some (.string s), some .string => match (match y with | none => some (Value.int .i64 0) | some y => evl ctx l y), (match z with | none => some (Value.int .i64 s.size) | some z => evl ctx l z) with
        | some (.int _ q), some (.int _ qz) => some (.string (s.extract lo hi), some (q = (lo : Int) ∧ qz = (hi : Int) ∧ lo ≤ hi ∧ hi ≤ s.size))
        | _, _ => none
      | _, _ => none
    | _ => none
  | .sx i => match o.op with
    | .index t x y => match evl ctx l x, evl ctx l y, pureRun P (underlying t) with
      | some (.string s), some (.int _ q), some .string => some (.int .u8 ((s.data.toList.getD i 0).toNat : Int), some (q = (i : Int) ∧ i < s.size))
      | _, _, _ => none
    | _ => none
  | .cc => match o.op with
    | .binOp .add _ x y _ => match evl ctx l x, evl ctx l y with
      | some (.string s), some (.string t) => some (.string (s ++ t), some (s.size + t.size ≤ 9223372036854775807))
      | _, _ => none
    | _ => none
  | .tos rf bs => match o.op with
    | .convert src dst x => match evl ctx l x, getR ns rs rf, pureRun P (underlying src), pureRun P (underlying dst) with
      | some (.slice A n _), some (.view A' n' _ size el), some (.slice e), some .string => match pureRun P (underlying e) with
        | some (.int .u8) => some (.string ⟨bs.toArray⟩, some (A = A' ∧ n = n' ∧ size = 1 ∧ n = bs.length ∧ ∀ i, i < n → el i = [.int .u8 ((bs.getD i 0).toNat : Int)]))
        | _ => none
      | _, _, _, _ => none
    | _ => none
  | .ex ix v => match o.op with
    | .call { callee := .value x, args, .. } => match evl ctx l x, argC ctx l args.toList with
      | some (.func (.func f) ⟨[]⟩ ⟨[]⟩), some vs => some (v, some (∀ w, (∀ r ∈ getRs ns rs ix, r.ok w) → (callFunc f vs.toArray).run P w = .ok (.value v) w))
      | _, _ => none
    | _ => none
  | _ => none

def stillVal (P : Program) (ns rs : List Res) (ctx : Ctx) (l : List Ent) (c : Ct) (o : Oper) : Option (Value × Option Prop) :=
  match c with
  | .as c u => match stillV P ns rs ctx l c o with
    | some (v, none) => some (u, some (v = u))
    | some (v, some p) => some (u, some (p ∧ v = u))
    | none => none
  | c => stillV P ns rs ctx l c o

theorem run_isAgg_of {P : Program} {t : TypeId} {b : Bool} (w : World) (h : aggB P t = some b) : (isAgg t).run P w = .ok b w := pureRun_sound w h
theorem run_sizeOf_of {P : Program} {t n : Nat} (w : World) (h : szOf P t = some n) : (sizeOf t).run P w = .ok n w := pureRun_sound w h

theorem run_loadVar_of {P : Program} {w : World} {t : TypeId} {cs : List Value} {v : Value} {a : Addr} (hc : ∀ j u, cs[j]? = some u → w.cell? (a.add j) = some u) (h : varAt P t cs = some v) : (loadVar t a).run P w = .ok v w := by
  unfold varAt at h
  cases hb : aggB P t with
  | none => rw [hb] at h; cases h
  | some b =>
    rw [hb] at h
    cases b with
    | true =>
      simp only at h
      cases hn : szOf P t with
      | none => rw [hn] at h; cases h
      | some n =>
        rw [hn] at h
        simp only at h
        split at h
        · rename_i hle
          injection h with h
          subst h
          have hle' := Nat.le_of_ble_eq_true hle
          have hl := run_loadCells_list (P := P) w a (cs.take n) (fun j u hu => hc j u (by
            rw [List.getElem?_take] at hu
            split at hu
            · exact hu
            · cases hu))
          have hlen : (cs.take n).length = n := by simp; omega
          rw [hlen] at hl
          simp only [loadVar, Sem.run_bind, run_isAgg_of w hb, Result.andThen_ok, run_sizeOf_of w hn, if_true, hl, Sem.run_pure]
        · cases h
    | false =>
      simp only at h
      have h0 := hc 0 v (by rw [← List.head?_eq_getElem?]; exact h)
      have ha : a.add 0 = a := by unfold Addr.add; simp
      rw [ha] at h0
      simp only [loadVar, Sem.run_bind, run_isAgg_of w hb, Result.andThen_ok, Bool.false_eq_true, if_false, load, Sem.run, h0]


theorem row_cells {w : World} {ad : Addr} {c e size n : Nat} {xs : List Value} (h : rowOk w (some ad) c e size n xs) : ∀ j u, xs[j]? = some u → w.cell? (ad.add j) = some u := by
  intro j u hu
  rcases h.2 with ⟨h0, _⟩ | ⟨g, cur, fz, hA, hg, _, _, _, _, htake⟩
  · cases h0
  · injection hA with hA
    subst hA
    have hadd : (⟨g, 0, none⟩ : Addr).add j = ⟨g, j, none⟩ := by unfold Addr.add; split <;> simp_all
    rw [hadd, cell_of_row w g j cur e fz hg]
    rw [← htake, List.getElem?_take] at hu
    split at hu
    · simpa using hu
    · cases hu
theorem sl_some {w : World} {r : Res} {A : Option Addr} {n size : Nat} (h : r.ok w) (hs : r.sl = some (A, n, size)) (hn : 0 < n) : ∃ ad, A = some ad := by
  cases r with
  | view A' n' c' size' el =>
    simp only [Res.sl, Option.some.injEq, Prod.mk.injEq] at hs
    obtain ⟨rfl, rfl, rfl⟩ := hs
    obtain ⟨ad, hA, _⟩ := h.2.2 hn
    exact ⟨ad, hA⟩
  | row A' c' e' size' n' xs =>
    simp only [Res.sl, Option.some.injEq, Prod.mk.injEq] at hs
    obtain ⟨rfl, rfl, rfl⟩ := hs
    rcases h.2 with ⟨_, _, h0⟩ | ⟨g, cur, fz, hA, _⟩
    · omega
    · exact ⟨_, hA⟩
  | box _ _ _ => simp [Res.sl] at hs
  | al _ => simp [Res.sl] at hs
  | fam _ _ => simp [Res.sl] at hs

theorem addMap0 (A : Option Addr) : A.map (·.add 0) = A := by
  cases A with
  | none => rfl
  | some a => simp [Addr.add]

theorem run_loadBytes_loop {P : Program} {w : World} (f : Value → ByteArray → Sem (ForInStep ByteArray)) (hf : ∀ n s, f (.int .u8 n) s = pure (.yield (s.push (UInt8.ofNat n.toNat)))) : ∀ (bs : List UInt8) (acc : ByteArray),
    (ForIn.forIn (m := Sem) (bs.map fun b => Value.int .u8 ((b.toNat : Nat) : Int)) acc f).run P w = .ok ⟨acc.data ++ bs.toArray⟩ w
  | [], acc => by simp
  | b :: r, acc => by
    have := run_loadBytes_loop (P := P) (w := w) f hf r (acc.push (UInt8.ofNat (((b.toNat : Nat) : Int)).toNat))
    simp only [List.map_cons, List.forIn_cons, hf, Sem.run_bind, Sem.run_pure, Result.andThen_ok]
    rw [this]
    simp [ByteArray.push]

def sideP : Option Prop → Prop
  | none => True
  | some p => p

theorem stillV_sound {P : Program} {N : Nat} {ns rs : List Res} {ctx : Ctx} {l : List Ent} {c : Ct} {o : Oper} {v : Value} {p : Option Prop} {a : Act} {w : World}
    (h : stillV P ns rs ctx l c o = some (v, p)) (hp : sideP p) (hF : Fr N l a) (hc : ctx.ok a.tmps) (hR : ∀ r ∈ ns ++ rs, r.ok w) : (execOp a.eval o).run P w = .ok (.value v) w := by
  have hget : ∀ {rf : Rf} {r : Res}, getR ns rs rf = some r → r.ok w := by
    intro rf r hr
    exact getR_ok hr hR
  unfold stillV at h
  split at h
  · -- p
    split at h
    · rename_i hk
      split at h
      · rename_i u hu
        simp only [Option.some.injEq, Prod.mk.injEq] at h
        obtain ⟨rfl, rfl⟩ := h
        rw [exec_known hF hc hk]
        exact pureRun_sound w hu
      · cases h
    · cases h
  · -- pv
    split at h
    · rename_i hk
      split at h
      · rename_i u hu
        simp only [Option.some.injEq, Prod.mk.injEq] at h
        obtain ⟨rfl, rfl⟩ := h
        rw [exec_known hF hc hk]
        simp only [sideP] at hp
        subst hp
        exact pureRun_sound w hu
      · cases h
    · cases h
  · -- ae
    split at h
    · rename_i op t x y _ hop
      split at h
      · rename_i xs ys fs hx hy hu
        split at h
        · cases h
        · rename_i hg
          simp only [Bool.or_eq_true, not_or, Bool.not_eq_true] at hg
          have hut := underlying_of hu
          have hfo : P.fieldsOf t = fs := by unfold Program.fieldsOf; rw [hut]
          split at h
          · rename_i b hfe
            simp only [Option.some.injEq, Prod.mk.injEq] at h
            obtain ⟨rfl, rfl⟩ := h
            unfold execOp
            simp only [hop, evl_ok hF hc hx, evl_ok hF hc hy, Sem.run_bind, run_eqGuard_agg w _ t _ _ xs ys hg.2, Result.andThen_ok, run_eql_struct]
            rw [show (10000 : Nat) = 9998 + 1 + 1 from rfl, run_equalIn_agg w _ t xs ys (by rw [hfo]; exact hut) hg.1, hfo, flatEq_ok hfe w 9998]
            rfl
          · rename_i b hfe
            simp only [Option.some.injEq, Prod.mk.injEq] at h
            obtain ⟨rfl, rfl⟩ := h
            unfold execOp
            simp only [hop, evl_ok hF hc hx, evl_ok hF hc hy, Sem.run_bind, run_eqGuard_agg w _ t _ _ xs ys hg.2, Result.andThen_ok, run_neq_struct]
            rw [show (10000 : Nat) = 9998 + 1 + 1 from rfl, run_equalIn_agg w _ t xs ys (by rw [hfo]; exact hut) hg.1, hfo, flatEq_ok hfe w 9998]
            rfl
          · cases h
      · cases h
    · cases h
  · -- sv
    split at h
    · rename_i hk
      simp only [Option.some.injEq, Prod.mk.injEq] at h
      obtain ⟨rfl, rfl⟩ := h
      rw [exec_known hF hc hk]
      exact hp w hR
    · cases h
  · -- pk
    split at h
    · rename_i t xa xb hop
      split at h
      · rename_i cb va vb hl ha hb
        have e0 : a.eval (.tmp t) = .bool cb := look_ok hF.ent hc hl
        have eab : (if cb = true then a.eval xa else a.eval xb) = bif cb then va else vb := by
          cases cb with
          | true =>
            have : Ctx.ok a.tmps ((t, true) :: ctx) := fun x hx => by
              rcases List.mem_cons.1 hx with rfl | hx
              · exact e0
              · exact hc x hx
            simp [evl_ok hF this ha]
          | false =>
            have : Ctx.ok a.tmps ((t, false) :: ctx) := fun x hx => by
              rcases List.mem_cons.1 hx with rfl | hx
              · exact e0
              · exact hc x hx
            simp [evl_ok hF this hb]
        have hrun : (execOp a.eval o).run P w = .ok (.value (bif cb then va else vb)) w := by
          unfold execOp
          simp only [hop, Sem.run_bind, e0, asBool, Sem.run_pure, Result.andThen_ok, eab]
        rw [hrun]
        split at h
        · simp only [evl, Option.some.injEq] at ha
          subst ha
          split at h
          · simp only [Option.some.injEq, Prod.mk.injEq] at h
            obtain ⟨rfl, _⟩ := h
            cases cb <;> rfl
          · cases h
        · simp only [evl, Option.some.injEq] at hb
          subst hb
          split at h
          · simp only [Option.some.injEq, Prod.mk.injEq] at h
            obtain ⟨rfl, _⟩ := h
            cases cb <;> rfl
          · cases h
        · simp only [Option.some.injEq, Prod.mk.injEq] at h
          obtain ⟨rfl, _⟩ := h
          rfl
      · cases h
    · cases h
  · -- pt
    split at h
    · rename_i t xa xb hop
      split at h
      · rename_i cb va hl ha
        simp only [Option.some.injEq, Prod.mk.injEq] at h
        obtain ⟨rfl, rfl⟩ := h
        have hcb : cb = _ := hp
        subst hcb
        have e0 : a.eval (.tmp t) = .bool cb := look_ok hF.ent hc hl
        have eab : (if cb = true then a.eval xa else a.eval xb) = va := by
          cases cb with
          | true =>
            have : Ctx.ok a.tmps ((t, true) :: ctx) := fun x hx => by
              rcases List.mem_cons.1 hx with rfl | hx
              · exact e0
              · exact hc x hx
            simp only [if_true] at ha
            simp [evl_ok hF this ha]
          | false =>
            have : Ctx.ok a.tmps ((t, false) :: ctx) := fun x hx => by
              rcases List.mem_cons.1 hx with rfl | hx
              · exact e0
              · exact hc x hx
            simp only [Bool.false_eq_true, if_false] at ha
            simp [evl_ok hF this ha]
        unfold execOp
        simp only [hop, Sem.run_bind, e0, asBool, Sem.run_pure, Result.andThen_ok, eab]
      · cases h
    · cases h
  · -- ld
    split at h
    · rename_i t x hop
      split at h
      · rename_i ad g tb cs hx hr
        split at h
        · rename_i u hu
          simp only [Option.some.injEq, Prod.mk.injEq] at h
          obtain ⟨rfl, rfl⟩ := h
          obtain ⟨h1, h2⟩ := hp
          have hb : w.heap[g]? = some (.cells cs.toArray tb (0, 0)) := hget hr
          have hcell : ∀ j y, (cs.drop ad.off)[j]? = some y → w.cell? (ad.add j) = some y := by
            intro j y hy
            have : ad.add j = ⟨g, ad.off + j, none⟩ := by
              obtain ⟨b, o, s⟩ := ad
              simp only at h1 h2
              subst h1; subst h2
              unfold Addr.add
              split <;> simp_all
            rw [this, cell_of_row w g _ _ _ _ hb]
            rw [List.getElem?_drop] at hy
            simpa using hy
          unfold execOp
          simp only [hop, evl_ok hF hc hx, Instr.loadAt, Instr.sureAddr, Sem.run_bind, Sem.run_pure, Result.andThen_ok, run_loadVar_of hcell hu]
        · cases h
      · cases h
    · cases h
  · -- ia
    split at h
    · rename_i t x ix hop
      split at h
      · rename_i A n cp k q r e hx hix hr hu
        split at h
        · rename_i sz A' n' size hsz hsl
          simp only [Option.some.injEq, Prod.mk.injEq] at h
          obtain ⟨rfl, rfl⟩ := h
          obtain ⟨rfl, rfl, rfl, rfl, hlt⟩ := hp
          obtain ⟨ad, rfl⟩ := sl_some (hget hr) hsl (by omega)
          have hund := pureRun_sound w hu
          unfold execOp
          simp only [hop, evl_ok hF hc hx, evl_ok hF hc hix, Instr.indexAt, asIntOf, Sem.run_bind, Sem.run_pure, Result.andThen_ok, hund]
          simp [run_sizeOf_of w hsz, hlt]
        · cases h
      · cases h
    · cases h
  · -- lv
    rename_i rf i off
    split at h
    · rename_i t x hop
      split at h
      · rename_i ad A n c' size el hx hr
        split at h
        · rename_i u hu
          simp only [Option.some.injEq, Prod.mk.injEq] at h
          obtain ⟨rfl, rfl⟩ := h
          obtain ⟨rfl, hlt⟩ := hp
          have hv := hget hr
          obtain ⟨ad, rfl, hel⟩ := hv.2.2 (by omega)
          have hcell : ∀ j y, ((el i).drop off)[j]? = some y → w.cell? (((ad.add (i * size)).add off).add j) = some y := by
            intro j y hy
            rw [add_add, add_add]
            rw [List.getElem?_drop] at hy
            exact (hel _ hlt).2 _ y hy
          unfold execOp
          simp only [hop, evl_ok hF hc hx, Instr.loadAt, Instr.sureAddr, Sem.run_bind, Sem.run_pure, Result.andThen_ok, Option.getD_some, run_loadVar_of hcell hu]
        · cases h
      · cases h
    · cases h
  · -- lr
    rename_i rf i v'
    split at h
    · rename_i t x hop
      split at h
      · rename_i ad A cp e size n xs hx hr hagg
        simp only [Option.some.injEq, Prod.mk.injEq] at h
        obtain ⟨rfl, rfl⟩ := h
        obtain ⟨rfl, hlt, hxs⟩ := hp
        have hrow := hget hr
        obtain ⟨ad, rfl⟩ := sl_some hrow rfl (by omega)
        have hcl : w.cell? (ad.add (i * size)) = some v' := row_cells hrow (i * size) v' hxs
        unfold execOp
        simp only [hop, evl_ok hF hc hx, Instr.loadAt, Instr.sureAddr, loadVar, run_isAgg_of w hagg, Sem.run_bind, Sem.run_pure, Result.andThen_ok, Option.getD_some, Bool.false_eq_true, if_false, load, Sem.run, hcl]
      · cases h
    · cases h
  · -- sh
    rename_i hi
    split at h
    · rename_i t x y hop
      split at h
      · rename_i A n cp k q e hx hy hu
        split at h
        · rename_i size hsz
          simp only [Option.some.injEq, Prod.mk.injEq] at h
          obtain ⟨rfl, rfl⟩ := h
          obtain ⟨rfl, hle⟩ := hp
          have hund := pureRun_sound w hu
          unfold execOp
          simp only [hop, evl_ok hF hc hx, evl_ok hF hc hy, Option.map_some, Option.map_none, Instr.sliceAt, Sem.run_bind, hund, Result.andThen_ok, Instr.slice, Instr.sliceBounds, Instr.sliceBound, asIntOf, Sem.run_pure]
          have hcond : (0 : Int) ≤ (hi : Int) ∧ (hi : Int) ≤ (cp : Int) := ⟨by omega, by omega⟩
          simp only [hcond, and_self, if_true, Sem.run_pure, Result.andThen_ok, run_sizeOf_of w hsz, Int.toNat_natCast, Nat.zero_mul, Nat.sub_zero, addMap0, ite_self]
        · cases h
      · cases h
    · cases h
  · -- sl
    rename_i lo hi
    split at h
    · rename_i t x y z hop
      split at h
      · rename_i A n cp k q e hx hy hu
        have hund := pureRun_sound w hu
        split at h
        · rename_i size hsz
          simp only [Option.some.injEq, Prod.mk.injEq] at h
          obtain ⟨rfl, rfl⟩ := h
          obtain ⟨rfl, rfl, hle, hle2⟩ := hp
          unfold execOp
          simp only [hop, evl_ok hF hc hx, evl_ok hF hc hy, Option.map_some, Option.map_none, Instr.sliceAt, Sem.run_bind, hund, Result.andThen_ok, Instr.slice, Instr.sliceBounds, Instr.sliceBound, asIntOf, Sem.run_pure]
          have hcond : (0 : Int) ≤ (lo : Int) ∧ (lo : Int) ≤ (hi : Int) := ⟨by omega, by omega⟩
          simp only [hcond, and_self, if_true, Sem.run_pure, Result.andThen_ok, run_sizeOf_of w hsz, Int.toNat_natCast]
        · rename_i size z hsz
          split at h
          · rename_i kz qz hz
            simp only [Option.some.injEq, Prod.mk.injEq] at h
            obtain ⟨rfl, rfl⟩ := h
            obtain ⟨rfl, rfl, hle, hle2⟩ := hp
            unfold execOp
            simp only [hop, evl_ok hF hc hx, evl_ok hF hc hy, evl_ok hF hc hz, Option.map_some, Option.map_none, Instr.sliceAt, Sem.run_bind, hund, Result.andThen_ok, Instr.slice, Instr.sliceBounds, Instr.sliceBound, asIntOf, Sem.run_pure]
            have hcond : (0 : Int) ≤ (lo : Int) ∧ (lo : Int) ≤ (hi : Int) := ⟨by omega, by omega⟩
            have hcond2 : (0 : Int) ≤ (hi : Int) ∧ (hi : Int) ≤ (cp : Int) := ⟨by omega, by omega⟩
            simp only [hcond, hcond2, and_self, if_true, Sem.run_ite, Sem.run_pure, Result.andThen_ok, run_sizeOf_of w hsz, Int.toNat_natCast]
          · cases h
        · cases h
      · cases h
    · cases h
  · -- s3
    rename_i hi mx
    split at h
    · rename_i t x y z hop
      split at h
      · rename_i A n cp k q kz qz e hx hy hz hu
        split at h
        · rename_i size hsz
          simp only [Option.some.injEq, Prod.mk.injEq] at h
          obtain ⟨rfl, rfl⟩ := h
          obtain ⟨rfl, rfl, hle, hle2⟩ := hp
          have hund := pureRun_sound w hu
          unfold execOp
          simp only [hop, evl_ok hF hc hx, evl_ok hF hc hy, evl_ok hF hc hz, Option.map_some, Option.map_none, Instr.sliceAt, Sem.run_bind, hund, Result.andThen_ok, Instr.slice, Instr.sliceBounds, Instr.sliceBound, asIntOf, Sem.run_pure]
          have hcond : (0 : Int) ≤ (hi : Int) ∧ (hi : Int) ≤ (mx : Int) := ⟨by omega, by omega⟩
          have hcond2 : (0 : Int) ≤ (mx : Int) ∧ (mx : Int) ≤ (cp : Int) := ⟨by omega, by omega⟩
          simp only [hcond, hcond2, and_self, if_true, Sem.run_pure, Result.andThen_ok, run_sizeOf_of w hsz, Int.toNat_natCast, Nat.zero_mul, Nat.sub_zero, addMap0, ite_self]
        · cases h
      · cases h
    · cases h
  · -- ss
    rename_i lo hi
    split at h
    · rename_i t x y z hop
      split at h
      · rename_i s hx hu
        have hund := pureRun_sound w hu
        split at h
        · rename_i k q kz qz hy hz
          simp only [Option.some.injEq, Prod.mk.injEq] at h
          obtain ⟨rfl, rfl⟩ := h
          obtain ⟨rfl, rfl, hle, hle2⟩ := hp
          have hcond : (0 : Int) ≤ (lo : Int) ∧ (lo : Int) ≤ (hi : Int) := ⟨by omega, by omega⟩
          have hcond2 : (0 : Int) ≤ (hi : Int) ∧ (hi : Int) ≤ (s.size : Int) := ⟨by omega, by omega⟩
          unfold execOp
          cases y with
          | none =>
            simp only [Option.some.injEq, Value.int.injEq] at hy
            obtain ⟨_, hlo⟩ := hy
            have hlo' : lo = 0 := by omega
            subst hlo'
            cases z with
            | none =>
              simp only [Option.some.injEq, Value.int.injEq] at hz
              obtain ⟨_, hhi⟩ := hz
              have hhi' : hi = s.size := by omega
              subst hhi'
              simp [hop, evl_ok hF hc hx, Instr.sliceAt, hund, Instr.slice, Instr.sliceBounds]
            | some z =>
              simp only at hz
              simp [hop, evl_ok hF hc hx, evl_ok hF hc hz, Instr.sliceAt, hund, Instr.slice, Instr.sliceBounds, Instr.sliceBound, asIntOf, hle2]
          | some y =>
            simp only at hy
            cases z with
            | none =>
              simp only [Option.some.injEq, Value.int.injEq] at hz
              obtain ⟨_, hhi⟩ := hz
              have hhi' : hi = s.size := by omega
              subst hhi'
              simp [hop, evl_ok hF hc hx, evl_ok hF hc hy, Instr.sliceAt, hund, Instr.slice, Instr.sliceBounds, Instr.sliceBound, asIntOf, hle]
            | some z =>
              simp only at hz
              simp [hop, evl_ok hF hc hx, evl_ok hF hc hy, evl_ok hF hc hz, Instr.sliceAt, hund, Instr.slice, Instr.sliceBounds, Instr.sliceBound, asIntOf, hle2, hle]
        · cases h
      · cases h
    · cases h
  · -- sx
    rename_i i
    split at h
    · rename_i t x y hop
      split at h
      · rename_i s k q hx hy hu
        simp only [Option.some.injEq, Prod.mk.injEq] at h
        obtain ⟨rfl, rfl⟩ := h
        obtain ⟨rfl, hlt⟩ := hp
        have hund := pureRun_sound w hu
        have hb : s[i]? = some (s.data.toList.getD i 0) := by
          rw [getElem?_pos s i hlt]
          congr 1
          have : i < s.data.toList.length := by simpa using hlt
          rw [List.getD_eq_getElem?_getD, List.getElem?_eq_getElem this, Option.getD_some]
          rfl
        unfold execOp
        simp [hop, evl_ok hF hc hx, evl_ok hF hc hy, Instr.index, asIntOf, hund, hb]
      · cases h
    · cases h
  · -- cc
    split at h
    · rename_i t x y t2 hop
      split at h
      · rename_i s u hx hy
        simp only [Option.some.injEq, Prod.mk.injEq] at h
        obtain ⟨rfl, rfl⟩ := h
        have hle : ¬ (((s.size + u.size : Nat) : Int) > IntKind.i64.max) := by
          have : s.size + u.size ≤ 9223372036854775807 := hp
          have h2 : IntKind.i64.max = 9223372036854775807 := by decide
          rw [h2]; omega
        unfold execOp
        simp only [hop, evl_ok hF hc hx, evl_ok hF hc hy, eqGuard, binOp, Op.stringOp, hle, if_false, Sem.run_bind, Sem.run_pure]
        simp
      · cases h
    · cases h
  · -- tos
    rename_i rf bs
    split at h
    · rename_i src dst x hop
      split at h
      · rename_i A n cp A' n' c' size el e hx hr hs hd
        split at h
        · rename_i he
          simp only [Option.some.injEq, Prod.mk.injEq] at h
          obtain ⟨rfl, rfl⟩ := h
          obtain ⟨rfl, rfl, rfl, hn, hel⟩ := hp
          have hv := hget hr
          have hs' := pureRun_sound w hs
          have hd' := pureRun_sound w hd
          have he' := pureRun_sound w he
          have hconv : (Conv.bytesToString (.slice A n cp)).run P w = .ok (.string ⟨bs.toArray⟩) w := by
            cases A with
            | none =>
              have : n = 0 := by
                rcases Nat.eq_zero_or_pos n with h0 | h0
                · exact h0
                · obtain ⟨ad, hA, _⟩ := hv.2.2 h0; cases hA
              have hbs : bs = [] := List.eq_nil_of_length_eq_zero (by omega)
              subst hbs
              rfl
            | some ad =>
              have hl := run_loadCells_list (P := P) w ad (bs.map fun b => Value.int .u8 ((b.toNat : Nat) : Int)) (fun j u hu => by
                rw [List.getElem?_map] at hu
                cases hb : bs[j]? with
                | none => rw [hb] at hu; cases hu
                | some b =>
                  rw [hb] at hu
                  simp only [Option.map_some, Option.some.injEq] at hu
                  have hj : j < n := by rw [hn]; exact (List.getElem?_eq_some_iff.1 hb).1
                  obtain ⟨ad', hA, hcells⟩ := hv.2.2 (by omega)
                  injection hA with hA
                  subst hA
                  have := (hcells j hj).2 0 u (by rw [hel j hj]; simp [hb, hu])
                  simpa using this)
              rw [List.length_map, ← hn] at hl
              simp only [Conv.bytesToString, Sem.run_bind, hl, Result.andThen_ok]
              have hloop := fun f hf => run_loadBytes_loop (P := P) (w := w) f hf bs ByteArray.empty
              rw [List.forIn_toArray]
              rw [hloop _ (fun _ _ => rfl)]
              have e0 : ByteArray.empty.data = #[] := rfl
              rw [e0]
              simp
          unfold execOp
          simp only [hop, evl_ok hF hc hx, convert, Sem.run_bind, hs', hd', he', Result.andThen_ok, hconv, Sem.run_pure]
        · cases h
      · cases h
    · cases h
  · -- ex
    rename_i ix v'
    split at h
    · rename_i x xs ats hop
      split at h
      · rename_i f vs hx hvs
        simp only [Option.some.injEq, Prod.mk.injEq] at h
        obtain ⟨rfl, rfl⟩ := h
        have hrun := hp w (getRs_ok hR)
        have e3 : xs.map a.eval = vs.toArray := by
          rw [← argC_ok hF hc hvs]
          apply Array.toList_inj.1
          simp
        unfold execOp
        simp only [hop, resolve, evl_ok hF hc hx, Deferred.ofValue, invoke, Sem.run_bind, Sem.run_pure, Result.andThen_ok, e3, Array.empty_append, Array.append_empty]
        exact hrun
      · cases h
    · cases h
  · cases h


theorem still_sound {P : Program} {N : Nat} {ns rs : List Res} {ctx : Ctx} {l : List Ent} {c : Ct} {o : Oper} {v : Value} {p : Option Prop} {a : Act} {w : World}
    (h : stillVal P ns rs ctx l c o = some (v, p)) (hp : sideP p) (hF : Fr N l a) (hc : ctx.ok a.tmps) (hR : ∀ r ∈ ns ++ rs, r.ok w) : (execOp a.eval o).run P w = .ok (.value v) w := by
  unfold stillVal at h
  split at h
  · split at h
    · rename_i hv
      simp only [Option.some.injEq, Prod.mk.injEq] at h
      obtain ⟨rfl, rfl⟩ := h
      rw [stillV_sound hv trivial hF hc hR, show _ = _ from hp]
    · rename_i hv
      simp only [Option.some.injEq, Prod.mk.injEq] at h
      obtain ⟨rfl, rfl⟩ := h
      rw [stillV_sound hv hp.1 hF hc hR, show _ = _ from hp.2]
    · cases h
  · exact stillV_sound h hp hF hc hR

/-- under the guards of the context -/
def impl (l : List Ent) : Ctx → Prop → Prop
  | [], p => p
  | (g, b) :: r, p => impl l r (match look r l g with | some (.bool x) => (x = b → p) | _ => p)

theorem impl_ok {N : Nat} {l : List Ent} {a : Act} (hF : Fr N l a) : ∀ {ctx : Ctx} {p : Prop}, ctx.ok a.tmps → impl l ctx p → p
  | [], _, _, h => h
  | (g, b) :: r, p, hc, h => by
    have hr : Ctx.ok a.tmps r := fun x hx => hc x (List.mem_cons_of_mem _ hx)
    have h1 := impl_ok hF hr h
    have hg := hc (g, b) List.mem_cons_self
    simp only at hg
    split at h1
    · rename_i x hl
      have := look_ok hF.ent hr hl
      rw [hg] at this
      injection this with this
      exact h1 this.symm
    · exact h1

def andP (l : List Ent) (ctx : Ctx) : Option Prop → Prop → Prop
  | none, k => k
  | some p, k => impl l ctx p ∧ k

def sctx : Ct → Ctx → Ctx
  | .ld _, _ => []
  | _, ctx => ctx
theorem sctx_ok {t : Array Value} {c : Ct} {ctx : Ctx} (h : ctx.ok t) : (sctx c ctx).ok t := by
  cases c <;> first | exact h | exact fun x hx => by cases hx

def gcond (ops : Array Oper) (o : Oper) : Option (Nat × Bool) :=
  match o.guard with
  | none => none
  | some (j, b) => match gslot ops j with
    | some g => some (g, b)
    | none => none

def okDst (N d : Nat) (c : Option (Nat × Bool)) : Bool :=
  Nat.blt d N && (match c with | some (g, _) => !(Nat.beq g d) | none => true)

def allOne : List Value → Bool
  | [] => true
  | v :: r => v.oneCell' && allOne r

def rowCells (P : Program) (ctx : Ctx) (l : List Ent) (elem : TypeId) (len : Nat) (parts : Array (Nat × Operand)) : Option (Array Value) :=
  match szOf P elem, pureRun P (zeroValue elem) with
  | some size, some z =>
    if Nat.ble (len * size) 16777216 && !(Nat.beq (len * size) 0) then
      Instr.fill (fun i => some (i * size, size)) ((Array.range (len * size)).map (z.cells[· % z.cells.size]!)) (parts.map fun (i, x) => (i, evd ctx l x)).toList
    else if Nat.beq len 0 && parts.toList.isEmpty then some #[] else none
  | _, _ => none

/-! ### calls -/
/-- what a call gives: val u, new resources, such as may share memory with what it read, facts on u -/
def CallOk (P : Program) (f : FuncId) (args : List Value) (need mneed : List Res) {U : Type} (val : U → Value) (new als : U → List Res) (facts : U → Prop) : Prop :=
  ∀ w, NeedOk w need mneed → Calls P f args.toArray w fun e w' => ∃ u, e = .returned (val u) ∧ Kept (fpL mneed) w w' ∧ facts u ∧ NewOk w (fpL need) (fpL mneed) w' (new u) (als u)
def allRd : List Res → Bool
  | [] => true
  | r :: l => !r.mut && allRd l
theorem allRd_ok : ∀ {l : List Res}, allRd l = true → ∀ r ∈ l, r.mut = false
  | [], _, r, hr => by cases hr
  | x :: l, h, r, hr => by
    simp only [allRd, Bool.and_eq_true, Bool.not_eq_true'] at h
    rcases List.mem_cons.1 hr with rfl | hr
    · exact h.1
    · exact allRd_ok h.2 r hr

def argVals (l : List Ent) : List Operand → Option (List Value)
  | [] => some []
  | x :: r => match evl [] l x, argVals l r with
    | some v, some vs => some (v :: vs)
    | _, _ => none
/-- the call of a function with a body at the head of the list -/
def callOf (P : Program) (N : Nat) (ops : Array Oper) (l : List Ent) : List Oper → Option (Nat × FuncId × List Value)
  | o :: _ =>
    let go : Option (Nat × FuncId × List Value) := match o.op, o.dst with
      | .call { callee := .value x, args, .. }, some d => match evl [] l x, argVals l args.toList with
        | some (.func (.func f) ⟨[]⟩ cap), some vs => match P.funcs[f]? with
          | some fn => if fn.body.isSome && !(fn.name == "runtime.NumGoroutine") && Nat.blt d N then some (d, f, vs ++ cap.toList) else none
          | none => none
        | _, _ => none
      | _, _ => none
    match o.guard with
    | none => go
    | some (j, b) => match gslot ops j with
      | some g => match look [] l g with
        | some (.bool x) => if x == b then go else none
        | _ => none
      | none => none
  | [] => none

theorem argVals_ok {N : Nat} {l : List Ent} {a : Act} (hF : Fr N l a) : ∀ {xs : List Operand} {vs : List Value}, argVals l xs = some vs → xs.map a.eval = vs
  | [], vs, h => by simp [argVals] at h; subst h; rfl
  | x :: r, vs, h => by
    simp only [argVals] at h
    split at h
    · rename_i v vs' hv hr
      injection h with h
      subst h
      rw [List.map_cons, evl_ok hF (fun x hx => by cases hx) hv, argVals_ok hF hr]
    · cases h


/-- what is appended: m elements at B -/
def srcP (r : Res) (B : Option Addr) (m size : Nat) (news : List Value) : Prop :=
  match r with
  | .box g _ cs => B = some ⟨g, 0, none⟩ ∧ news = cs ∧ cs.length = m * size
  | .view A n _ sz el => B = A ∧ m = n ∧ sz = size ∧ news = (List.range m).flatMap el
  | .row A _ _ sz n ys => B = A ∧ m = n ∧ sz = size ∧ news = ys
  | .al _ => False
  | .fam _ _ => False
/-- what is copied: the first cells at B -/
def cpyP (r : Res) (B : Option Addr) (m : Nat) (news : List Value) : Prop :=
  match r with
  | .box g _ cs => B = some ⟨g, 0, none⟩ ∧ m ≤ cs.length ∧ news = cs.take news.length
  | .view A n _ sz el => B = A ∧ m ≤ n ∧ sz = 1 ∧ news = ((List.range n).flatMap el).take news.length
  | .row A _ _ sz n ys => B = A ∧ m ≤ n ∧ sz = 1 ∧ news = ys.take news.length
  | .al _ => False
  | .fam _ _ => False
/-- where x[lo:] of a slice begins -/
def cutA (A : Option Addr) (c lo size : Nat) : Option Addr := if c = lo then A else A.map (·.add (lo * size))
/-- a call of a function without a body that makes memory -/
def ExtOk (P : Program) (f : FuncId) (args : List Value) {U : Type} (val : U → Value) (new : U → List Res) (facts : U → Prop) : Prop :=
  ∀ w, ∃ u w', (callFunc f args.toArray).run P w = .ok (.value (val u)) w' ∧ Below w.heap.size w w' ∧ facts u ∧ NewOk w (fun _ => False) (fun _ => False) w' (new u) []
def extOf (N : Nat) (l : List Ent) (o : Oper) : Option (Nat × FuncId × List Value) :=
  match o.guard, o.op, o.dst with
  | none, .call { callee := .value x, args, .. }, some d => match evl [] l x, argC [] l args.toList with
    | some (.func (.func f) ⟨[]⟩ ⟨[]⟩), some vs => if Nat.blt d N then some (d, f, vs) else none
    | _, _ => none
  | _, _, _ => none
/-- the element type's row of the table: its zero value, its bytes -/
def elemOk (P : Program) (e size : Nat) : Option (Value × Nat) :=
  match P.info? e with
  | some i => match i.zero with
    | some z => if Nat.beq i.size size && Nat.beq z.cells.size size && Nat.blt 0 size then some (z, i.bytes) else none
    | none => none
  | none => none

/-- one operation -/
def op1 (P : Program) (N : Nat) (ops : Array Oper) (ns : List Res) (c : Ct) (o : Oper) (l : List Ent) (rs : List Res) (K : List Ent → List Res → Prop) : Prop :=
  match c with
  | .bx => match o.guard, o.op, o.dst with
    | none, .box t x, some d => match evl [] l x with
      | some v => if Nat.blt d N then ∀ g, K (putE l ⟨d, none, .pointer (some ⟨g, 0, none⟩)⟩) (rs ++ [.box g t v.cells.toList]) else False
      | none => False
    | _, _, _ => False
  | .al => match o.guard, o.op, o.dst with
    | none, .alloc t, some d => match pureRun P (zeroValue t) with
      | some z => if Nat.blt d N then ∀ g, K (putE l ⟨d, none, .pointer (some ⟨g, 0, none⟩)⟩) (rs ++ [.box g t z.cells.toList]) else False
      | none => False
    | _, _, _ => False
  | .bs => match o.guard, o.op, o.dst with
    | none, .buildSlice t len parts, some d => match pureRun P (underlying t) with
      | some (.slice elem) => match rowCells P [] l elem len parts with
        | some cs => if Nat.blt d N && known [] l o then ∀ g, K (putE l ⟨d, none, .slice (some ⟨g, 0, none⟩) len len⟩) (rs ++ [.box g elem cs.toList]) else False
        | none => False
      | _ => False
    | _, _, _ => False
  | .st k => match o.guard, o.op, o.dst with
    | none, .store t x y, none => match evl [] l x, evl [] l y, rs[k]?, szOf P t with
      | some (.pointer (some ad)), some v, some (.box g tb cs), some n =>
        if Nat.beq v.cells.size n && allOne v.cells.toList && Nat.ble (ad.off + n) cs.length then
          (ad.block = g ∧ ad.spot = none) ∧ K l (rs.set k (.box g tb (cs.take ad.off ++ v.cells.toList ++ cs.drop (ad.off + n))))
        else False
      | _, _, _, _ => False
    | _, _, _ => False
  | .cl ix val new als facts => match callOf P N ops l [o] with
    | some (d, f, args) => match ndRes ns rs ix with
      | some (need, p, b) => (p ∧ (b = false ∨ ∀ u, als u = []) ∧ CallOk P f args need [] val new als facts) ∧ ∀ u, facts u → K (putE l ⟨d, none, val u⟩) (rs ++ new u ++ (als u).map .al)
      | none => False
    | none => False
  | .sr k i => match o.guard, o.op, o.dst with
    | none, .store t x y, none => match evl [] l x, evl [] l y, rs[k]?, szOf P t with
      | some (.pointer (some ad)), some v, some (.row A c e size n xs), some n1 =>
        if Nat.beq n1 1 && Nat.beq size 1 && Nat.beq v.cells.size 1 && v.oneCell' then
          (ad = (A.getD nilA).add (i * size) ∧ i < n) ∧ K l (rs.set k (.row A c e size n (xs.set i v)))
        else False
      | _, _, _, _ => False
    | _, _, _ => False
  | .ap k rf news nn vv => match o.guard, o.op, o.dst with
    | none, .call { callee := .builtin .append, args := ⟨[x, y]⟩, argTypes := ⟨[t, t']⟩ }, some d => match evl [] l x, evl [] l y, rs[k]?, getR ns rs rf, pureRun P (underlying t) with
      | some (.slice A n c), some (.slice B m _), some (.row A' c' e size n' xs), some r, some (.slice e') => match elemOk P e size with
        | some (_, bytes) => if Nat.beq t t' && Nat.beq e e' && Nat.blt d N then
            (A = A' ∧ c = c' ∧ n = n' ∧ srcP r B m size news ∧ (∀ u ∈ news, u.oneCell' = true) ∧ n + m ≤ maxLen ∧ (n + m) * bytes ≤ 140737488355328 ∧ n + m = nn ∧ xs ++ news = vv) ∧
              ∀ A1 c1, K (putE l ⟨d, none, .slice A1 nn c1⟩) (rs.set k (.row A1 c1 e size nn vv))
          else False
        | none => False
      | _, _, _, _, _ => False
    | _, _, _ => False
  | .mk n c vv => match o.guard, o.op, o.dst with
    | none, .makeSlice t x y, some d => match evl [] l x, evl [] l y, pureRun P (underlying t) with
      | some (.int _ q), some (.int _ q'), some (.slice e) => match elemOk P e 1 with
        | some (z, bytes) => if Nat.blt d N && z.oneCell' then
            (q = (n : Int) ∧ q' = (c : Int) ∧ n ≤ c ∧ c * bytes ≤ 281474976710656 ∧ c ≤ maxLen ∧ List.replicate n z = vv) ∧ ∀ g, K (putE l ⟨d, none, .slice (some ⟨g, 0, none⟩) n c⟩) (rs ++ [.row (some ⟨g, 0, none⟩) c e 1 n vv])
          else False
        | none => False
      | _, _, _ => False
    | _, _, _ => False
  | .aps k bs nn vv => match o.guard, o.op, o.dst with
    | none, .call { callee := .builtin .append, args := ⟨[x, y]⟩, argTypes := ⟨[t, t']⟩ }, some d => match evl [] l x, evl [] l y, rs[k]?, pureRun P (underlying t), pureRun P (underlying t') with
      | some (.slice A n c), some (.string s), some (.row A' c' e size n' xs), some (.slice e'), some .string => match elemOk P e 1 with
        | some (_, bytes) => if Nat.beq e e' && Nat.beq size 1 && Nat.beq bytes 1 && Nat.blt d N then
            (A = A' ∧ c = c' ∧ n = n' ∧ s = ⟨bs.toArray⟩ ∧ n + bs.length ≤ 140737488355328 ∧ n + bs.length = nn ∧ xs ++ (bs.map fun b => .int .u8 (b.toNat : Int)) = vv) ∧
              ∀ A1 c1, K (putE l ⟨d, none, .slice A1 nn c1⟩) (rs.set k (.row A1 c1 e 1 nn vv))
          else False
        | none => False
      | _, _, _, _, _ => False
    | _, _, _ => False
  | .tb bs vv => match o.guard, o.op, o.dst with
    | none, .convert t t' x, some d => match evl [] l x, pureRun P (underlying t), pureRun P (underlying t') with
      | some (.string s), some .string, some (.slice e) => match pureRun P (underlying e) with
        | some (.int .u8) => if Nat.blt d N then
            (s = ⟨bs.toArray⟩ ∧ bs.length ≤ maxLen ∧ (bs.map fun b => .int .u8 (b.toNat : Int)) = vv) ∧ ∀ g c, K (putE l ⟨d, none, .slice (some ⟨g, 0, none⟩) bs.length c⟩) (rs ++ [.row (some ⟨g, 0, none⟩) c e 1 bs.length vv])
          else False
        | _ => False
      | _, _, _ => False
    | _, _, _ => False
  | .xc val new facts => match extOf N l o with
    | some (d, f, args) => ExtOk P f args val new facts ∧ ∀ u, facts u → K (putE l ⟨d, none, val u⟩) (rs ++ new u)
    | none => False
  | .cp k off at0 rf news => match o.guard, o.op, o.dst with
    | none, .call { callee := .builtin .copy, args := ⟨[x, y]⟩, argTypes := ⟨t :: _⟩ }, some d => match evl [] l x, evl [] l y, rs[k]?, getR ns rs rf, pureRun P (underlying t) with
      | some (.slice D nd _), some (.slice B m _), some (.row A c e size n xs), some r, some (.slice e') => match szOf P e' with
        | some sz => if Nat.beq size 1 && Nat.beq sz 1 && Nat.blt d N then
            (D = (if at0 then A else cutA A c off 1) ∧ (at0 = true → off = 0) ∧ off + news.length ≤ n ∧ news.length = Nat.min m nd ∧ cpyP r B m news ∧ (∀ u ∈ news, u.oneCell' = true)) ∧
              K (putE l ⟨d, none, .int .i64 (news.length : Int)⟩) (rs.set k (.row A c e size n (xs.take off ++ news ++ xs.drop (off + news.length))))
          else False
        | none => False
      | _, _, _, _, _ => False
    | _, _, _ => False
  | .ge _ => False
  | .ms k => match o.guard, o.op, o.dst with
    | none, .convert t t' x, some d => match evl [] l x, rs[k]?, pureRun P (underlying t) with
      | some (.slice (some ⟨g, 0, none⟩) n c), some (.box g' e cs), some (.slice e') => match pureRun P (underlying e') with
        | some (.int .u8) => if Nat.beq t t' && Nat.blt d N && Nat.ble cs.length 16777216 then
            (g' = g) ∧ K (putE l ⟨d, none, .slice (some ⟨g, 0, none⟩) n c⟩) (rs.set k (.row (some ⟨g', 0, none⟩) cs.length e 1 cs.length cs))
          else False
        | _ => False
      | _, _, _ => False
    | _, _, _ => False
  | .gt c => match o.guard, o.dst with
    | some (j, b), some d => match gslot ops j with
      | some g => match look [] l g, stillVal P ns rs [(g, b)] l c o with
        | some (.bool x), some (v, p) => if okDst N d none then x = b ∧ andP l [] p (K (putE l ⟨d, none, v⟩) rs) else False
        | _, _ => False
      | none => False
    | _, _ => False
  | .sk => match o.guard, o.dst with
    | some (j, b), some d => match gslot ops j with
      | some g => match look (chain l 8 g) l g with
        | some (.bool x) => if okDst N d (some (g, b)) then x = !b ∧ K (putE l ⟨d, none, undef⟩) rs else False
        | some (.tuple _) => if okDst N d (some (g, b)) then K (putE l ⟨d, none, undef⟩) rs else False
        | _ => False
      | none => False
    | some (j, b), none => match gslot ops j with
      | some g => match look [] l g with
        | some (.bool x) => x = !b ∧ K l rs
        | _ => False
      | none => False
    | _, _ => False
  | c => match gctx ops l o with
    | some ctx => match stillVal P ns rs ctx l c o, o.dst with
      | some (v, p), some d => if okDst N d (gcond ops o) then andP l (sctx c ctx) p (K (putE l ⟨d, gcond ops o, v⟩) rs) else False
      | _, _ => False
    | none => False

/-- one operation, or a guarded one whose guard says yes -/
def op2 (P : Program) (N : Nat) (ops : Array Oper) (ns : List Res) (c : Ct) (o : Oper) (l : List Ent) (rs : List Res) (K : List Ent → List Res → Prop) : Prop :=
  match c with
  | .ge c => match o.guard with
    | some (j, b) => match gslot ops j with
      | some g => match look [] l g with
        | some (.bool x) => x = b ∧ op1 P N ops ns c { o with guard := none } l rs K
        | _ => False
      | none => False
    | none => False
  | c => op1 P N ops ns c o l rs K
def vc (P : Program) (N : Nat) (ops : Array Oper) (ns : List Res) : List Ct → List Oper → List Ent → List Res → (List Ent → List Res → Prop) → Prop
  | [], _, l, rs, K => K l rs
  | _ :: _, [], _, _, _ => False
  | c :: cs, o :: r, l, rs, K => op2 P N ops ns c o l rs fun l' rs' => vc P N ops ns cs r l' rs' K

theorem Hp.allOk {w0 w : World} {ns rs : List Res} (h : Hp w0 B M ns rs w) : ∀ r ∈ ns ++ rs, r.ok w := fun r hr => by
  rcases List.mem_append.1 hr with hr | hr
  · exact h.okOld hr
  · exact (h.own r hr).1

theorem below_alloc (w : World) (o : Obj) : Below w.heap.size w (w.alloc o) := (Below.refl _ _).alloc (Nat.le_refl _) _

theorem Hp.box {w0 w : World} {ns rs : List Res} (h : Hp w0 B M ns rs w) (t : TypeId) (cs : Array Value) : Hp w0 B M ns (rs ++ [.box w.heap.size t cs.toList]) (w.alloc (.cells cs t)) :=
  h.more (below_alloc w _) _ (fun r hr => by
    simp only [List.mem_singleton] at hr
    subst hr
    exact ⟨by simp only [Res.ok]; rw [heap_alloc_new], fun b hb => by simp only [Res.fp] at hb; subst hb; simp⟩) (by simp)

theorem allOne_ok {l : List Value} (h : allOne l = true) : ∀ v ∈ l, v.oneCell' = true := by
  induction l with
  | nil => intro v hv; cases hv
  | cons x r ih =>
    simp only [allOne, Bool.and_eq_true] at h
    intro v hv
    rcases List.mem_cons.1 hv with rfl | hv
    · exact h.1
    · exact ih h.2 v hv

theorem cells_of_box {w : World} {g : Nat} {tb : TypeId} {cs : List Value} {ad : Addr} (hb : w.heap[g]? = some (.cells cs.toArray tb (0, 0))) (h1 : ad.block = g) (h2 : ad.spot = none) : ∀ j y, (cs.drop ad.off)[j]? = some y → w.cell? (ad.add j) = some y := by
  intro j y hy
  have : ad.add j = ⟨g, ad.off + j, none⟩ := by
    obtain ⟨b, o, s⟩ := ad
    simp only at h1 h2
    subst h1; subst h2
    unfold Addr.add
    split <;> simp_all
  rw [this, cell_of_row w g _ _ _ _ hb]
  rw [List.getElem?_drop] at hy
  simpa using hy


theorem elemOk_ok {P : Program} {e size : Nat} {z : Value} {bytes : Nat} (h : elemOk P e size = some (z, bytes)) :
    ∃ i, P.info? e = some i ∧ i.zero = some z ∧ i.size = size ∧ i.bytes = bytes ∧ z.cells.size = size ∧ 0 < size := by
  unfold elemOk at h
  split at h
  · rename_i i hi
    split at h
    · rename_i z' hz
      split at h
      · rename_i hc
        simp only [Option.some.injEq, Prod.mk.injEq] at h
        obtain ⟨rfl, rfl⟩ := h
        simp only [Bool.and_eq_true] at hc
        exact ⟨i, hi, hz, Nat.eq_of_beq_eq_true hc.1.1, rfl, Nat.eq_of_beq_eq_true hc.1.2, Nat.le_of_ble_eq_true hc.2⟩
      · cases h
    · cases h
  · cases h
theorem flat_len {el : Nat → List Value} {size : Nat} : ∀ m, (∀ i, i < m → (el i).length = size) → ((List.range m).flatMap el).length = m * size
  | 0, _ => by simp
  | m + 1, h => by
    rw [List.range_succ, List.flatMap_append, List.length_append, flat_len m (fun i hi => h i (by omega))]
    simp [h m (by omega), Nat.succ_mul]
theorem flat_get {el : Nat → List Value} {size : Nat} : ∀ m, (∀ i, i < m → (el i).length = size) → ∀ j u, ((List.range m).flatMap el)[j]? = some u → ∃ i k, i < m ∧ j = i * size + k ∧ (el i)[k]? = some u
  | 0, _, j, u, hu => by simp at hu
  | m + 1, h, j, u, hu => by
    have hl := flat_len m (fun i hi => h i (by omega))
    rw [List.range_succ, List.flatMap_append] at hu
    by_cases hj : j < m * size
    · rw [List.getElem?_append_left (by rw [hl]; exact hj)] at hu
      obtain ⟨i, k, hi, hjk, hk⟩ := flat_get m (fun i hi => h i (by omega)) j u hu
      exact ⟨i, k, by omega, hjk, hk⟩
    · rw [List.getElem?_append_right (by rw [hl]; omega), hl] at hu
      simp only [List.flatMap_cons, List.flatMap_nil, List.append_nil] at hu
      exact ⟨m, j - m * size, by omega, by omega, hu⟩
theorem run_storeRow {P : Program} (g o : Nat) (t : TypeId) (fz : Nat × Nat) : ∀ (vs : List Value) (i : Nat) (cur : Array Value) (w : World), w.heap[g]? = some (.cells cur t fz) → okFz fz cur.size → o + i + vs.length ≤ cur.size → (∀ v ∈ vs, v.oneCell' = true) →
    (storeCells ⟨g, o, none⟩ vs i).run P w = .ok () (w.setRow g (cur.toList.take (o + i) ++ vs ++ cur.toList.drop (o + i + vs.length)).toArray)
  | [], i, cur, w, hg, _, _, _ => by
    simp only [storeCells, List.append_nil, List.length_nil, Nat.add_zero, List.take_append_drop, Array.toArray_toList]
    rw [setRow_self w g cur t fz hg]
    rfl
  | v :: rest, i, cur, w, hg, hf, hl, h1 => by
    have hi : o + i < cur.size := by simp at hl; omega
    have hadd : (⟨g, o, none⟩ : Addr).add i = ⟨g, o + i, none⟩ := by unfold Addr.add; split <;> simp_all
    have hcell : w.cell? ⟨g, o + i, none⟩ = some cur[o + i] := by simp [World.cell?, hg, hi]
    have hfro : w.frozen? ⟨g, o + i, none⟩ = false := by
      simp only [World.frozen?, hg]
      rcases hf with h | h
      · simp; omega
      · simp; omega
    have hst : (store ((⟨g, o, none⟩ : Addr).add i) v).run P w = .ok () (w.setRow g (cur.setIfInBounds (o + i) v)) := by
      rw [hadd, run_store P w _ v _ (h1 v (by simp)), hcell]
      simp [hfro, setCell_eq_setRow w g (o + i) cur t fz v hg]
    have ih := run_storeRow (P := P) g o t fz rest (i + 1) (cur.setIfInBounds (o + i) v) (w.setRow g (cur.setIfInBounds (o + i) v)) (setRow_heap w g cur _ t _ hg) (by simpa using hf) (by simp at hl ⊢; omega) (fun x hx => h1 x (by simp [hx]))
    simp only [storeCells, Sem.run_bind, hst, Result.andThen_ok, ih, setRow_setRow]
    congr 3
    have e := list_seg_step cur.toList (o + i) v rest (by simp at hl ⊢; omega)
    simpa [Array.toList_setIfInBounds, Nat.add_assoc] using e

theorem run_append_row {P : Program} (w : World) (t ty e : TypeId) (i : TypeInfo) (z : Value) (size bytes : Nat) (ht : P.underlying t = some (.slice e)) (hi : P.info? e = some i) (hz : i.zero = some z)
    (hsize : i.size = size) (hby : i.bytes = bytes) (hzs : z.cells.size = size) (A : Option Addr) (c n : Nat) (xs : List Value) (hrow : rowOk w A c e size n xs)
    (ad : Addr) (m cm : Nat) (news : List Value) (hl : news.length = m * size) (hnews : ∀ j u, news[j]? = some u → w.cell? (ad.add j) = some u) (h1 : ∀ u ∈ news, u.oneCell' = true)
    (h63 : n + m ≤ maxLen) (hbytes : (n + m) * bytes ≤ 140737488355328) :
    ∃ A1 c1 w', (Builtin.append_ #[t, t] ty #[.slice A n c, .slice (some ad) m cm]).run P w = .ok (.slice A1 (n + m) c1) w' ∧ rowOk w' A1 c1 e size (n + m) (xs ++ news) ∧ w.grownBy w' (Value.ownBlock (.slice A n c)) ∧
      (∀ a1, A1 = some a1 → Value.ownBlock (.slice A n c) = some a1.block ∨ a1.block = w.heap.size) ∧ (∀ a1, A1 = some a1 → a1.block < w'.heap.size) := by
  subst hsize
  subst hby
  have hsmall : n + m ≤ 9223372036854775807 := by simp only [maxLen] at h63; omega
  have hlen : (xs ++ news).length = (n + m) * i.size := by rw [List.length_append, hrow.1, hl, Nat.add_mul]
  have grown : ∀ (old : Nat), old < n + m → ∀ (row : Option Nat),
      rowOk (w.drew.alloc (.cells (xs.toArray ++ news.toArray ++ Builtin.zeroCells z.cells (grownCap w (n + m) old e - (n + m))) e)) (some ⟨w.heap.size, 0, none⟩) (grownCap w (n + m) old e) e i.size (n + m) (xs ++ news) ∧
      w.grownBy (w.drew.alloc (.cells (xs.toArray ++ news.toArray ++ Builtin.zeroCells z.cells (grownCap w (n + m) old e - (n + m))) e)) row := by
    intro old ho row
    have hge := grownCap_ge w (n + m) old e
    have hcm : grownCap w (n + m) old e ≤ maxLen := grownCap_le_maxLen w (n + m) old e h63
    refine ⟨⟨hlen, .inr ⟨w.heap.size, _, (0, 0), rfl, heap_alloc_new w.drew _, .inl (Nat.le_refl _), hge, hcm, ?_, ?_⟩⟩, ⟨rfl, rfl, rfl, by simp, fun k hk _ => Below.heap_alloc w.drew _ k hk⟩⟩
    · have : grownCap w (n + m) old e * i.size = (n + m) * i.size + (grownCap w (n + m) old e - (n + m)) * i.size := by rw [← Nat.add_mul]; congr 1; omega
      simp only [Array.size_append, List.size_toArray, size_zeroCells, hzs, hrow.1, hl]
      rw [this, Nat.add_mul]
      omega
    · simp only [Array.toList_append, List.append_assoc]
      rw [← List.append_assoc, ← hlen]
      exact List.take_left
  rcases hrow.2 with ⟨rfl, rfl, rfl⟩ | ⟨g, cur, fz, rfl, hg, hfz, hnc, hcm, hcs, htake⟩
  · have hx : xs = [] := List.eq_nil_of_length_eq_zero (by simpa using hrow.1)
    subst hx
    by_cases hm : m = 0
    · subst hm
      have hn : news = [] := List.eq_nil_of_length_eq_zero (by simpa using hl)
      subst hn
      refine ⟨none, 0, w, ?_, ⟨by simp, .inl ⟨rfl, rfl, rfl⟩⟩, World.grownBy.refl w _, fun a1 h => (by cases h), fun a1 h => by cases h⟩
      simp [Builtin.append_, run_underlying ht, sizeOf, typeInfo, hi, Builtin.lenOf, Builtin.firstCells, loadCells, loadCellsFrom]
    · have hr := run_append_nil (P := P) w t ty e i z ht hi hz ad m cm news hl hnews (by omega) (by omega) (by have hb := hbytes; simp only [Nat.zero_add] at hb; omega)
      have hgr := grown 0 (by omega) (Value.ownBlock (.slice none 0 0))
      simp only [Nat.zero_add, List.nil_append, Array.empty_append] at hgr ⊢
      refine ⟨_, _, _, hr, hgr.1, hgr.2, fun a1 h => .inr (by injection h with h; subst h; rfl), fun a1 h => by injection h with h; subst h; simp⟩
  · by_cases hroom : n + m ≤ c
    · have hnm : n * i.size + news.length ≤ cur.size := by
        rw [hl, ← Nat.add_mul]
        exact Nat.le_trans (Nat.mul_le_mul_right _ hroom) hcs
      have hf := run_firstCells_some (P := P) w i.size m ad m cm news hl hnews
      have hst := run_storeRow (P := P) g (n * i.size) e fz news 0 cur w hg hfz (by simpa using hnm) h1
      simp only [Nat.add_zero] at hst
      have hr : (Builtin.append_ #[t, t] ty #[.slice (some ⟨g, 0, none⟩) n c, .slice (some ad) m cm]).run P w =
          .ok (.slice (some ⟨g, 0, none⟩) (n + m) c) (w.setRow g (cur.toList.take (n * i.size) ++ news ++ cur.toList.drop (n * i.size + news.length)).toArray) := by
        simp [Builtin.append_, run_underlying ht, sizeOf, typeInfo, hi, Builtin.lenOf, hroom, hf, Addr.add_lit, hst]
      refine ⟨_, _, _, hr, ⟨hlen, .inr ⟨g, _, fz, rfl, setRow_heap w g cur _ e _ hg, ?_, hroom, hcm, ?_, ?_⟩⟩, ⟨rfl, rfl, rfl, by simp, fun k _ hk => setRow_other w g k _ (fun e => hk (by simp [Value.ownBlock, e]))⟩,
        fun a1 h => .inl (by injection h with h; subst h; rfl), fun a1 h => ?_⟩
      · have : (cur.toList.take (n * i.size) ++ news ++ cur.toList.drop (n * i.size + news.length)).toArray.size = cur.size := by simp; omega
        rw [this]; exact hfz
      · simp only [List.size_toArray, List.length_append, List.length_take, List.length_drop, Array.length_toList]
        omega
      · rw [htake, ← hlen]
        exact List.take_left
      · injection h with h
        subst h
        simp only [setRow_size]
        exact (Array.getElem?_eq_some_iff.1 hg).1
    · have hr := run_append_grow (P := P) w t ty e i z ht hi hz ⟨g, 0, none⟩ n c xs hrow.1 (row_cells hrow) ad m cm news hl hnews (by omega) (by omega) (growslice_fits (by omega) hbytes)
      have hgr := grown c (by omega) (Value.ownBlock (.slice (some ⟨g, 0, none⟩) n c))
      exact ⟨_, _, _, hr, hgr.1, hgr.2, fun a1 h => .inr (by injection h with h; subst h; rfl), fun a1 h => by injection h with h; subst h; simp⟩

def strC (bs : List UInt8) : List Value := bs.map fun b => .int .u8 (b.toNat : Int)
theorem strC_eq (bs : List UInt8) : Lib.strCells ⟨bs.toArray⟩ = strC bs := by simp [Lib.strCells, strC]
theorem run_append_row_str {P : Program} (w : World) (t u ty e : TypeId) (i : TypeInfo) (z : Value) (ht : P.underlying t = some (.slice e)) (hu : P.underlying u = some .string) (hi : P.info? e = some i) (hz : i.zero = some z)
    (hsize : i.size = 1) (hby : i.bytes = 1) (hzs : z.cells.size = 1) (A : Option Addr) (c n : Nat) (xs : List Value) (hrow : rowOk w A c e 1 n xs) (bs : List UInt8) (hbytes : n + bs.length ≤ 140737488355328) :
    ∃ A1 c1 w', (Builtin.append_ #[t, u] ty #[.slice A n c, .string ⟨bs.toArray⟩]).run P w = .ok (.slice A1 (n + bs.length) c1) w' ∧ rowOk w' A1 c1 e 1 (n + bs.length) (xs ++ strC bs) ∧ w.grownBy w' (Value.ownBlock (.slice A n c)) ∧
      (∀ a1, A1 = some a1 → Value.ownBlock (.slice A n c) = some a1.block ∨ a1.block = w.heap.size) ∧ (∀ a1, A1 = some a1 → a1.block < w'.heap.size) := by
  have hss : (⟨bs.toArray⟩ : ByteArray).size = bs.length := by simp [ByteArray.size]
  have hl : (strC bs).length = bs.length := by simp [strC]
  have h63 : n + bs.length ≤ maxLen := by unfold maxLen; omega
  have hxl : xs.length = n := by simpa using hrow.1
  have hlen : (xs ++ strC bs).length = (n + bs.length) * 1 := by rw [List.length_append, hxl, hl, Nat.mul_one]
  have grown : ∀ (old : Nat), old < n + bs.length → ∀ (row : Option Nat),
      rowOk (w.drew.alloc (.cells (xs.toArray ++ (strC bs).toArray ++ Builtin.zeroCells z.cells (grownCap w (n + bs.length) old e - (n + bs.length))) e)) (some ⟨w.heap.size, 0, none⟩) (grownCap w (n + bs.length) old e) e 1 (n + bs.length) (xs ++ strC bs) ∧
      w.grownBy (w.drew.alloc (.cells (xs.toArray ++ (strC bs).toArray ++ Builtin.zeroCells z.cells (grownCap w (n + bs.length) old e - (n + bs.length))) e)) row := by
    intro old ho row
    have hge := grownCap_ge w (n + bs.length) old e
    have hcm : grownCap w (n + bs.length) old e ≤ maxLen := grownCap_le_maxLen w (n + bs.length) old e h63
    refine ⟨⟨hlen, .inr ⟨w.heap.size, _, (0, 0), rfl, heap_alloc_new w.drew _, .inl (Nat.le_refl _), hge, hcm, ?_, ?_⟩⟩, ⟨rfl, rfl, rfl, by simp, fun k hk _ => Below.heap_alloc w.drew _ k hk⟩⟩
    · simp only [Array.size_append, List.size_toArray, size_zeroCells, hzs, hxl, hl]
      omega
    · simp only [Array.toList_append, List.append_assoc]
      rw [← List.append_assoc, ← hlen]
      exact List.take_left
  rcases hrow.2 with ⟨rfl, rfl, rfl⟩ | ⟨g, cur, fz, rfl, hg, hfz, hnc, hcm, hcs, htake⟩
  · have hx : xs = [] := List.eq_nil_of_length_eq_zero hxl
    subst hx
    by_cases hm : bs.length = 0
    · have hn : bs = [] := List.eq_nil_of_length_eq_zero hm
      subst hn
      refine ⟨none, 0, w, ?_, ⟨by simp [strC], .inl ⟨rfl, rfl, rfl⟩⟩, World.grownBy.refl w _, fun a1 h => (by cases h), fun a1 h => by cases h⟩
      simp [Builtin.append_, run_underlying ht, run_underlying hu, sizeOf, typeInfo, hi, Builtin.lenOf, Builtin.firstCells, ByteArray.size]
    · have h63' : ¬ (9223372036854775807 < (bs.length : Int)) := by omega
      have h48 : ¬ (281474976710656 < Builtin.nextslicecap (0 + bs.length) 0 * i.bytes) := by
        have := growslice_fits (need := 0 + bs.length) (old := 0) (bytes := 1) (by omega) (by omega)
        rw [hby]; omega
      have hgr := grown 0 (by omega) (Value.ownBlock (.slice none 0 0))
      simp only [Nat.zero_add, List.nil_append, Array.empty_append] at hgr h48 ⊢
      refine ⟨_, _, _, ?_, hgr.1, hgr.2, fun a1 h => .inr (by injection h with h; subst h; rfl), fun a1 h => by injection h with h; subst h; simp⟩
      simp [Builtin.append_, run_underlying ht, run_underlying hu, sizeOf, typeInfo, zeroValue, hi, hz, Builtin.lenOf, hss, hm, h63', h48, Question.forced, newRow, grownCap, Builtin.firstCells]
      rw [List.take_of_length_le (by simp)]
      rfl
  · by_cases hroom : n + bs.length ≤ c
    · have hnm : n + (strC bs).length ≤ cur.size := by rw [hl]; omega
      have hf := Lib.run_firstCells_string (P := P) w 1 ⟨bs.toArray⟩
      rw [strC_eq, hss] at hf
      have hone : ∀ v ∈ strC bs, v.oneCell' = true := by
        intro v hv
        simp only [strC, List.mem_map] at hv
        obtain ⟨_, _, rfl⟩ := hv
        rfl
      have hst := run_storeRow (P := P) g n e fz (strC bs) 0 cur w hg hfz (by simpa using hnm) hone
      simp only [Nat.add_zero] at hst
      have hr : (Builtin.append_ #[t, u] ty #[.slice (some ⟨g, 0, none⟩) n c, .string ⟨bs.toArray⟩]).run P w =
          .ok (.slice (some ⟨g, 0, none⟩) (n + bs.length) c) (w.setRow g (cur.toList.take n ++ strC bs ++ cur.toList.drop (n + (strC bs).length)).toArray) := by
        simp [Builtin.append_, run_underlying ht, run_underlying hu, sizeOf, typeInfo, hi, hsize, Builtin.lenOf, hss, hroom, hf, Addr.add_lit, hst]
      refine ⟨_, _, _, hr, ⟨hlen, .inr ⟨g, _, fz, rfl, setRow_heap w g cur _ e _ hg, ?_, hroom, hcm, ?_, ?_⟩⟩, ⟨rfl, rfl, rfl, by simp, fun k _ hk => setRow_other w g k _ (fun e => hk (by simp [Value.ownBlock, e]))⟩,
        fun a1 h => .inl (by injection h with h; subst h; rfl), fun a1 h => ?_⟩
      · have : (cur.toList.take n ++ strC bs ++ cur.toList.drop (n + (strC bs).length)).toArray.size = cur.size := by simp; omega
        rw [this]; exact hfz
      · simp only [List.size_toArray, List.length_append, List.length_take, List.length_drop, Array.length_toList]
        omega
      · rw [Nat.mul_one] at htake
        rw [htake, ← hlen]
        exact List.take_left
      · injection h with h
        subst h
        simp only [setRow_size]
        exact (Array.getElem?_eq_some_iff.1 hg).1
    · have hr := Lib.run_append_grow_string (P := P) w t u ty e i z ht hu hi hz ⟨g, 0, none⟩ n c xs (by rw [hsize]; simpa using hxl) (row_cells hrow) ⟨bs.toArray⟩ (by rw [hss]; omega) (by rw [hss]; omega) (by rw [hss, hby]; exact growslice_fits (by omega) (by omega))
      rw [hss, strC_eq] at hr
      have hgr := grown c (by omega) (Value.ownBlock (.slice (some ⟨g, 0, none⟩) n c))
      exact ⟨_, _, _, hr, hgr.1, hgr.2, fun a1 h => .inr (by injection h with h; subst h; rfl), fun a1 h => by injection h with h; subst h; simp⟩

theorem srcP_ok {w : World} {r : Res} {B : Option Addr} {m size : Nat} {news : List Value} (hr : r.ok w) (h : srcP r B m size news) :
    news.length = m * size ∧ (B = none → m = 0 ∧ news = []) ∧ ∀ ad, B = some ad → ∀ j u, news[j]? = some u → w.cell? (ad.add j) = some u := by
  cases r with
  | box g t cs =>
    obtain ⟨rfl, rfl, hl⟩ := h
    refine ⟨hl, fun e => (by cases e), fun ad e j u hu => ?_⟩
    injection e with e
    subst e
    exact cells_of_box hr (ad := ⟨g, 0, none⟩) rfl rfl j u (by simpa using hu)
  | view A n c sz el =>
    obtain ⟨rfl, rfl, rfl, rfl⟩ := h
    have hlen : ∀ i, i < m → (el i).length = sz := fun i hi => by
      obtain ⟨ad, _, h2⟩ := hr.2.2 (by omega)
      exact (h2 i hi).1
    have hl := flat_len m hlen
    refine ⟨hl, fun e => ?_, fun ad e j u hu => ?_⟩
    · have hm : m = 0 := by
        rcases Nat.eq_zero_or_pos m with h0 | h0
        · exact h0
        · obtain ⟨ad, h1, _⟩ := hr.2.2 h0; rw [e] at h1; cases h1
      subst hm
      exact ⟨rfl, by simp⟩
    · obtain ⟨i, k, hi, rfl, hk⟩ := flat_get m hlen j u hu
      obtain ⟨ad', h1, h2⟩ := hr.2.2 (by omega)
      rw [e] at h1
      injection h1 with h1
      subst h1
      exact (h2 i hi).2 k u hk
  | row A c e sz n ys =>
    obtain ⟨rfl, rfl, rfl, rfl⟩ := h
    refine ⟨hr.1, fun hB => ?_, fun ad hB j u hu => ?_⟩
    · subst hB
      rcases hr.2 with ⟨_, _, h0⟩ | ⟨g, cur, fz, hv, _⟩
      · subst h0
        exact ⟨rfl, List.eq_nil_of_length_eq_zero (by simpa using hr.1)⟩
      · cases hv
    · subst hB
      exact row_cells hr j u hu
  | al r => exact h.elim
  | fam n r => exact h.elim

theorem cpyP_ok {w : World} {r : Res} {B : Option Addr} {m : Nat} {news : List Value} (hr : r.ok w) (h : cpyP r B m news) :
    (B = none → news = []) ∧ ∀ ad, B = some ad → ∀ j u, news[j]? = some u → w.cell? (ad.add j) = some u := by
  have ofs : ∀ {ys : List Value}, news = ys.take news.length → ∀ j u, news[j]? = some u → ys[j]? = some u := fun {ys} he j u hu => by
    rw [he, List.getElem?_take] at hu
    split at hu
    · exact hu
    · cases hu
  cases r with
  | box g t cs =>
    obtain ⟨rfl, _, he⟩ := h
    refine ⟨fun e => (by cases e), fun ad e j u hu => ?_⟩
    injection e with e
    subst e
    exact cells_of_box hr (ad := ⟨g, 0, none⟩) rfl rfl j u (by simpa using ofs he j u hu)
  | view A n c sz el =>
    obtain ⟨rfl, _, rfl, he⟩ := h
    have hs := srcP_ok (r := .view B n c 1 el) (B := B) (m := n) (size := 1) hr ⟨rfl, rfl, rfl, rfl⟩
    exact ⟨fun e => by rw [he, (hs.2.1 e).2]; simp, fun ad e j u hu => hs.2.2 ad e j u (ofs he j u hu)⟩
  | row A c e sz n ys =>
    obtain ⟨rfl, _, rfl, he⟩ := h
    have hs := srcP_ok (r := .row B c e 1 n ys) (B := B) (m := n) (size := 1) hr ⟨rfl, rfl, rfl, rfl⟩
    exact ⟨fun e => by rw [he, (hs.2.1 e).2]; simp, fun ad e j u hu => hs.2.2 ad e j u (ofs he j u hu)⟩
  | al r => exact h.elim
  | fam n r => exact h.elim

theorem callOf_ok {P : Program} {N : Nat} {ops : Array Oper} {l : List Ent} {a : Act} {o : Oper} {d f : Nat} {args : List Value} (hF : Fr N l a) (hc : callOf P N ops l [o] = some (d, f, args)) (w : World) :
    Region.wanted o (yielded ops a.tmps) = true ∧ o.dst = some d ∧ d < N ∧ (execOp a.eval o).run P w = .ok (.enter f args.toArray) w := by
  have main : ∀ {d' : Nat} {f' : FuncId} {args' : List Value}, (match o.op, o.dst with
      | .call { callee := .value x, args, .. }, some d => match evl [] l x, argVals l args.toList with
        | some (.func (.func f) ⟨[]⟩ cap), some vs => match P.funcs[f]? with
          | some fn => if fn.body.isSome && !(fn.name == "runtime.NumGoroutine") && Nat.blt d N then some (d, f, vs ++ cap.toList) else none
          | none => none
        | _, _ => none
      | _, _ => none) = some (d', f', args') → d' < N ∧ o.dst = some d' ∧ (execOp a.eval o).run P w = .ok (.enter f' args'.toArray) w := by
    intro d' f' args' h
    split at h
    · rename_i x xs ats dd hop hd
      split at h
      · rename_i ff cap vs hx hvs
        split at h
        · rename_i fn hfn
          split at h
          · rename_i hb
            simp only [Bool.and_eq_true, Bool.not_eq_true'] at hb
            simp only [Option.some.injEq, Prod.mk.injEq] at h
            obtain ⟨rfl, rfl, rfl⟩ := h
            refine ⟨Nat.le_of_ble_eq_true hb.2, hd, ?_⟩
            have e1 := evl_ok hF (fun x hx => by cases hx) hx
            have e2 := argVals_ok hF hvs
            have e3 : xs.map a.eval = vs.toArray := by
              rw [← e2]
              apply Array.toList_inj.1
              simp
            have hnone : fn.body.isNone = false := by rw [← Option.not_isSome, hb.1.1]; rfl
            unfold execOp
            simp only [hop, resolve, e1, Deferred.ofValue, invoke, Sem.run_bind, Sem.run_pure, Result.andThen_ok, callFunc, program, Sem.run, hfn, hb.1.2, hnone, e3, Bool.false_eq_true, if_false]
            simp
          · cases h
        · cases h
      · cases h
    · cases h
  simp only [callOf] at hc
  cases hg : o.guard with
  | none =>
    rw [hg] at hc
    obtain ⟨h1, h2, h3⟩ := main hc
    exact ⟨wanted_none hg, h2, h1, h3⟩
  | some jb =>
    obtain ⟨j, b⟩ := jb
    rw [hg] at hc
    simp only at hc
    split at hc
    · rename_i g hs
      split at hc
      · rename_i x hl
        split at hc
        · rename_i hxb
          have : x = b := by simpa using hxb
          subst this
          obtain ⟨h1, h2, h3⟩ := main hc
          exact ⟨(wanted_some hg hs).2 (look_ok hF.ent (fun x hx => by cases hx) hl), h2, h1, h3⟩
        · cases hc
      · cases hc
    · cases hc

section
variable {P : Program} {N : Nat} {ops : Array Oper} {ns rs : List Res} {l : List Ent} {a : Act} {w0 w : World} {Q : Exit → Act → World → Prop}

theorem still_op {c : Ct} {o : Oper} {K : List Ent → List Res → Prop} {K' : Act → World → Prop}
    (h : match gctx ops l o with
      | some ctx => match stillVal P ns rs ctx l c o, o.dst with
        | some (v, p), some d => if okDst N d (gcond ops o) then andP l (sctx c ctx) p (K (putE l ⟨d, gcond ops o, v⟩) rs) else False
        | _, _ => False
      | none => False)
    (hF : Fr N l a) (hH : Hp w0 B M ns rs w) (hK : ∀ l' rs' a' w', K l' rs' → Fr N l' a' → Hp w0 B M ns rs' w' → K' a' w') :
    if Region.wanted o (yielded ops a.tmps) then o.wp P a w K' Q else K' (a.put o.dst undef) w := by
  cases hg : gctx ops l o with
  | none => rw [hg] at h; exact h.elim
  | some ctx =>
    rw [hg] at h
    simp only at h
    split at h
    · rename_i v p d hs hd
      split at h
      · rename_i hok
        simp only [okDst, Bool.and_eq_true] at hok
        have hdN : d < N := Nat.le_of_ble_eq_true hok.1
        have hside : ctx.ok a.tmps → sideP p := fun hc => by
          cases p with
          | none => trivial
          | some p => exact impl_ok hF (sctx_ok hc) h.1
        have hKK : K (putE l ⟨d, gcond ops o, v⟩) rs := by
          cases p with
          | none => exact h
          | some p => exact h.2
        split
        · rename_i hw
          have hc := gctx_ok hF hg hw
          have hrun := still_sound hs (hside hc) hF hc hH.allOk
          unfold Oper.wp
          rw [hrun]
          simp only [Oper.upon]
          refine hK _ _ _ _ hKK ?_ hH
          rw [hd]
          refine hF.putE (e := ⟨d, gcond ops o, v⟩) hdN ?_
          unfold Ent.ok
          cases hgc : o.guard with
          | none =>
            simp only [gcond, hgc]
            exact getD_put_same (by rw [hF.size]; exact hdN)
          | some jb =>
            obtain ⟨j, b⟩ := jb
            simp only [gctx, hgc] at hg
            cases hsl : gslot ops j with
            | none => rw [hsl] at hg; cases hg
            | some g =>
              simp only [gcond, hgc, hsl] at hok ⊢
              have hgd : g ≠ d := fun e => by subst e; simp at hok
              have hgb := (wanted_some hgc hsl).1 hw
              refine ⟨fun _ => getD_put_same (by rw [hF.size]; exact hdN), fun hne => absurd ?_ hne⟩
              rw [getD_put_ne hgd]; exact hgb
        · rename_i hw
          refine hK _ _ _ _ hKK ?_ hH
          rw [hd]
          refine hF.putE (e := ⟨d, gcond ops o, v⟩) hdN ?_
          unfold Ent.ok
          cases hgc : o.guard with
          | none => exact absurd (wanted_none hgc) hw
          | some jb =>
            obtain ⟨j, b⟩ := jb
            simp only [gctx, hgc] at hg
            cases hsl : gslot ops j with
            | none => rw [hsl] at hg; cases hg
            | some g =>
              simp only [gcond, hgc, hsl] at hok ⊢
              have hgd : g ≠ d := fun e => by subst e; simp at hok
              refine ⟨fun he => absurd ((wanted_some hgc hsl).2 (by rw [getD_put_ne hgd] at he; exact he)) hw, fun _ => getD_put_same (by rw [hF.size]; exact hdN)⟩
      · exact h.elim
    · exact h.elim

theorem ndRes_ok {w : World} (hH : Hp w0 B M ns rs w) : ∀ {ix : List Nd} {need : List Res} {p : Prop} {b : Bool}, ndRes ns rs ix = some (need, p, b) → p → ∀ q ∈ need, q.mut = false ∧ q.ok w ∧ ∃ r, (r ∈ ns ∨ r ∈ rs ∧ (r.mut = true → b = true)) ∧ ∀ x, q.fp x → r.fp x
  | [], need, p, b, h, hp, q, hq => by
    simp only [ndRes, Option.some.injEq, Prod.mk.injEq] at h
    rw [← h.1] at hq; cases hq
  | .v rf :: l, need, p, b, h, hp, q, hq => by
    simp only [ndRes] at h
    split at h
    · rename_i r q' p' b' hr hl
      split at h
      · cases h
      · rename_i hm
        simp only [Option.some.injEq, Prod.mk.injEq] at h
        obtain ⟨rfl, rfl, rfl⟩ := h
        rcases List.mem_cons.1 hq with rfl | hq
        · rcases getR_cases hr with h1 | ⟨x, hx, rfl⟩
          · exact ⟨by simpa using hm, (hH.get hr).1, q, .inl h1, fun _ h => h⟩
          · exact ⟨by simpa using hm, (hH.get hr).1, x, .inr ⟨hx, fun h => absurd (show x.strip.mut = true by cases x <;> first | exact h | cases h) hm⟩, fun _ h => strip_fp h⟩
        · exact ndRes_ok hH hl hp q hq
    · cases h
  | .b k x :: l, need, p, b, h, hp, q, hq => by
    simp only [ndRes] at h
    split at h
    · rename_i r q' p' b' hr hl
      split at h
      · cases h
      · rename_i hm
        simp only [Option.some.injEq, Prod.mk.injEq] at h
        obtain ⟨rfl, rfl, rfl⟩ := h
        rcases List.mem_cons.1 hq with rfl | hq
        · exact ⟨by simpa using hm, hp.1.1 w (hH.own r (List.mem_of_getElem? hr)).1, r, .inr ⟨List.mem_of_getElem? hr, fun _ => rfl⟩, hp.1.2⟩
        · obtain ⟨h1, h2, r', h3, h4⟩ := ndRes_ok hH hl hp.2 q hq
          exact ⟨h1, h2, r', h3.imp id (fun h => ⟨h.1, fun _ => rfl⟩), h4⟩
    · cases h
  | .w k el :: l, need, p, b, h, hp, q, hq => by
    simp only [ndRes] at h
    split at h
    · rename_i A c t size n vs q' p' b' hr hl
      simp only [Option.some.injEq, Prod.mk.injEq] at h
      obtain ⟨rfl, rfl, rfl⟩ := h
      rcases List.mem_cons.1 hq with rfl | hq
      · exact ⟨rfl, hp.1.1 w (hH.own _ (List.mem_of_getElem? hr)).1, _, .inr ⟨List.mem_of_getElem? hr, fun _ => rfl⟩, hp.1.2⟩
      · obtain ⟨h1, h2, r', h3, h4⟩ := ndRes_ok hH hl hp.2 q hq
        exact ⟨h1, h2, r', h3.imp id (fun h => ⟨h.1, fun _ => rfl⟩), h4⟩
    · cases h

/-- what may share memory, among the own resources -/
theorem Hp.alR {w0 w : World} {ns rs als : List Res} (h : Hp w0 B M (ns ++ als) rs w) : Hp w0 B M ns (rs ++ als.map .al) w := by
  refine ⟨h.below, fun r hr => h.old r (List.mem_append_left _ hr), fun r hr r' hr' => ?_, fun r hr => ?_, ?_⟩
  · rcases List.mem_append.1 hr' with hr' | hr'
    · exact h.nsep r (List.mem_append_left _ hr) r' hr'
    · obtain ⟨q, _, rfl⟩ := List.mem_map.1 hr'
      intro hm
      rw [(h.old r (List.mem_append_left _ hr)).1] at hm
      rcases hm with h | h <;> cases h
  · rcases List.mem_append.1 hr with hr | hr
    · exact h.own r hr
    · obtain ⟨q, hq, rfl⟩ := List.mem_map.1 hr
      have := h.old q (List.mem_append_right _ hq)
      refine ⟨this.2.1, fun b hb => ⟨(this.2.2 b hb).1, ?_⟩⟩
      rcases (this.2.2 b hb).2 with h1 | h1 | h1
      · exact .inr (.inr ⟨rfl, h1⟩)
      · exact .inl h1
      · exact .inr (.inl h1)
  · refine List.pairwise_append.2 ⟨h.sep, ?_, fun r hr r' hr' => ?_⟩
    · refine List.pairwise_iff_getElem.2 fun i j hi hj _ hm => ?_
      simp only [List.getElem_map, Res.mut] at hm
      rcases hm with h | h <;> cases h
    · obtain ⟨q, hq, rfl⟩ := List.mem_map.1 hr'
      intro hm b hb hb'
      have hm' : r.mut = true := by rcases hm with h1 | h1; · exact h1
                                    · cases h1
      exact h.nsep q (List.mem_append_right _ hq) r hr (.inr hm') b hb' hb
theorem imp_al {r : Res} (h : r.mut = false) : r.mut = false ∧ (∀ w, (Res.al r).ok w → r.ok w) ∧ ∀ b, r.fp b → (Res.al r).fp b := ⟨h, fun _ h => h, fun _ h => h⟩
theorem op1_sound {c : Ct} {o : Oper} {K : List Ent → List Res → Prop} {K' : Act → World → Prop} (h : op1 P N ops ns c o l rs K) (hF : Fr N l a) (hH : Hp w0 B M ns rs w)
    (hK : ∀ l' rs' a' w', K l' rs' → Fr N l' a' → Hp w0 B M ns rs' w' → K' a' w') :
    if Region.wanted o (yielded ops a.tmps) then o.wp P a w K' Q else K' (a.put o.dst undef) w := by
  have hc0 : Ctx.ok a.tmps [] := fun x hx => by cases hx
  cases c with
  | bx =>
    simp only [op1] at h
    split at h
    · rename_i t x d hg hop hd
      rw [if_pos (wanted_none hg)]
      split at h
      · rename_i v hv
        split at h
        · rename_i hdN
          have hdN' : d < N := Nat.le_of_ble_eq_true hdN
          have hb := hH.box t v.cells
          unfold Oper.wp execOp
          simp only [hop, evl_ok hF hc0 hv, Instr.box, newVar, newRow, newObj, Sem.run_bind, Sem.run, Result.andThen_ok, Sem.run_pure, Oper.upon]
          refine hK _ _ _ _ (h w.heap.size) ?_ hb
          rw [hd]
          exact hF.putE (e := ⟨d, none, _⟩) hdN' (getD_put_same (by rw [hF.size]; exact hdN'))
        · exact h.elim
      · exact h.elim
    · exact h.elim
  | al =>
    simp only [op1] at h
    split at h
    · rename_i t d hg hop hd
      rw [if_pos (wanted_none hg)]
      split at h
      · rename_i z hz
        split at h
        · rename_i hdN
          have hdN' : d < N := Nat.le_of_ble_eq_true hdN
          have hb := hH.box t z.cells
          unfold Oper.wp execOp
          simp only [hop, Instr.alloc, pureRun_sound w hz, newVar, newRow, newObj, Sem.run_bind, Sem.run, Result.andThen_ok, Sem.run_pure, Oper.upon]
          refine hK _ _ _ _ (h w.heap.size) ?_ hb
          rw [hd]
          exact hF.putE (e := ⟨d, none, _⟩) hdN' (getD_put_same (by rw [hF.size]; exact hdN'))
        · exact h.elim
      · exact h.elim
    · exact h.elim
  | bs =>
    simp only [op1] at h
    split at h
    · rename_i t len parts d hg hop hd
      rw [if_pos (wanted_none hg)]
      split at h
      · rename_i elem hu
        split at h
        · rename_i cs hcs
          split at h
          · rename_i hdk
            simp only [Bool.and_eq_true] at hdk
            have hdN' : d < N := Nat.le_of_ble_eq_true hdk.1
            have hb := hH.box elem cs
            have fin : (execOp (evd [] l) o).run P w = .ok (.value (.slice (some ⟨w.heap.size, 0, none⟩) len len)) (w.alloc (.cells cs elem)) := by
              unfold rowCells at hcs
              split at hcs
              · rename_i size z hsz hz
                split at hcs
                · rename_i hlim
                  simp only [Bool.and_eq_true, Bool.not_eq_true'] at hlim
                  have hl1 : ¬ (len * size > 2 ^ 24) := by have := Nat.le_of_ble_eq_true hlim.1; omega
                  have hl2 : ¬ (len * size = 0) := fun e => by rw [e] at hlim; simp at hlim
                  unfold execOp
                  simp only [hop, Instr.buildSlice, pureRun_sound w hu, run_sizeOf_of w hsz, Sem.run_bind, Result.andThen_ok, Sem.run_ite, hl1, hl2, if_false, pureRun_sound w hz, Sem.run_pure, hcs, newRow, newObj, Sem.run]
                  rfl
                · split at hcs
                  · rename_i hz0
                    simp only [Bool.and_eq_true] at hz0
                    have hl0 := Nat.eq_of_beq_eq_true hz0.1
                    have hp0 : parts = #[] := by
                      have := List.isEmpty_iff.1 hz0.2
                      exact Array.toList_eq_nil_iff.1 this
                    injection hcs with hcs
                    subst hl0; subst hp0; subst hcs
                    unfold execOp
                    simp [hop, Instr.buildSlice, pureRun_sound w hu, run_sizeOf_of w hsz, Instr.fill, newRow, newObj, Sem.run]
                    have e0 : (Array.map (fun _ => (default : Value)) (Array.range 0)) = #[] := Array.eq_empty_of_size_eq_zero (by simp)
                    first | rfl | (rw [e0]; rfl) | rw [e0]
                  · cases hcs
              · cases hcs
            unfold Oper.wp
            rw [exec_known hF hc0 hdk.2, fin]
            simp only [Oper.upon]
            refine hK _ _ _ _ (h w.heap.size) ?_ hb
            rw [hd]
            exact hF.putE (e := ⟨d, none, _⟩) hdN' (getD_put_same (by rw [hF.size]; exact hdN'))
          · exact h.elim
        · exact h.elim
      · exact h.elim
    · exact h.elim
  | st k =>
    simp only [op1] at h
    split at h
    · rename_i t x y hg hop hd
      rw [if_pos (wanted_none hg)]
      split at h
      · rename_i ad v g tb cs n hx hy hr hn
        split at h
        · rename_i hchk
          simp only [Bool.and_eq_true] at hchk
          obtain ⟨⟨hsz, hone⟩, hle⟩ := hchk
          have hsz' := Nat.eq_of_beq_eq_true hsz
          have hle' := Nat.le_of_ble_eq_true hle
          obtain ⟨⟨hblk, hspot⟩, hKK⟩ := h
          obtain ⟨ab, ao, as⟩ := ad
          simp only at hblk hspot hle' hKK
          subst hblk; subst hspot
          have hbox : w.heap[ab]? = some (.cells cs.toArray tb (0, 0)) := (hH.own _ (List.mem_of_getElem? hr)).1
          have hst := run_storeCells_at (P := P) ab ao tb v.cells.toList 0 cs.toArray w hbox (by simp; omega) (allOne_ok hone)
          simp only [Nat.add_zero, Array.length_toList] at hst
          have hrun : (Instr.storeAt t (.pointer (some ⟨ab, ao, none⟩)) v).run P w = .ok () (w.setRow ab (cs.take ao ++ v.cells.toList ++ cs.drop (ao + n)).toArray) := by
            simp only [Instr.storeAt, Instr.sureAddr, storeVar, Sem.run_bind, Sem.run_pure, Result.andThen_ok, run_sizeOf_of w hn, hsz', ne_eq, not_true_eq_false, if_false, hst]
          unfold Oper.wp execOp
          simp only [hop, evl_ok hF hc0 hx, evl_ok hF hc0 hy, Sem.run_bind, hrun, Result.andThen_ok, Sem.run_pure, Oper.upon]
          have hput : a.put o.dst undef = a := by rw [hd]; rfl
          rw [hput]
          refine hK _ _ _ _ hKK hF ?_
          refine hH.turn hr rfl rfl rfl rfl (by simp [World.setRow]) (fun b _ hnf => setRow_other w ab b _ (fun e => hnf (by simp only [Res.fp]; exact e))) ?_ (fun b hb => ⟨.inl hb, ?_⟩)
          · exact setRow_heap w ab cs.toArray _ tb (0, 0) hbox
          · simp only [Res.fp] at hb
            subst hb
            simp only [World.setRow, Array.size_modify]
            exact (Array.getElem?_eq_some_iff.1 hbox).1
        · exact h.elim
      · exact h.elim
    · exact h.elim
  | sk =>
    have hskip : ∀ (j g d : Nat) (b : Bool) (u : Value), o.guard = some (j, b) → o.dst = some d → gslot ops j = some g → a.tmps.getD g undef = u → u ≠ .bool b → okDst N d (some (g, b)) = true → K (putE l ⟨d, none, undef⟩) rs →
        if Region.wanted o (yielded ops a.tmps) then o.wp P a w K' Q else K' (a.put o.dst undef) w := by
      intro j g d b u hg hd hs hu hne hok hKK
      have hnw : ¬ Region.wanted o (yielded ops a.tmps) = true := fun hw => hne (hu ▸ (wanted_some hg hs).1 hw)
      rw [if_neg hnw]
      simp only [okDst, Bool.and_eq_true] at hok
      have hdN : d < N := Nat.le_of_ble_eq_true hok.1
      refine hK _ _ _ _ hKK ?_ hH
      rw [hd]
      exact hF.putE (e := ⟨d, none, undef⟩) hdN (getD_put_same (by rw [hF.size]; exact hdN))
    simp only [op1] at h
    split at h
    · rename_i j b d hg hd
      split at h
      · rename_i g hs
        have hcase : a.tmps.getD g undef = undef ∨ ∀ u, look (chain l 8 g) l g = some u → a.tmps.getD g undef = u := by
          by_cases hu : a.tmps.getD g undef = undef
          · exact .inl hu
          · exact .inr fun u hl => look_ok hF.ent (chain_ok hF.ent 8 g hu) hl
        split at h
        · rename_i x hl
          split at h
          · rename_i hok
            rcases hcase with hc | hc
            · exact hskip j g d b _ hg hd hs hc (bool_ne_undef b).symm hok h.2
            · exact hskip j g d b _ hg hd hs (hc _ hl) (by rw [h.1]; cases b <;> simp) hok h.2
          · exact h.elim
        · rename_i x hl
          split at h
          · rename_i hok
            rcases hcase with hc | hc
            · exact hskip j g d b _ hg hd hs hc (bool_ne_undef b).symm hok h
            · exact hskip j g d b _ hg hd hs (hc _ hl) (by simp) hok h
          · exact h.elim
        · exact h.elim
      · exact h.elim
    · rename_i j b hg hd
      split at h
      · rename_i g hs
        split at h
        · rename_i x hl
          have hx := look_ok hF.ent hc0 hl
          have hnw : ¬ Region.wanted o (yielded ops a.tmps) = true := fun hw => by
            have h1 := (wanted_some hg hs).1 hw
            rw [hx, h.1] at h1
            cases b <;> simp at h1
          rw [if_neg hnw]
          have hput : a.put o.dst undef = a := by rw [hd]; rfl
          rw [hput]
          exact hK _ _ _ _ h.2 hF hH
        · exact h.elim
      · exact h.elim
    · exact h.elim
  | as c u => exact still_op h hF hH hK
  | aps k bs nn vv =>
    simp only [op1] at h
    split at h
    · rename_i x y t t' d hg hop hd
      rw [if_pos (wanted_none hg)]
      split at h
      · rename_i A n cp s A' c' e size n' xs e' hx hy hr hu hu'
        split at h
        · rename_i z bytes hel
          split at h
          · rename_i hchk
            simp only [Bool.and_eq_true] at hchk
            obtain ⟨⟨⟨hee, hsz1⟩, hby1⟩, hdN⟩ := hchk
            have hee := Nat.eq_of_beq_eq_true hee
            have hsz1 := Nat.eq_of_beq_eq_true hsz1
            have hby1 := Nat.eq_of_beq_eq_true hby1
            have hdN' : d < N := Nat.le_of_ble_eq_true hdN
            subst hee; subst hsz1; subst hby1
            obtain ⟨⟨rfl, rfl, rfl, rfl, hbytes, rfl, rfl⟩, hKK⟩ := h
            have hrow : rowOk w A cp e 1 n xs := (hH.own _ (List.mem_of_getElem? hr)).1
            obtain ⟨i, hi, hz, hsz, hby, hzs, hpos⟩ := elemOk_ok hel
            obtain ⟨A1, c1, w', hrun, hown, hgr, hat, hlt'⟩ := run_append_row_str (P := P) w t t' o.type e i z (underlying_of hu) (underlying_of hu') hi hz hsz hby hzs A cp n xs hrow bs hbytes
            unfold Oper.wp execOp
            simp only [hop, resolve, invoke, builtin, Sem.run_bind, Sem.run_pure, Result.andThen_ok, List.map_toArray, List.map_cons, List.map_nil, evl_ok hF hc0 hx, evl_ok hF hc0 hy, hrun, Oper.upon]
            refine hK _ _ _ _ (hKK A1 c1) ?_ ?_
            · rw [hd]
              exact hF.putE (e := ⟨d, none, _⟩) hdN' (getD_put_same (by rw [hF.size]; exact hdN'))
            · refine hH.turn hr rfl hgr.os hgr.tape hgr.output hgr.size (fun b hb hnf => hgr.block b hb (fun e => hnf ?_)) hown (fun b hb => ?_)
              · cases A with
                | none => simp [Value.ownBlock] at e
                | some ad => simp only [Value.ownBlock, Option.some.injEq] at e; exact ⟨ad, rfl, e.symm⟩
              · obtain ⟨ad, hA, rfl⟩ := hb
                refine ⟨?_, hlt' ad hA⟩
                rcases hat ad hA with h1 | h1
                · cases A with
                  | none => simp [Value.ownBlock] at h1
                  | some ad0 => simp only [Value.ownBlock, Option.some.injEq] at h1; exact .inl ⟨ad0, rfl, h1⟩
                · exact .inr (by omega)
          · exact h.elim
        · exact h.elim
      · exact h.elim
    · exact h.elim
  | tb bs vv =>
    simp only [op1] at h
    split at h
    · rename_i t t' x d hg hop hd
      rw [if_pos (wanted_none hg)]
      split at h
      · rename_i s e hx hu hu'
        split at h
        · rename_i he
          split at h
          · rename_i hdN
            have hdN' : d < N := Nat.le_of_ble_eq_true hdN
            obtain ⟨⟨rfl, hmax, rfl⟩, hKK⟩ := h
            have hrun := Lib.run_convert_string_bytes (P := P) w t t' e ⟨bs.toArray⟩ (underlying_of hu) (underlying_of hu') (underlying_of he)
            have hss : (⟨bs.toArray⟩ : ByteArray).size = bs.length := by simp [ByteArray.size]
            rw [hss] at hrun
            unfold Oper.wp execOp
            simp only [hop, evl_ok hF hc0 hx, Sem.run_bind, Sem.run_pure, hrun, Result.andThen_ok, Oper.upon]
            refine hK _ _ _ _ (hKK w.heap.size (grownCap w bs.length 0 e)) ?_ ?_
            · rw [hd]
              exact hF.putE (e := ⟨d, none, _⟩) hdN' (getD_put_same (by rw [hF.size]; exact hdN'))
            · refine hH.more (w' := Lib.bytesWorld w e ⟨bs.toArray⟩) ⟨rfl, rfl, rfl, by rw [Lib.bytesWorld_size]; omega, fun b hb => Lib.bytesWorld_at_old w e _ b hb⟩ _ (fun r hr => ?_) (by simp)
              simp only [List.mem_singleton] at hr
              subst hr
              have hge := grownCap_ge w bs.length 0 e
              have hsz : (Lib.bytesCells w e ⟨bs.toArray⟩).size = grownCap w bs.length 0 e := by
                simp only [Lib.bytesCells, Array.size_append, Array.size_map, Array.size_replicate, hss]
                simp
                omega
              refine ⟨⟨by simp, .inr ⟨w.heap.size, _, _, rfl, Lib.bytesWorld_at_new w e _, .inr (Nat.le_refl _), hge, grownCap_le_maxLen w bs.length 0 e hmax, by rw [hsz]; omega, ?_⟩⟩, fun b ⟨ad, hA, hb⟩ => ?_⟩
              · simp only [Lib.bytesCells, Array.toList_append, Array.toList_map, Nat.mul_one]
                rw [List.take_left' (by simp)]
                try rfl
              · simp only [Option.some.injEq] at hA
                subst hA
                subst hb
                exact ⟨Nat.le_refl _, by rw [Lib.bytesWorld_size]; exact Nat.lt_succ_self _⟩
          · exact h.elim
        · exact h.elim
      · exact h.elim
    · exact h.elim
  | xc val new facts =>
    simp only [op1] at h
    split at h
    · rename_i d f args hc
      obtain ⟨hok, hKK⟩ := h
      unfold extOf at hc
      split at hc
      · rename_i x xs ats dd hg hop hd
        split at hc
        · rename_i ff vs hx hvs
          split at hc
          · rename_i hdN
            simp only [Option.some.injEq, Prod.mk.injEq] at hc
            obtain ⟨rfl, rfl, rfl⟩ := hc
            have hdN' : dd < N := Nat.le_of_ble_eq_true hdN
            obtain ⟨u, w', hrun, hb, hfu, hnew⟩ := hok w
            rw [if_pos (wanted_none hg)]
            have e3 : xs.map a.eval = vs.toArray := by
              rw [← argC_ok hF hc0 hvs]
              apply Array.toList_inj.1
              simp
            have hrun' : (execOp a.eval o).run P w = .ok (.value (val u)) w' := by
              unfold execOp
              simp only [hop, resolve, evl_ok hF hc0 hx, Deferred.ofValue, invoke, Sem.run_bind, Sem.run_pure, Result.andThen_ok, e3, Array.empty_append, Array.append_empty]
              exact hrun
            unfold Oper.wp
            rw [hrun']
            simp only [Oper.upon]
            refine hK _ _ _ _ (hKK u hfu) ?_ (hH.more hb _ (fun r hr => ⟨(hnew.own r hr).1, fun b hb => ⟨((hnew.own r hr).2 b hb).2.resolve_right (fun e => e), ((hnew.own r hr).2 b hb).1⟩⟩) hnew.sep)
            rw [hd]
            exact hF.putE (e := ⟨dd, none, _⟩) hdN' (getD_put_same (by rw [hF.size]; exact hdN'))
          · cases hc
        · cases hc
      · cases hc
    · exact h.elim
  | cp k off at0 rf news =>
    simp only [op1] at h
    split at h
    · rename_i x y t ts d hg hop hd
      rw [if_pos (wanted_none hg)]
      split at h
      · rename_i D nd cd B m cm A cp e size n xs r e' hx hy hr hrf hu
        split at h
        · rename_i sz hsz
          split at h
          · rename_i hchk
            simp only [Bool.and_eq_true] at hchk
            obtain ⟨⟨hs1, hsz1⟩, hdN⟩ := hchk
            have hs1 := Nat.eq_of_beq_eq_true hs1
            have hsz1 := Nat.eq_of_beq_eq_true hsz1
            have hdN' : d < N := Nat.le_of_ble_eq_true hdN
            subst hs1; subst hsz1
            obtain ⟨⟨hD, hat, hoff, hmin, hcpy, hone⟩, hKK⟩ := h
            have hrow : rowOk w A cp e 1 n xs := (hH.own _ (List.mem_of_getElem? hr)).1
            obtain ⟨hBn, hBc⟩ := cpyP_ok (hH.get hrf).1 hcpy
            have hut : P.underlying t = some (.slice e') := underlying_of hu
            have hmle : news.length ≤ m := by rw [hmin]; exact Nat.min_le_left _ _
            -- the copy's run
            have hfirst : (Builtin.firstCells 1 (Nat.min m nd) (.slice B m cm)).run P w = .ok news.toArray w := by
              rw [← hmin]
              cases B with
              | none =>
                have : news = [] := hBn rfl
                subst this
                rfl
              | some ad =>
                have := run_loadCells_list (P := P) w ad news (hBc ad rfl)
                simp only [Builtin.firstCells, Nat.mul_one, this]
            have hrunE : ∃ w', (Builtin.copy_ #[t, ts.head?.getD 0] o.type #[.slice D nd cd, .slice B m cm]).run P w = .ok (goInt news.length) w' ∧ rowOk w' A cp e 1 n (xs.take off ++ news ++ xs.drop (off + news.length)) ∧ w.grownBy w' (A.map (·.block)) ∧ w'.heap.size = w.heap.size := by
              rcases hrow.2 with ⟨rfl, rfl, rfl⟩ | ⟨g, cur, fz, rfl, hbox, hfz, hncap, hcap, hcs, htake⟩
              · have hn0 : news = [] := List.eq_nil_of_length_eq_zero (by omega)
                subst hn0
                have hoff0 : off = 0 := by simp at hoff; exact hoff
                subst hoff0
                have hDn : D = none := by rw [hD]; cases at0 <;> simp [cutA]
                subst hDn
                refine ⟨w, ?_, by simpa using hrow, ⟨rfl, rfl, rfl, Nat.le_refl _, fun _ _ _ => rfl⟩, rfl⟩
                have hm0 : Nat.min m nd = 0 := by simpa using hmin.symm
                rw [hm0] at hfirst
                simp [Builtin.copy_, run_underlying hut, Builtin.lenOf, run_sizeOf_of w hsz, hfirst, hm0]
              · by_cases hne : news = []
                · subst hne
                  refine ⟨w, ?_, by simpa using hrow, ⟨rfl, rfl, rfl, Nat.le_refl _, fun _ _ _ => rfl⟩, rfl⟩
                  have hm0 : Nat.min m nd = 0 := by simpa using hmin.symm
                  rw [hm0] at hfirst
                  cases D <;> simp [Builtin.copy_, run_underlying hut, Builtin.lenOf, run_sizeOf_of w hsz, hfirst, storeCells, hm0]
                · have hpos : 0 < news.length := List.length_pos_iff.2 hne
                  have hDe : D = some ⟨g, off, none⟩ := by
                    rw [hD]
                    cases at0 with
                    | true => rw [hat rfl]; rfl
                    | false =>
                      have hnc : ¬ cp = off := by omega
                      simp only [cutA, hnc, if_false, Bool.false_eq_true, Option.map_some, Nat.mul_one]
                      unfold Addr.add
                      split <;> simp_all
                  subst hDe
                  have hfit : off + news.length ≤ cur.size := by omega
                  have hst := run_storeRow (P := P) g off e fz news 0 cur w hbox hfz (by simpa using hfit) hone
                  simp only [Nat.add_zero] at hst
                  refine ⟨_, by simp [Builtin.copy_, run_underlying hut, Builtin.lenOf, run_sizeOf_of w hsz, hfirst, hst]; exact ⟨by rw [hmin], rfl⟩, ⟨?_, .inr ⟨g, _, fz, rfl, setRow_heap w g cur _ e fz hbox, ?_, hncap, hcap, ?_, ?_⟩⟩, ⟨rfl, rfl, rfl, by simp, fun k _ hk => setRow_other w g k _ (fun e => hk (by simp [e]))⟩, by simp⟩
                  · have := hrow.1; simp only [List.length_append, List.length_take, List.length_drop]; omega
                  · refine Or.imp_right (fun h => ?_) hfz
                    refine Nat.le_trans (Nat.le_of_eq ?_) h
                    simp only [List.size_toArray, List.length_append, List.length_take, List.length_drop, Array.length_toList]
                    omega
                  · simp; omega
                  · have hxl : xs.length = n := by simpa using hrow.1
                    simp only [Nat.mul_one] at htake ⊢
                    rw [← htake]
                    apply List.ext_getElem?
                    intro j
                    simp only [List.append_assoc, List.getElem?_take, List.getElem?_append, List.length_take, List.getElem?_drop, Array.length_toList]
                    have : min off cur.size = off := by omega
                    have h2 : min off (min n cur.size) = off := by omega
                    simp only [this, h2]
                    have e1 : ¬ j < off → ¬ j - off < news.length → off + news.length + (j - off - news.length) = j := by omega
                    by_cases hj : j < n
                    · by_cases hj1 : j < off
                      · simp [hj, hj1]
                      · by_cases hj2 : j - off < news.length
                        · simp [hj, hj1, hj2]
                        · simp [hj, hj1, hj2, e1 hj1 hj2]
                    · have h3 : ¬ j < off := by omega
                      have h4 : ¬ j - off < news.length := by omega
                      simp [hj, h3, h4, e1 h3 h4]
            obtain ⟨w', hrun, hown, hgr, hsize⟩ := hrunE
            have hrun' : (Builtin.copy_ (t :: ts).toArray o.type #[.slice D nd cd, .slice B m cm]).run P w = .ok (goInt news.length) w' := by
              rw [← hrun]
              unfold Builtin.copy_
              rfl
            unfold Oper.wp execOp
            simp only [hop, resolve, invoke, builtin, Sem.run_bind, Sem.run_pure, Result.andThen_ok, List.map_toArray, List.map_cons, List.map_nil, evl_ok hF hc0 hx, evl_ok hF hc0 hy, hrun', Oper.upon]
            refine hK _ _ _ _ hKK ?_ ?_
            · rw [hd]
              exact hF.putE (e := ⟨d, none, _⟩) hdN' (getD_put_same (by rw [hF.size]; exact hdN'))
            · refine hH.turn hr rfl hgr.os hgr.tape hgr.output hgr.size (fun b hb hnf => hgr.block b hb (fun e => hnf ?_)) hown (fun b hb => ⟨.inl hb, by rw [hsize]; exact ((hH.own _ (List.mem_of_getElem? hr)).2 b hb).1⟩)
              cases A with
              | none => simp at e
              | some ad => simp at e; exact ⟨ad, rfl, e.symm⟩
          · exact h.elim
        · exact h.elim
      · exact h.elim
    · exact h.elim
  | ge c => exact h.elim
  | ms k =>
    simp only [op1] at h
    split at h
    · rename_i t t' x d hg hop hd
      rw [if_pos (wanted_none hg)]
      split at h
      · rename_i g n c g' e cs e' hx hr hu
        split at h
        · rename_i hu8
          split at h
          · rename_i hchk
            simp only [Bool.and_eq_true] at hchk
            obtain ⟨⟨htt, hdN⟩, hcl⟩ := hchk
            have htt := Nat.eq_of_beq_eq_true htt
            have hdN' : d < N := Nat.le_of_ble_eq_true hdN
            have hcl := Nat.le_of_ble_eq_true hcl
            subst htt
            obtain ⟨rfl, hKK⟩ := h
            have hbox : w.heap[g']? = some (.cells cs.toArray e (0, 0)) := (hH.own _ (List.mem_of_getElem? hr)).1
            have hut : P.underlying t = some (.slice e') := underlying_of hu
            have hue : P.underlying e' = some (.int .u8) := underlying_of hu8
            have hlt : g' < w.heap.size := (Array.getElem?_eq_some_iff.1 hbox).1
            have hget : w.heap[g'] = .cells cs.toArray e (0, 0) := (Array.getElem?_eq_some_iff.1 hbox).2
            have hsh : w.shape? g' = some (e, cs.length) := by unfold World.shape?; rw [hbox]; simp
            have hw : ∃ w', w.freeze ⟨g', cs.length, none⟩ 1 = w' ∧ w'.heap[g']? = some (.cells cs.toArray e (cs.length, cs.length + 1)) ∧ w'.os = w.os ∧ w'.tape = w.tape ∧ w'.output = w.output ∧ w'.heap.size = w.heap.size ∧ ∀ b, b ≠ g' → w'.heap[b]? = w.heap[b]? := by
              refine ⟨_, rfl, ?_⟩
              unfold World.freeze
              rw [if_neg (by decide)]
              refine ⟨?_, rfl, rfl, rfl, by simp, fun b hb => ?_⟩
              · simp [Array.getElem?_modify, hbox]
              · simp [Array.getElem?_modify, Ne.symm hb]
            obtain ⟨w', hfr, hb', hos, htape, hout, hsize, hoth⟩ := hw
            have hrun : (convert t t (.slice (some ⟨g', 0, none⟩) n c)).run P w = .ok (.slice (some ⟨g', 0, none⟩) n c) w' := by
              simp [convert, run_underlying hut, run_underlying hue, markStringish, hsh, hfr]
            unfold Oper.wp execOp
            simp only [hop, Sem.run_bind, Sem.run_pure, Result.andThen_ok, evl_ok hF hc0 hx, hrun, Oper.upon]
            refine hK _ _ _ _ hKK ?_ ?_
            · rw [hd]
              exact hF.putE (e := ⟨d, none, _⟩) hdN' (getD_put_same (by rw [hF.size]; exact hdN'))
            · refine hH.turn hr rfl hos htape hout (Nat.le_of_eq hsize.symm) (fun b _ hnf => hoth b hnf) ?_ (fun b ⟨ad, hA, hb⟩ => ?_)
              · exact ⟨by simp, .inr ⟨g', cs.toArray, _, rfl, hb', .inr (by simp), Nat.le_refl _, by unfold maxLen; omega, by simp, by simp⟩⟩
              · injection hA with hA
                subst hA
                exact ⟨.inl hb.symm, by rw [hsize, ← hb]; exact hlt⟩
          · exact h.elim
        · exact h.elim
      · exact h.elim
    · exact h.elim
  | gt c =>
    simp only [op1] at h
    split at h
    · rename_i j b d hg hd
      split at h
      · rename_i g hs
        split at h
        · rename_i x v p hl hsv
          split at h
          · rename_i hok
            simp only [okDst, Bool.and_eq_true] at hok
            have hdN : d < N := Nat.le_of_ble_eq_true hok.1
            obtain ⟨rfl, hand⟩ := h
            have hgx := look_ok hF.ent hc0 hl
            have hw := (wanted_some (ops := ops) (t := a.tmps) hg hs).2 hgx
            have hc : Ctx.ok a.tmps [(g, x)] := fun y hy => by simp at hy; subst hy; exact hgx
            have hside : sideP p := by
              cases p with
              | none => trivial
              | some p => exact hand.1
            have hKK : K (putE l ⟨d, none, v⟩) rs := by
              cases p with
              | none => exact hand
              | some p => exact hand.2
            rw [if_pos hw]
            unfold Oper.wp
            rw [still_sound hsv hside hF hc hH.allOk]
            simp only [Oper.upon]
            refine hK _ _ _ _ hKK ?_ hH
            rw [hd]
            exact hF.putE (e := ⟨d, none, v⟩) hdN (getD_put_same (by rw [hF.size]; exact hdN))
          · exact h.elim
        · exact h.elim
      · exact h.elim
    · exact h.elim
  | cl ix val new als facts =>
    simp only [op1] at h
    split at h
    · rename_i d f args hc
      split at h
      · rename_i need p b hnd0
        obtain ⟨⟨hp, hbb, hok⟩, hKK⟩ := h
        have hnd := ndRes_ok hH hnd0 hp
        have hneed : NeedOk w need [] := by
          refine ⟨fun q hq => ?_, fun _ _ _ h => (by cases h), fun _ h => (by cases h), List.Pairwise.nil⟩
          obtain ⟨h1, h2, r, h3, h4⟩ := hnd q hq
          refine ⟨h1, h2, fun x hx => ?_⟩
          rcases h3 with h3 | h3
          · exact ((hH.old r h3).2.2 x (h4 x hx)).1
          · exact ((hH.own r h3.1).2 x (h4 x hx)).1
        have hcall := hok w hneed
        obtain ⟨hw, hd, hdN, hrun⟩ := callOf_ok hF hc w
        rw [if_pos hw]
        unfold Oper.wp
        rw [hrun]
        simp only [Oper.upon]
        refine hcall.mono fun e w' ⟨u, he, hb, hfu, hnew⟩ => ?_
        subst he
        have hH' := hH.step (rest := rs) (ms := []) (fun _ h => h) hH.sep (fun _ h => by cases h) (fun _ h => by cases h) hb (need := need) (als := als u) (fun q hq => by
          obtain ⟨_, _, r, h3, h4⟩ := hnd q hq
          refine ⟨r, h3.imp id (fun h => ⟨h.1, fun hmt => ?_⟩), h4⟩
          rcases hbb with hb | hb
          · have := h.2 hmt; rw [hb] at this; cases this
          · exact hb u) hnew
        refine hK _ _ _ _ (hKK u hfu) ?_ hH'.alR
        rw [hd]
        exact hF.putE (e := ⟨d, none, _⟩) hdN (getD_put_same (by rw [hF.size]; exact hdN))
      · exact h.elim
    · exact h.elim
  | sr k i =>
    simp only [op1] at h
    split at h
    · rename_i t x y hg hop hd
      rw [if_pos (wanted_none hg)]
      split at h
      · rename_i ad v A cp e size n xs n1 hx hy hr hn
        split at h
        · rename_i hchk
          simp only [Bool.and_eq_true] at hchk
          obtain ⟨⟨⟨h1, h2⟩, h3⟩, hone⟩ := hchk
          have h1 := Nat.eq_of_beq_eq_true h1
          have h2 := Nat.eq_of_beq_eq_true h2
          have h3 := Nat.eq_of_beq_eq_true h3
          subst h1; subst h2
          obtain ⟨⟨hae, hlt⟩, hKK⟩ := h
          have hrow : rowOk w A cp e 1 n xs := (hH.own _ (List.mem_of_getElem? hr)).1
          obtain ⟨hlen, hcase⟩ := hrow
          rcases hcase with ⟨_, _, h0⟩ | ⟨g, cur, fz, hA, hbox, hfz, hncap, hcap, hcs, htake⟩
          · omega
          · subst hA
            have hvc : v.cells.toList = [v] := by cases v <;> simp_all [Value.cells, Value.oneCell']
            have had : ad = ⟨g, i, none⟩ := by rw [hae]; simp only [Option.getD_some, Nat.mul_one]; unfold Addr.add; split <;> simp_all
            have hst := run_storeRow (P := P) g i e fz v.cells.toList 0 cur w hbox hfz (by rw [hvc]; simp; omega) (by rw [hvc]; intro u hu; simp at hu; subst hu; exact hone)
            simp only [Nat.add_zero, Array.length_toList, h3] at hst
            have hrun : (Instr.storeAt t (.pointer (some ad)) v).run P w = .ok () (w.setRow g (cur.toList.take i ++ v.cells.toList ++ cur.toList.drop (i + 1)).toArray) := by
              rw [had]
              simp only [Instr.storeAt, Instr.sureAddr, storeVar, Sem.run_bind, Sem.run_pure, Result.andThen_ok, run_sizeOf_of w hn, h3, ne_eq, not_true_eq_false, if_false, hst]
            unfold Oper.wp execOp
            simp only [hop, evl_ok hF hc0 hx, evl_ok hF hc0 hy, Sem.run_bind, hrun, Result.andThen_ok, Sem.run_pure, Oper.upon]
            have hput : a.put o.dst undef = a := by rw [hd]; rfl
            rw [hput]
            refine hK _ _ _ _ hKK hF ?_
            have e1 : (cur.toList.take i ++ [v] ++ cur.toList.drop (i + 1)) = cur.toList.set i v := by
              have hil : i < cur.toList.length := by simp; omega
              rw [List.set_eq_take_append_cons_drop, if_pos hil]; simp
            refine hH.turn hr rfl rfl rfl rfl (by simp [World.setRow]) (fun b _ hnf => setRow_other w g b _ (fun e => hnf ⟨_, rfl, e.symm⟩)) ?_ (fun b hb => ⟨.inl hb, ?_⟩)
            · refine ⟨by simpa using hlen, .inr ⟨g, _, fz, rfl, setRow_heap w g cur _ e fz hbox, ?_, hncap, hcap, ?_, ?_⟩⟩
              · rw [hvc, e1]; simpa using hfz
              · rw [hvc, e1]; simp; omega
              · rw [hvc]
                simp only [Nat.mul_one] at htake ⊢
                rw [← htake, e1, List.take_set]
            · obtain ⟨ad', hA', hbb⟩ := hb
              injection hA' with hA'
              subst hA'
              simp only at hbb
              subst hbb
              simp only [World.setRow, Array.size_modify]
              exact (Array.getElem?_eq_some_iff.1 hbox).1
        · exact h.elim
      · exact h.elim
    · exact h.elim
  | ap k rf news nn vv =>
    simp only [op1] at h
    split at h
    · rename_i x y t t' d hg hop hd
      rw [if_pos (wanted_none hg)]
      split at h
      · rename_i A n cp B m cm A' c' e size n' xs r e' hx hy hr hrf hu
        split at h
        · rename_i z bytes hel
          split at h
          · rename_i hchk
            simp only [Bool.and_eq_true] at hchk
            obtain ⟨⟨htt, hee⟩, hdN⟩ := hchk
            have htt := Nat.eq_of_beq_eq_true htt
            have hee := Nat.eq_of_beq_eq_true hee
            have hdN' : d < N := Nat.le_of_ble_eq_true hdN
            subst htt; subst hee
            obtain ⟨⟨rfl, rfl, rfl, hsrc, hone, h63, hbytes, rfl, rfl⟩, hKK⟩ := h
            have hrow : rowOk w A cp e size n xs := (hH.own _ (List.mem_of_getElem? hr)).1
            obtain ⟨i, hi, hz, hsz, hby, hzs, hpos⟩ := elemOk_ok hel
            have hut : P.underlying t = some (.slice e) := underlying_of hu
            obtain ⟨hnl, hnil, hcell⟩ := srcP_ok (hH.get hrf).1 hsrc
            have hrunE : ∃ A1 c1 w', (Builtin.append_ #[t, t] o.type #[.slice A n cp, .slice B m cm]).run P w = .ok (.slice A1 (n + m) c1) w' ∧ rowOk w' A1 c1 e size (n + m) (xs ++ news) ∧ w.grownBy w' (Value.ownBlock (.slice A n cp)) ∧
                (∀ a1, A1 = some a1 → Value.ownBlock (.slice A n cp) = some a1.block ∨ a1.block = w.heap.size) ∧ (∀ a1, A1 = some a1 → a1.block < w'.heap.size) := by
              cases B with
              | none =>
                obtain ⟨rfl, rfl⟩ := hnil rfl
                refine ⟨A, cp, w, ?_, by simpa using hrow, World.grownBy.refl w _, fun ad hA => .inl (by rw [hA]; rfl), fun ad hA => ((hH.own _ (List.mem_of_getElem? hr)).2 _ ⟨ad, hA, rfl⟩).1⟩
                rcases hrow.2 with ⟨hA, hcc, hn0⟩ | ⟨g, cur, fz, hA, _, _, hnc, _⟩
                · subst hA; subst hcc; subst hn0
                  simp [Builtin.append_, run_underlying hut, sizeOf, typeInfo, hi, Builtin.lenOf, Builtin.firstCells]
                · subst hA
                  simp [Builtin.append_, run_underlying hut, sizeOf, typeInfo, hi, Builtin.lenOf, Builtin.firstCells, hnc, storeCells]
              | some ad => exact run_append_row (P := P) w t o.type e i z size bytes hut hi hz hsz hby hzs A cp n xs hrow ad m cm news hnl (hcell ad rfl) hone h63 hbytes
            obtain ⟨A1, c1, w', hrun, hown, hgr, hat, hlt'⟩ := hrunE
            unfold Oper.wp execOp
            simp only [hop, resolve, invoke, builtin, Sem.run_bind, Sem.run_pure, Result.andThen_ok, List.map_toArray, List.map_cons, List.map_nil, evl_ok hF hc0 hx, evl_ok hF hc0 hy, hrun, Oper.upon]
            refine hK _ _ _ _ (hKK A1 c1) ?_ ?_
            · rw [hd]
              exact hF.putE (e := ⟨d, none, _⟩) hdN' (getD_put_same (by rw [hF.size]; exact hdN'))
            · refine hH.turn hr rfl hgr.os hgr.tape hgr.output hgr.size (fun b hb hnf => hgr.block b hb (fun e => hnf ?_)) hown (fun b hb => ?_)
              · cases A with
                | none => simp [Value.ownBlock] at e
                | some ad => simp only [Value.ownBlock, Option.some.injEq] at e; exact ⟨ad, rfl, e.symm⟩
              · obtain ⟨ad, hA, rfl⟩ := hb
                refine ⟨?_, hlt' ad hA⟩
                rcases hat ad hA with h1 | h1
                · cases A with
                  | none => simp [Value.ownBlock] at h1
                  | some ad0 => simp only [Value.ownBlock, Option.some.injEq] at h1; exact .inl ⟨ad0, rfl, h1⟩
                · exact .inr (by omega)
          · exact h.elim
        · exact h.elim
      · exact h.elim
    · exact h.elim
  | mk n c vv =>
    simp only [op1] at h
    split at h
    · rename_i t x y d hg hop hd
      rw [if_pos (wanted_none hg)]
      split at h
      · rename_i k1 q k2 q' e hx hy hu
        split at h
        · rename_i z bytes hel
          split at h
          · rename_i hchk
            simp only [Bool.and_eq_true] at hchk
            have hdN' : d < N := Nat.le_of_ble_eq_true hchk.1
            obtain ⟨⟨rfl, rfl, hnc, hbytes, hmax, rfl⟩, hKK⟩ := h
            obtain ⟨i, hi, hz, hsz, hby, hzs, hpos⟩ := elemOk_ok hel
            have hut : P.underlying t = some (.slice e) := underlying_of hu
            have hbi : (i.bytes : Int) * (c : Int) ≤ 281474976710656 := by
              have : ((c * bytes : Nat) : Int) ≤ 281474976710656 := by omega
              rw [hby, Int.mul_comm]
              simpa using this
            have hrun := run_make (P := P) w t e i z hut hi hz k1 k2 n c (by omega) (by omega) hbi (by simp only [maxLen] at hmax; omega)
            simp only [Int.toNat_natCast, hsz, Nat.mul_one] at hrun
            unfold Oper.wp execOp
            simp only [hop, evl_ok hF hc0 hx, evl_ok hF hc0 hy, Sem.run_bind, hrun, Result.andThen_ok, Sem.run_pure, Oper.upon]
            refine hK _ _ _ _ (hKK w.heap.size) ?_ ?_
            · rw [hd]
              exact hF.putE (e := ⟨d, none, _⟩) hdN' (getD_put_same (by rw [hF.size]; exact hdN'))
            · refine hH.more (below_alloc w _) _ (fun r hr => ?_) (by simp)
              simp only [List.mem_singleton] at hr
              subst hr
              have hzc : z.cells = #[z] := by cases z <;> simp_all [Value.cells, Value.oneCell']
              refine ⟨⟨by simp, .inr ⟨w.heap.size, _, (0, 0), rfl, heap_alloc_new w _, .inl (Nat.le_refl _), hnc, hmax, by simp [size_madeCells], ?_⟩⟩, fun b hb => ?_⟩
              · apply List.ext_getElem
                · simp [size_madeCells]; omega
                · intro j h1 h2
                  simp [madeCells, hzc, Nat.mod_one]
              · obtain ⟨ad, hA, rfl⟩ := hb
                injection hA with hA
                subst hA
                simp
          · exact h.elim
        · exact h.elim
      · exact h.elim
    · exact h.elim
  | lr rf i v => exact still_op h hF hH hK
  | pt b => exact still_op h hF hH hK
  | sh hi => exact still_op h hF hH hK
  | sl lo hi => exact still_op h hF hH hK
  | s3 hi mx => exact still_op h hF hH hK
  | ss lo hi => exact still_op h hF hH hK
  | sx i => exact still_op h hF hH hK
  | cc => exact still_op h hF hH hK
  | tos rf bs => exact still_op h hF hH hK
  | ex ix v => exact still_op h hF hH hK
  | p => exact still_op h hF hH hK
  | pv v => exact still_op h hF hH hK
  | pk => exact still_op h hF hH hK
  | ae => exact still_op h hF hH hK
  | ld rf => exact still_op h hF hH hK
  | ia rf i => exact still_op h hF hH hK
  | lv rf i off => exact still_op h hF hH hK
  | sv v => exact still_op h hF hH hK

theorem op2_sound {c : Ct} {o : Oper} {K : List Ent → List Res → Prop} {K' : Act → World → Prop} (h : op2 P N ops ns c o l rs K) (hF : Fr N l a) (hH : Hp w0 B M ns rs w)
    (hK : ∀ l' rs' a' w', K l' rs' → Fr N l' a' → Hp w0 B M ns rs' w' → K' a' w') :
    if Region.wanted o (yielded ops a.tmps) then o.wp P a w K' Q else K' (a.put o.dst undef) w := by
  unfold op2 at h
  split at h
  · rename_i c' _
    split at h
    · rename_i j b hg
      split at h
      · rename_i g hs
        split at h
        · rename_i x hl
          obtain ⟨rfl, h⟩ := h
          have hc0 : Ctx.ok a.tmps [] := fun x hx => by cases hx
          have hgx := look_ok hF.ent hc0 hl
          have hw := (wanted_some (ops := ops) (t := a.tmps) hg hs).2 hgx
          have h2 := op1_sound (Q := Q) h hF hH hK
          rw [if_pos (wanted_none rfl)] at h2
          rw [if_pos hw]
          exact h2
        · exact h.elim
      · exact h.elim
    · exact h.elim
  · exact op1_sound h hF hH hK

theorem vc_sound : ∀ (cs : List Ct) (os : List Oper) {l : List Ent} {rs : List Res} {K : List Ent → List Res → Prop} {a : Act} {w : World}, vc P N ops ns cs os l rs K → Fr N l a → Hp w0 B M ns rs w →
    (∀ l' rs' a' w', K l' rs' → Fr N l' a' → Hp w0 B M ns rs' w' → wpList P ops Q (os.drop cs.length) a' w') → wpList P ops Q os a w
  | [], _, _, _, _, _, _, h, hF, hH, hK => hK _ _ _ _ h hF hH
  | _ :: _, [], _, _, _, _, _, h, _, _, _ => h.elim
  | c :: cs, o :: r, l, rs, K, a, w, h, hF, hH, hK => by
    refine wpList_step fun K' hK' => ?_
    exact op2_sound (show op2 P N ops ns c o l rs _ from h) hF hH fun l' rs' a' w' h1 h2 h3 => hK' _ _ (vc_sound cs r h1 h2 h3 hK)

def rest : List Res → Nat → List Nat → List Res
  | [], _, _ => []
  | r :: l, i, ks => if ks.any (Nat.beq i) then rest l (i + 1) ks else r :: rest l (i + 1) ks
theorem rest_sub : ∀ (l : List Res) (i : Nat) (ks : List Nat), (rest l i ks).Sublist l
  | [], _, _ => List.Sublist.refl _
  | r :: l, i, ks => by
    unfold rest
    split
    · exact (rest_sub l (i + 1) ks).cons _
    · exact (rest_sub l (i + 1) ks).cons_cons _
theorem rest_mem : ∀ (l : List Res) (i : Nat) (ks : List Nat) (x : Res), x ∈ rest l i ks → ∃ j, l[j]? = some x ∧ ∀ k ∈ ks, k ≠ i + j
  | [], _, _, x, h => by cases h
  | r :: l, i, ks, x, h => by
    unfold rest at h
    split at h
    · obtain ⟨j, hj, hk⟩ := rest_mem l (i + 1) ks x h
      exact ⟨j + 1, by simpa using hj, fun k hk' e => hk k hk' (by omega)⟩
    · rename_i hn
      rcases List.mem_cons.1 h with rfl | h
      · refine ⟨0, rfl, fun k hk e => hn ?_⟩
        rw [List.any_eq_true]
        exact ⟨k, hk, by rw [e]; exact Nat.beq_refl i⟩
      · obtain ⟨j, hj, hk⟩ := rest_mem l (i + 1) ks x h
        exact ⟨j + 1, by simpa using hj, fun k hk' e => hk k hk' (by omega)⟩
def pick (rs : List Res) : List Nat → List Res
  | [] => []
  | k :: ks => match rs[k]? with
    | some r => r :: pick rs ks
    | none => pick rs ks
def nodupB : List Nat → Bool
  | [] => true
  | k :: ks => !ks.any (Nat.beq k) && nodupB ks
theorem pick_mem {rs : List Res} {r : Res} : ∀ {ks : List Nat}, r ∈ pick rs ks → ∃ k ∈ ks, rs[k]? = some r
  | [], h => by cases h
  | k :: ks, h => by
    unfold pick at h
    split at h
    · rename_i x hx
      rcases List.mem_cons.1 h with rfl | h
      · exact ⟨k, List.mem_cons_self .., hx⟩
      · obtain ⟨k', h1, h2⟩ := pick_mem h
        exact ⟨k', List.mem_cons_of_mem _ h1, h2⟩
    · obtain ⟨k', h1, h2⟩ := pick_mem h
      exact ⟨k', List.mem_cons_of_mem _ h1, h2⟩
theorem pick_sep {rs : List Res} (hs : rs.Pairwise Sep) : ∀ {ks : List Nat}, nodupB ks = true → (pick rs ks).Pairwise Sep
  | [], _ => List.Pairwise.nil
  | k :: ks, h => by
    simp only [nodupB, Bool.and_eq_true, Bool.not_eq_true'] at h
    unfold pick
    split
    · rename_i x hx
      refine List.Pairwise.cons (fun y hy => ?_) (pick_sep hs h.2)
      obtain ⟨k', h1, h2⟩ := pick_mem hy
      refine sep_get hs hx h2 fun e => ?_
      subst e
      have := List.any_eq_false.1 h.1 k h1
      exact this (Nat.beq_refl k)
    · exact pick_sep hs h.2
/-- a call by its contract; the resources 'ks' are given away, the items 'ix' are looked at -/
theorem callE {os : List Oper} {d f : Nat} {args : List Value} {need mneed : List Res} {U : Type} {val : U → Value} {new als : U → List Res} {facts : U → Prop} {p : Prop} {b : Bool}
    (hok : CallOk P f args need mneed val new als facts) (ix : List Nd) (ks : List Nat) (hn : ndRes ns (rest rs 0 ks) ix = some (need, p, b)) (hp : p) (hb : b = false ∨ ∀ u, als u = [])
    (hks : nodupB ks = true) (hm : pick rs ks = mneed) (hmm : mneed.all Res.mut = true) (hc : callOf P N ops l os = some (d, f, args)) (hF : Fr N l a) (hH : Hp w0 B M ns rs w)
    (k : ∀ u, facts u → ∀ a' w', Fr N (putE l ⟨d, none, val u⟩) a' → Hp w0 B M (ns ++ als u) (rest rs 0 ks ++ new u) w' → wpList P ops Q (os.drop 1) a' w') : wpList P ops Q os a w := by
  cases os with
  | nil => cases hc
  | cons o r =>
    have hc' : callOf P N ops l [o] = some (d, f, args) := hc
    refine wpList_step fun K' hK' => ?_
    obtain ⟨hw, hd, hdN, hrun⟩ := callOf_ok hF hc' w
    rw [if_pos hw]
    unfold Oper.wp
    rw [hrun]
    simp only [Oper.upon]
    subst hm
    have hsub := rest_sub rs 0 ks
    have hsep : ∀ x ∈ pick rs ks, x.mut = true ∧ ∀ y ∈ rest rs 0 ks, Sep x y := fun x hx => by
      refine ⟨List.all_eq_true.1 hmm x hx, fun y hy => ?_⟩
      obtain ⟨i, hi, hxi⟩ := pick_mem hx
      obtain ⟨j, hj, hjk⟩ := rest_mem rs 0 ks y hy
      exact sep_get hH.sep hxi hj (fun e => hjk i hi (by omega))
    have hrestH : Hp w0 B M ns (rest rs 0 ks) w := ⟨hH.below, hH.old, fun r hr r' hr' => hH.nsep r hr r' (hsub.subset hr'), fun r hr => hH.own r (hsub.subset hr), hH.sep.sublist hsub⟩
    have hnd := ndRes_ok hrestH hn hp
    have hneed : NeedOk w need (pick rs ks) := by
      refine ⟨fun q hq => ?_, fun q hq m hm' hmu x hx hmx => ?_, fun m hm' => ?_, pick_sep hH.sep hks⟩
      · obtain ⟨h1, h2, r, h3, h4⟩ := hnd q hq
        refine ⟨h1, h2, fun x hx => ?_⟩
        rcases h3 with h3 | h3
        · exact ((hH.old r h3).2.2 x (h4 x hx)).1
        · exact ((hrestH.own r h3.1).2 x (h4 x hx)).1
      · obtain ⟨h1, h2, r, h3, h4⟩ := hnd q hq
        have hmt := (hsep m hm').1
        rcases h3 with h3 | h3
        · obtain ⟨i, _, hi⟩ := pick_mem hm'
          exact hH.nsep r h3 m (List.mem_of_getElem? hi) (.inr hmt) x (h4 x hx) hmx
        · exact (hsep m hm').2 r h3.1 (.inl hmt) x hmx (h4 x hx)
      · obtain ⟨i, _, hi⟩ := pick_mem hm'
        exact ⟨(hH.own m (List.mem_of_getElem? hi)).1, fun x hx => ((hH.own m (List.mem_of_getElem? hi)).2 x hx).1⟩
    refine (hok w hneed).mono fun e w' ⟨u, he, hkp, hfu, hnew⟩ => ?_
    subst he
    have hH' := hH.step (rest := rest rs 0 ks) (ms := pick rs ks) (fun _ h => hsub.subset h) (hH.sep.sublist hsub) (fun m hm' => by obtain ⟨i, _, hi⟩ := pick_mem hm'; exact List.mem_of_getElem? hi) hsep hkp
      (need := need) (als := als u) (fun q hq => by
        obtain ⟨_, _, r, h3, h4⟩ := hnd q hq
        refine ⟨r, h3.imp id (fun h => ⟨h.1, fun hmt => ?_⟩), h4⟩
        rcases hb with hb | hb
        · have := h.2 hmt; rw [hb] at this; cases this
        · exact hb u) hnew
    refine hK' _ _ (k u hfu _ _ ?_ hH')
    rw [hd]
    exact hF.putE (e := ⟨d, none, _⟩) hdN (getD_put_same (by rw [hF.size]; exact hdN))

/-- a piece of a region: E is what the executor leaves -/
theorem seg {os : List Oper} (cs : List Ct) (live : List Nat) (E : (List Ent → List Res → Prop) → Prop) (hx : ∀ K, vc P N ops ns cs os l rs (fun l' rs' => K (keep l' live) rs') = E K) (hF : Fr N l a) (hH : Hp w0 B M ns rs w)
    (hE : E fun l' rs' => ∀ a' w', Fr N l' a' → Hp w0 B M ns rs' w' → wpList P ops Q (os.drop cs.length) a' w') : wpList P ops Q os a w := by
  rw [← hx] at hE
  exact vc_sound cs os hE hF hH fun l' rs' a' w' h1 h2 h3 => h1 a' w' (h2.keep live) h3
end


/-! ### code, by paths -/
def fst : Code → Code
  | .seq a _ => a
  | .cond _ a _ => a
  | .block _ a => a
  | .loop a => a
  | .scope a => a
  | c => c
def snd : Code → Code
  | .seq _ b => b
  | .cond _ _ b => b
  | c => c
def opsOf : Code → Array Oper
  | .region _ ops _ => ops
  | _ => #[]
def condX : Code → Operand
  | .cond x _ _ => x
  | _ => .const undef
def bodyOf (fn : Func) : Code := fn.body.getD .skip
inductive Kd where
  | seq | cond | block (id : Nat) | loop | ret | skip | exit (id : Nat) | region | draw | other
def kd : Code → Kd
  | .seq _ _ => .seq
  | .cond _ _ _ => .cond
  | .block id _ => .block id
  | .loop _ => .loop
  | .ret => .ret
  | .skip => .skip
  | .exit id => .exit id
  | .region _ _ false => .region
  | .region _ _ true => .draw
  | _ => .other

section
variable {P : Program} {Q : Exit → Act → World → Prop} {a : Act} {w : World} {c : Code}
theorem wp_seqE (h : kd c = .seq) (k : (fst c).wp P (Exit.then ((snd c).wp P Q) Q) a w) : c.wp P Q a w := by
  cases c <;> first | exact wp_seq k | (simp [kd] at h; done) | skip
  rename_i id ops d; cases d <;> simp [kd] at h
theorem wp_regE (h : kd c = .region) (k : wpList P (opsOf c) Q (opsOf c).toList a w) : c.wp P Q a w := by
  cases c <;> first | (simp [kd] at h; done) | skip
  rename_i id ops d; cases d
  · exact wp_region_list k
  · simp [kd] at h
theorem wp_condE {N : Nat} {l : List Ent} {b : Bool} (h : kd c = .cond) (hv : evl [] l (condX c) = some (.bool b)) (hF : Fr N l a) (ht : b = true → (fst c).wp P Q a w) (hf : b = false → (snd c).wp P Q a w) : c.wp P Q a w := by
  cases c <;> first | (simp [kd] at h; done) | skip
  · rename_i id ops d; cases d <;> simp [kd] at h
  · exact wp_cond_split (evl_ok hF (fun x hx => by cases hx) hv) ht hf
theorem wp_blockE {id : Nat} (h : kd c = .block id) (k : (fst c).wp P (Exit.inBlock id Q) a w) : c.wp P Q a w := by
  cases c <;> first | (simp [kd] at h; done) | skip
  · rename_i id ops d; cases d <;> simp [kd] at h
  · simp only [kd, Kd.block.injEq] at h; subst h; exact wp_block k
theorem wp_skipE (h : kd c = .skip) (k : Q .normal a w) : c.wp P Q a w := by
  cases c <;> first | exact wp_skip k | (simp [kd] at h; done) | skip
  rename_i id ops d; cases d <;> simp [kd] at h
theorem wp_exitE {id : Nat} (h : kd c = .exit id) (k : Q (.exit id) a w) : c.wp P Q a w := by
  cases c <;> first | (simp [kd] at h; done) | skip
  · rename_i id ops d; cases d <;> simp [kd] at h
  · simp only [kd, Kd.exit.injEq] at h; subst h; exact wp_exit k
theorem wp_retE (h : kd c = .ret) (k : Q .ret a w) : c.wp P Q a w := by
  cases c <;> first | exact wp_ret k | (simp [kd] at h; done) | skip
  rename_i id ops d; cases d <;> simp [kd] at h
theorem wp_loopE (h : kd c = .loop) (I : Nat → Act → World → Prop) (n : Nat) (h0 : I n a w)
    (round : ∀ n a w, I n a w → (fst c).wp P (Exit.then (fun a' w' => ∃ n', n' < n ∧ I n' a' w') Q) a w) : c.wp P Q a w := by
  cases c <;> first | (simp [kd] at h; done) | skip
  · rename_i id ops d; cases d <;> simp [kd] at h
  · exact wp_loop_ghost I n h0 round
theorem wp_seqJ (h : kd c = .seq) (J : Act → World → Prop) (k : (fst c).wp P (Exit.then J Q) a w) (hJ : ∀ a w, J a w → (snd c).wp P Q a w) : c.wp P Q a w :=
  wp_seqE h (Code.wp_mono (fun e a w q => by
    cases e with
    | normal => exact hJ a w q
    | _ => exact q) k)
theorem then_n {next : Act → World → Prop} (h : next a w) : Exit.then next Q .normal a w := h
theorem then_ret {next : Act → World → Prop} (h : Q .ret a w) : Exit.then next Q .ret a w := h
theorem then_exit {next : Act → World → Prop} {id : Nat} (h : Q (.exit id) a w) : Exit.then next Q (.exit id) a w := h
theorem block_n {id : Nat} (h : Q .normal a w) : Exit.inBlock id Q .normal a w := h
theorem block_ret {id : Nat} (h : Q .ret a w) : Exit.inBlock id Q .ret a w := h
theorem block_exit {id : Nat} (h : Q .normal a w) : Exit.inBlock id Q (.exit id) a w := by
  show (if id = id then Q .normal a w else Q (.exit id) a w); rw [if_pos rfl]; exact h
theorem block_other {id id' : Nat} (hne : Nat.beq id' id = false) (h : Q (.exit id') a w) : Exit.inBlock id Q (.exit id') a w := by
  show (if id' = id then Q .normal a w else Q (.exit id') a w); rw [if_neg (fun e => by subst e; simp at hne)]; exact h
theorem wl_end {ops : Array Oper} {os : List Oper} (h : os = []) (k : Q .normal a w) : wpList P ops Q os a w := by subst h; exact wpList_nil k

/-! ### the beginning and the end of a function -/
def argEnts : Nat → List Value → List Ent
  | _, [] => []
  | i, v :: r => ⟨i, none, v⟩ :: argEnts (i + 1) r
theorem argEnts_ok {t : Array Value} : ∀ (args : List Value) (i : Nat), (∀ j v, args[j]? = some v → t.getD (i + j) undef = v) → ∀ e ∈ argEnts i args, e.ok t
  | [], _, _ => fun e he => by cases he
  | v :: r, i, h => fun e he => by
    rcases List.mem_cons.1 he with rfl | he
    · exact h 0 v rfl
    · exact argEnts_ok r (i + 1) (fun j u hu => by rw [show i + 1 + j = i + (j + 1) by omega]; exact h (j + 1) u (by simpa using hu)) e he
theorem enterE {f N : Nat} {fn : Func} {args : List Value} {R : Ending → World → Prop} (hf : P.funcs[f]? = some fn) (hb : fn.body.isSome = true) (hN : fn.ntmps = N) (hl : Nat.ble args.length N = true)
    (k : ∀ a, Fr N (argEnts 0 args) a → (bodyOf fn).wp P (bodyPost P fn R) a w) : Calls P f args.toArray w R := by
  obtain ⟨c, hc⟩ := Option.isSome_iff_exists.1 hb
  have hl' := Nat.le_of_ble_eq_true hl
  refine calls_of_wp hf hc ?_
  have := k { tmps := args.toArray ++ Array.replicate (fn.ntmps - args.toArray.size) undef, defers := [] } ⟨by simp; omega, rfl, argEnts_ok args 0 fun j v hv => by
    have hj : j < args.length := (List.getElem?_eq_some_iff.1 hv).1
    simp only [Nat.zero_add, Array.getD_eq_getD_getElem?]
    rw [Array.getElem?_append_left (by simpa using hj)]
    simp [hv]⟩
  simp only [bodyOf, hc, Option.getD_some] at this
  exact this

/-- the results: slots, or variables in own boxes -/
def resVals (P : Program) (l : List Ent) (rs : List Res) : List ResultVar → List Nat → Option (List Value × Prop)
  | [], _ => some ([], True)
  | .tmp t :: r, ks => match look [] l t, resVals P l rs r ks with
    | some v, some (vs, p) => some (v :: vs, p)
    | _, _ => none
  | .cell t ty :: r, k :: ks => match look [] l t, rs[k]?, resVals P l rs r ks with
    | some (.pointer (some ad)), some (.box g _ cs), some (vs, p) => match varAt P ty (cs.drop ad.off) with
      | some v => some (v :: vs, (ad.block = g ∧ ad.spot = none) ∧ p)
      | none => none
    | _, _, _ => none
  | .cell _ _ :: _, [] => none
def tupleOf : List Value → Value
  | [v] => v
  | vs => .tuple vs.toArray

def resF (tm : Array Value) : ResultVar → Sem Value
  | .tmp t => pure (tm.getD t undef)
  | .cell b t => do loadVar t (← asAddr (tm.getD b undef))
theorem results_eq (fn : Func) (tm : Array Value) : results fn tm = (do let vs ← fn.results.mapM (resF tm); pure (if h : vs.size = 1 then vs[0] else .tuple vs)) := by
  unfold results
  congr

theorem resVals_ok {N : Nat} {l : List Ent} {w0 : World} {ns rs : List Res} (hF : Fr N l a) (hH : Hp w0 B M ns rs w) : ∀ (rv : List ResultVar) (ks : List Nat) {vs : List Value} {p : Prop}, resVals P l rs rv ks = some (vs, p) → p →
    (List.mapM (resF a.tmps) rv).run P w = .ok vs w
  | [], _, vs, p, h, _ => by simp [resVals] at h; obtain ⟨rfl, _⟩ := h; simp
  | .tmp t :: r, ks, vs, p, h, hp => by
    simp only [resVals] at h
    split at h
    · rename_i v vs' p' hv hr
      simp only [Option.some.injEq, Prod.mk.injEq] at h
      obtain ⟨rfl, rfl⟩ := h
      have h1 := resVals_ok hF hH r ks hr hp
      have h2 := look_ok hF.ent (fun x hx => by cases hx) hv
      simp only [List.mapM_cons, resF, Sem.run_bind, h2, Sem.run_pure, Result.andThen_ok, h1]
    · cases h
  | .cell t ty :: r, k :: ks, vs, p, h, hp => by
    simp only [resVals] at h
    split at h
    · rename_i ad g tb cs vs' p' hv hk hr
      split at h
      · rename_i v hva
        simp only [Option.some.injEq, Prod.mk.injEq] at h
        obtain ⟨rfl, rfl⟩ := h
        have h1 := resVals_ok hF hH r ks hr hp.2
        have h2 := look_ok hF.ent (fun x hx => by cases hx) hv
        have hb : w.heap[g]? = some (.cells cs.toArray tb (0, 0)) := (hH.own _ (List.mem_of_getElem? hk)).1
        have h3 := run_loadVar_of (P := P) (cells_of_box hb hp.1.1 hp.1.2) hva
        have h4 : (asAddr (a.tmps.getD t undef)).run P w = .ok ad w := by rw [h2]; rfl
        have h5 : (resF a.tmps (.cell t ty)).run P w = .ok v w := by simp only [resF, Sem.run_bind, h4, Result.andThen_ok, h3]
        simp only [List.mapM_cons, Sem.run_bind, h5, Sem.run_pure, Result.andThen_ok, h1]
      · cases h
    · cases h

theorem retE {fn : Func} {R : Ending → World → Prop} {N : Nat} {l : List Ent} {w0 : World} {ns rs : List Res} {vs : List Value} {p : Prop} {v : Value} (ks : List Nat) (hx : resVals P l rs fn.results.toList ks = some (vs, p)) (hp : p) (hv : tupleOf vs = v) (hF : Fr N l a) (hH : Hp w0 B M ns rs w)
    (hR : R (.returned v) w) : bodyPost P fn R .ret a w := by
  subst hv
  refine bodyPost_ret (v := tupleOf vs) ?_ hF.defers hR
  have h1 := resVals_ok hF hH fn.results.toList ks hx hp
  rw [results_eq, Array.mapM_eq_mapM_toList]
  simp only [Sem.run_bind, Sem.run_map, h1, Result.andThen_ok, Sem.run_pure]
  congr 1
  match vs with
  | [] => rfl
  | [v] => rfl
  | v :: u :: r => simp [tupleOf]
end

theorem newN (w : World) (B M : Nat → Prop) (w' : World) : NewOk w B M w' [] [] := ⟨fun r hr => (by cases hr), List.Pairwise.nil, fun r hr => (by cases hr), fun r hr => (by cases hr)⟩
/-- own resources, and such as are only read, are handed back -/
theorem newK {w0 w : World} {ns rs new als : List Res} (hH : Hp w0 B M ns rs w) (ks kn : List Nat) (hn : nodupB ks = true) (hx : pick rs ks = new) (hxn : pick ns kn = als) (ha : new.all (fun r => !r.isAl) = true) : NewOk w0 B M w new als := by
  subst hx hxn
  refine ⟨fun r hr => ?_, pick_sep hH.sep hn, fun r hr => ?_, fun r hr r' hr' => ?_⟩
  · have ha' := List.all_eq_true.1 ha r hr
    obtain ⟨k, _, hk⟩ := pick_mem hr
    have := hH.own r (List.mem_of_getElem? hk)
    refine ⟨this.1, fun b hb => ⟨(this.2 b hb).1, ?_⟩⟩
    rcases (this.2 b hb).2 with h1 | h1 | h1
    · exact .inl h1
    · exact .inr h1
    · rw [h1.1] at ha'; cases ha'
  · obtain ⟨k, _, hk⟩ := pick_mem hr; exact hH.old r (List.mem_of_getElem? hk)
  · obtain ⟨k, _, hk⟩ := pick_mem hr; obtain ⟨k', _, hk'⟩ := pick_mem hr'; exact hH.nsep r (List.mem_of_getElem? hk) r' (List.mem_of_getElem? hk')
/-- the call begins -/
theorem callI {f N : Nat} {P : Program} {fn : Func} {args : List Value} {need mneed : List Res} {U : Type} {val : U → Value} {new als : U → List Res} {facts : U → Prop} (hf : P.funcs[f]? = some fn) (hb : fn.body.isSome = true) (hN : fn.ntmps = N) (hl : Nat.ble args.length N = true)
    (k : ∀ w0 B M a, Fr N (argEnts 0 args) a → Hp w0 B M need mneed w0 → (bodyOf fn).wp P (bodyPost P fn fun e w' => ∃ u, e = .returned (val u) ∧ Kept M w0 w' ∧ facts u ∧ NewOk w0 B M w' (new u) (als u)) a w0) : CallOk P f args need mneed val new als facts :=
  fun w hn => enterE hf hb hN hl fun a hF => k w _ _ a hF (Hp.start w hn)

/-! ### views cut, rows looked at -/
theorem view_cut {w : World} {A : Option Addr} {n c size : Nat} {el : Nat → List Value} (h : (Res.view A n c size el).ok w) {lo hi : Nat} (h1 : lo ≤ hi) (h2 : hi ≤ n) :
    (Res.view (cutA A c lo size) (hi - lo) (c - lo) size (fun i => el (lo + i))).ok w := by
  refine ⟨by have := h.1; omega, by have := h.2.1; omega, fun hn => ?_⟩
  obtain ⟨ad, rfl, hc⟩ := h.2.2 (by omega)
  have hne : ¬ c = lo := by have := h.1; omega
  refine ⟨ad.add (lo * size), by simp [cutA, hne], fun i hi' => ⟨(hc (lo + i) (by omega)).1, fun j v hv => ?_⟩⟩
  rw [add_add]
  have := (hc (lo + i) (by omega)).2 j v hv
  rwa [Nat.add_mul, Nat.add_assoc] at this
theorem view_cut_fp {A : Option Addr} {n c size : Nat} {el el' : Nat → List Value} {lo hi : Nat} (h2 : hi ≤ n) {b : Nat} (h : (Res.view (cutA A c lo size) (hi - lo) (c - lo) size el').fp b) : (Res.view A n c size el).fp b := by
  obtain ⟨h0, ad, hA, hb⟩ := h
  refine ⟨by omega, ?_⟩
  unfold cutA at hA
  split at hA
  · exact ⟨ad, hA, hb⟩
  · cases A with
    | none => cases hA
    | some a0 =>
      simp only [Option.map_some, Option.some.injEq] at hA
      subst hA
      exact ⟨a0, rfl, by rw [← hb, add_block]⟩
theorem view_head {w : World} {A : Option Addr} {n c size : Nat} {el : Nat → List Value} (h : (Res.view A n c size el).ok w) {hi : Nat} (h2 : hi ≤ n) : (Res.view A hi c size el).ok w :=
  ⟨by have := h.1; omega, h.2.1, fun hn => by obtain ⟨ad, rfl, hc⟩ := h.2.2 (by omega); exact ⟨ad, rfl, fun i hi' => hc i (by omega)⟩⟩

theorem row_view {w : World} {A : Option Addr} {c e size n : Nat} {xs : List Value} {el : Nat → List Value} (hr : rowOk w A c e size n xs) (hel : ∀ i, i < n → (el i).length = size ∧ ∀ j v, (el i)[j]? = some v → xs[i * size + j]? = some v) : (Res.view A n c size el).ok w := by
  rcases hr.2 with ⟨rfl, rfl, rfl⟩ | ⟨g, cur, fz, rfl, hg, _, hnc, hcm, _⟩
  · exact ⟨Nat.le_refl _, Nat.zero_le _, fun hn => absurd hn (by omega)⟩
  · exact ⟨hnc, hcm, fun _ => ⟨_, rfl, fun i hi => ⟨(hel i hi).1, fun j v hv => row_cells hr _ v ((hel i hi).2 j v hv)⟩⟩⟩

section
variable {w0 w : World} {ns rs : List Res}
theorem Hp.addN (h : Hp w0 B M ns rs w) {r : Res} (hm : r.mut = false) (hr : r.ok w) (hf : ∀ b, r.fp b → ∃ r0 ∈ ns, r0.fp b) : Hp w0 B M (ns ++ [r]) rs w :=
  ⟨h.below, fun x hx => by
    rcases List.mem_append.1 hx with hx | hx
    · exact h.old x hx
    · simp at hx; subst hx; exact ⟨hm, hr, fun b hb => by obtain ⟨r0, h0, hb0⟩ := hf b hb; exact (h.old r0 h0).2.2 b hb0⟩, fun x hx y hy => by
    rcases List.mem_append.1 hx with hx | hx
    · exact h.nsep x hx y hy
    · simp at hx; subst hx
      intro hmm b hb hb'
      have hmy : y.mut = true := by rcases hmm with h1 | h1; · rw [hm] at h1; cases h1
                                    · exact h1
      obtain ⟨r0, h0, hb0⟩ := hf b hb
      exact h.nsep r0 h0 y hy (.inr hmy) b hb0 hb', h.own, h.sep⟩
/-- another look at what is there: not written, and inside the blocks of r0, which is not written either -/
theorem Hp.addR (h : Hp w0 B M ns rs w) {r0 r : Res} (h0 : r0 ∈ rs) (hm0 : r0.mut = false) (ha : r0.isAl = false) (hm : r.mut = false) (hr : r.ok w) (hf : ∀ b, r.fp b → r0.fp b) : Hp w0 B M ns (rs ++ [r]) w := by
  refine ⟨h.below, h.old, fun x hx y hy => ?_, fun x hx => ?_, List.pairwise_append.2 ⟨h.sep, by simp, fun x hx y hy => ?_⟩⟩
  · rcases List.mem_append.1 hy with hy | hy
    · exact h.nsep x hx y hy
    · simp at hy; subst hy
      intro hmm _ _ _
      rw [(h.old x hx).1, hm] at hmm
      rcases hmm with h | h <;> cases h
  · rcases List.mem_append.1 hx with hx | hx
    · exact h.own x hx
    · simp at hx; subst hx
      refine ⟨hr, fun b hb => ⟨((h.own r0 h0).2 b (hf b hb)).1, ?_⟩⟩
      rcases ((h.own r0 h0).2 b (hf b hb)).2 with h1 | h1 | h1
      · exact .inl h1
      · exact .inr (.inl h1)
      · rw [ha] at h1; cases h1.1
  · simp at hy
    subst hy
    intro hmm b hb1 hb2
    have hmx : x.mut = true := by rcases hmm with h | h; exact h; rw [hm] at h; cases h
    obtain ⟨i, hi, rfl⟩ := List.getElem_of_mem hx
    obtain ⟨j, hj, hj'⟩ := List.getElem_of_mem h0
    have hne : i ≠ j := fun e => by subst e; rw [hj', hm0] at hmx; cases hmx
    rcases Nat.lt_or_gt_of_ne hne with hlt | hlt
    · have := List.pairwise_iff_getElem.1 h.sep i j hi hj hlt; rw [hj'] at this; exact this (.inl hmx) b hb1 (hf b hb2)
    · have := List.pairwise_iff_getElem.1 h.sep j i hj hi hlt; rw [hj'] at this; exact this (.inr hmx) b (hf b hb2) hb1
/-- r is another word on what q says, and is only read -/
structure Imp (q r : Res) : Prop where
  rd : r.mut = false
  ok : ∀ w, q.ok w → r.ok w
  fp : ∀ b, r.fp b → q.fp b
theorem Hp.lookN (h : Hp w0 B M ns rs w) {k : Nat} {q r : Res} (hk : ns[k]? = some q) (hi : Imp q r) : Hp w0 B M (ns ++ [r]) rs w :=
  h.addN hi.rd (hi.ok w (h.okOld (List.mem_of_getElem? hk))) fun b hb => ⟨q, List.mem_of_getElem? hk, hi.fp b hb⟩
theorem Hp.lookR (h : Hp w0 B M ns rs w) {k : Nat} {q r : Res} (hk : rs[k]? = some q) (hq : q.mut = false) (ha : q.isAl = false) (hi : Imp q r) : Hp w0 B M ns (rs ++ [r]) w :=
  h.addR (List.mem_of_getElem? hk) hq ha hi.rd (hi.ok w (h.own _ (List.mem_of_getElem? hk)).1) hi.fp
theorem imp_cut {A : Option Addr} {n c size : Nat} {el : Nat → List Value} {lo hi : Nat} (h1 : lo ≤ hi) (h2 : hi ≤ n) : Imp (.view A n c size el) (.view (cutA A c lo size) (hi - lo) (c - lo) size (fun i => el (lo + i))) :=
  ⟨rfl, fun _ h => view_cut h h1 h2, fun _ hb => view_cut_fp h2 hb⟩
theorem imp_head {A : Option Addr} {n c size : Nat} {el : Nat → List Value} {hi : Nat} (h2 : hi ≤ n) : Imp (.view A n c size el) (.view A hi c size el) :=
  ⟨rfl, fun _ h => view_head h h2, fun _ ⟨h0, hb⟩ => ⟨by omega, hb⟩⟩
theorem imp_fam {n : Nat} {r : Nat → Res} {i : Nat} (hi : i < n) (hm : (r i).mut = false) : Imp (.fam n r) (r i) := ⟨hm, fun _ h => h i hi, fun _ hb => ⟨i, hi, hb⟩⟩
theorem Imp.trans {p q r : Res} (h : Imp p q) (k : Imp q r) : Imp p r := ⟨k.rd, fun w hw => k.ok w (h.ok w hw), fun b hb => h.fp b (k.fp b hb)⟩
theorem imp_row {A : Option Addr} {c e size n : Nat} {xs : List Value} {el : Nat → List Value} (hel : ∀ i, i < n → (el i).length = size ∧ ∀ j v, (el i)[j]? = some v → xs[i * size + j]? = some v) : Imp (.row A c e size n xs) (.view A n c size el) :=
  ⟨rfl, fun _ hr => row_view hr hel, fun _ ⟨_, hb⟩ => hb⟩
theorem Hp.nilN (h : Hp w0 B M ns rs w) {r : Res} (hm : r.mut = false) (hr : ∀ w, r.ok w) (hf : ∀ b, ¬ r.fp b) : Hp w0 B M (ns ++ [r]) rs w := h.addN hm (hr w) fun b hb => absurd hb (hf b)
/-- an own resource is from now on only read, and is no longer the call's own alone -/
theorem Hp.toN (h : Hp w0 B M ns rs w) {k : Nat} {q r : Res} (hk : rs[k]? = some q) (hi : Imp q r) : Hp w0 B M (ns ++ [r]) (rest rs 0 [k]) w := by
  have hsub := rest_sub rs 0 [k]
  have hq := List.mem_of_getElem? hk
  refine ⟨h.below, fun x hx => ?_, fun x hx y hy => ?_, fun x hx => h.own x (hsub.subset hx), h.sep.sublist hsub⟩
  · rcases List.mem_append.1 hx with hx | hx
    · exact h.old x hx
    · simp at hx; subst hx
      refine ⟨hi.rd, hi.ok w (h.own q hq).1, fun b hb => ⟨((h.own q hq).2 b (hi.fp b hb)).1, ?_⟩⟩
      rcases ((h.own q hq).2 b (hi.fp b hb)).2 with h1 | h1 | h1
      · exact .inr (.inl h1)
      · exact .inr (.inr h1)
      · exact .inl h1.2
  · rcases List.mem_append.1 hx with hx | hx
    · exact h.nsep x hx y (hsub.subset hy)
    · simp at hx; subst hx
      intro hmm b hb hb'
      have hmy : y.mut = true := by rcases hmm with h1 | h1; · rw [hi.rd] at h1; cases h1
                                    · exact h1
      obtain ⟨j, hj, hjk⟩ := rest_mem rs 0 [k] y hy
      exact sep_get h.sep hk hj (fun e => hjk k (List.mem_singleton.2 rfl) (by omega)) (.inr hmy) b (hi.fp b hb) hb'
theorem Hp.nilRow (h : Hp w0 B M ns rs w) (e size : Nat) : Hp w0 B M ns (rs ++ [.row none 0 e size 0 []]) w :=
  h.more (Below.refl _ _) _ (fun r hr => by
    simp at hr; subst hr
    exact ⟨⟨by simp, .inl ⟨rfl, rfl, rfl⟩⟩, fun b ⟨_, hA, _⟩ => by cases hA⟩) (by simp)
/-- an own resource is changed for another word of the same memory -/
theorem Hp.swap (h : Hp w0 B M ns rs w) {k : Nat} {r r' : Res} (hk : rs[k]? = some r) (hok : r'.ok w) (hfp : ∀ b, r'.fp b → r.fp b) (hm : r.mut = true) : Hp w0 B M ns (rs.set k r') w :=
  h.turn hk hm rfl rfl rfl (Nat.le_refl _) (fun _ _ _ => rfl) hok fun b hb => ⟨.inl (hfp b hb), ((h.own r (List.mem_of_getElem? hk)).2 b (hfp b hb)).1⟩
theorem Hp.rowView (h : Hp w0 B M ns rs w) {k : Nat} {A : Option Addr} {c e size n : Nat} {xs : List Value} (hk : rs[k]? = some (.row A c e size n xs)) (el : Nat → List Value) (hel : ∀ i, i < n → (el i).length = size ∧ ∀ j v, (el i)[j]? = some v → xs[i * size + j]? = some v) :
    Hp w0 B M ns (rs.set k (.view A n c size el)) w := by
  have hr : rowOk w A c e size n xs := (h.own _ (List.mem_of_getElem? hk)).1
  exact h.swap hk (row_view hr hel) (fun b ⟨_, hb⟩ => hb) rfl
/-- a row with less capacity -/
theorem Hp.rowCap (h : Hp w0 B M ns rs w) {k : Nat} {A : Option Addr} {c e size n : Nat} {xs : List Value} (hk : rs[k]? = some (.row A c e size n xs)) (n' c' : Nat) (h1 : n' ≤ c') (h2 : c' ≤ c) (h3 : n' ≤ n) (hpos : 0 < c) : Hp w0 B M ns (rs.set k (.row A c' e size n' (xs.take (n' * size)))) w := by
  have hr : rowOk w A c e size n xs := (h.own _ (List.mem_of_getElem? hk)).1
  refine h.swap hk ?_ (fun _ hb => hb) rfl
  rcases hr.2 with ⟨_, hc, _⟩ | ⟨g, cur, fz, hA, hg, hfz, hnc, hcm, hcs, htake⟩
  · omega
  · have hm : n' * size ≤ n * size := Nat.mul_le_mul_right _ h3
    refine ⟨by have := hr.1; simp; omega, .inr ⟨g, cur, fz, hA, hg, hfz, h1, by omega, Nat.le_trans (Nat.mul_le_mul_right _ h2) hcs, ?_⟩⟩
    rw [← htake, List.take_take]
    congr 1
    omega
/-- a box of a whole row, as a row: n of its c elements -/
theorem Hp.boxRow (h : Hp w0 B M ns rs w) {k g e : Nat} {cs : List Value} (hk : rs[k]? = some (.box g e cs)) (size n c : Nat) (hn : n ≤ c) (hc : c ≤ maxLen) (hl : cs.length = c * size) :
    Hp w0 B M ns (rs.set k (.row (some ⟨g, 0, none⟩) c e size n (cs.take (n * size)))) w := by
  have hb : w.heap[g]? = some (.cells cs.toArray e (0, 0)) := (h.own _ (List.mem_of_getElem? hk)).1
  refine h.swap hk ?_ (fun b ⟨ad, hA, hb⟩ => ?_) rfl
  · refine ⟨?_, .inr ⟨g, cs.toArray, (0, 0), rfl, hb, .inl (Nat.le_refl _), hn, hc, by simp; omega, by simp⟩⟩
    have : n * size ≤ c * size := Nat.mul_le_mul_right _ hn
    simp; omega
  · injection hA with hA; subst hA; exact hb.symm
end
/-- bytes -/
def byE (bs : List UInt8) : Nat → List Value := fun i => [.int .u8 ((bs.getD i 0).toNat : Int)]
def byC (bs : List UInt8) : List Value := bs.map fun b => .int .u8 (b.toNat : Int)
theorem by_row (bs : List UInt8) : ∀ i, i < bs.length → (byE bs i).length = 1 ∧ ∀ j v, (byE bs i)[j]? = some v → (byC bs)[i * 1 + j]? = some v := by
  intro i hi
  refine ⟨rfl, fun j v hv => ?_⟩
  cases j with
  | zero => simp [byE] at hv; simp [byC, hi, ← hv]
  | succ j => simp [byE] at hv
theorem by_flat (bs : List UInt8) : (List.range bs.length).flatMap (byE bs) = byC bs := by
  apply List.ext_getElem?
  intro j
  have hl := flat_len (el := byE bs) (size := 1) bs.length (fun i hi => rfl)
  by_cases hj : j < bs.length
  · have h1 : ((List.range bs.length).flatMap (byE bs))[j]? = some (((List.range bs.length).flatMap (byE bs))[j]'(by omega)) := List.getElem?_eq_getElem _
    obtain ⟨i, k, hi, hjk, hk⟩ := flat_get (el := byE bs) (size := 1) bs.length (fun i hi => rfl) j _ h1
    rw [h1]
    cases k with
    | zero =>
      simp only [Nat.mul_one, Nat.add_zero] at hjk
      subst hjk
      rw [← hk]
      simp [byE, byC, hi]
    | succ k => simp [byE] at hk
  · rw [List.getElem?_eq_none (by omega), List.getElem?_eq_none (by simp [byC]; omega)]
theorem by_one (bs : List UInt8) : ∀ u ∈ byC bs, u.oneCell' = true := by
  intro u hu
  simp only [byC, List.mem_map] at hu
  obtain ⟨b, _, rfl⟩ := hu
  rfl
theorem byC_len (bs : List UInt8) : (byC bs).length = bs.length := by simp [byC]
theorem byC_app (a b : List UInt8) : byC (a ++ b) = byC a ++ byC b := by simp [byC]

/-! ### some resources, in another order -/
theorem Hp.pick {w0 w : World} {ns rs : List Res} (h : Hp w0 B M ns rs w) (ks : List Nat) (hn : nodupB ks = true) : Hp w0 B M ns (pick rs ks) w :=
  ⟨h.below, h.old, fun r hr r' hr' => by obtain ⟨k, _, hk⟩ := pick_mem hr'; exact h.nsep r hr r' (List.mem_of_getElem? hk), fun r hr => by obtain ⟨k, _, hk⟩ := pick_mem hr; exact h.own r (List.mem_of_getElem? hk), pick_sep h.sep hn⟩

/-! ### a region that draws its order -/
def noPanic (Q : Exit → Act → World → Prop) : Exit → Act → World → Prop
  | .panic _, _, _ => False
  | e, a, w => Q e a w
theorem noPanic_imp {Q : Exit → Act → World → Prop} {e : Exit} {a : Act} {w : World} (h : noPanic Q e a w) : Q e a w := by
  cases e <;> first | exact h | exact h.elim

inductive Pl : Type 1 where
  | done (perm : List Nat)
  | take (i : Nat) (c : Ct) (p : Pl)
  | eff (is : List (Nat × Ct)) (next : Nat → Pl)
  /-- what stands under the guard g, which says b, is known -/
  | up (g : Nat) (b : Bool) (p : Pl)

def allEff (f : Nat → Ct → Prop) : List (Nat × Ct) → Prop
  | [] => True
  | [(i, c)] => f i c
  | (i, c) :: r => f i c ∧ allEff f r

def upE (g : Nat) (b : Bool) (e : Ent) : Ent := match e.c with
  | some (g', b') => if Nat.beq g g' && (b == b') then ⟨e.s, none, e.v⟩ else e
  | none => e
theorem upE_ok {t : Array Value} {g : Nat} {b : Bool} {e : Ent} (h : e.ok t) (hg : t.getD g undef = .bool b) : (upE g b e).ok t := by
  obtain ⟨s, c, v⟩ := e
  unfold upE
  cases c with
  | none => exact h
  | some x =>
    obtain ⟨g', b'⟩ := x
    simp only
    split
    · rename_i hc
      simp only [Bool.and_eq_true, beq_iff_eq] at hc
      have := Nat.eq_of_beq_eq_true hc.1
      subst this
      rw [hc.2] at hg
      exact h.1 hg
    · exact h
def va (P : Program) (N : Nat) (ops : Array Oper) (ns : List Res) (six : List Nat) (S : List Res) : Pl → Nat → Array Bool → List Ent → List Res → (List Ent → List Res → Prop) → Prop
  | .done perm, _, listed, l, rs, K => if (Region.ready .any ops listed).isEmpty && nodupB perm then K l (pick rs perm) else False
  | .take i c p, n + 1, listed, l, rs, K => match ops[i]? with
    | some o => match gctx ops l o with
      | some ctx => match stillVal P ns S ctx l c o, o.dst with
        | some (v, pr), some d => if okDst N d (gcond ops o) && Region.free .any ops listed i && (Region.ready .any ops listed).contains i then
            andP l (sctx c ctx) pr (va P N ops ns six S p n (listed.setIfInBounds i true) (putE l ⟨d, gcond ops o, v⟩) rs K) else False
        | _, _ => False
      | none => False
    | none => False
  | .take _ _ _, 0, _, _, _, _ => False
  | .up g b p, n, listed, l, rs, K => match look [] l g with
    | some (.bool x) => x = b ∧ va P N ops ns six S p n listed (l.map (upE g b)) rs K
    | _ => False
  | .eff _ _, 0, _, _, _, _ => False
  | .eff is next, n + 1, listed, l, rs, K =>
    if !is.isEmpty && Region.ready .any ops listed == is.map (·.1) then
      allEff (fun i c => match ops[i]? with
        | some o => op2 P N ops ns c o l rs fun l' rs' => pick rs' six = S ∧ va P N ops ns six S (next i) n (listed.setIfInBounds i true) l' rs' K
        | none => False) is
    else False

theorem allEff_mem {f : Nat → Ct → Prop} : ∀ {is : List (Nat × Ct)}, allEff f is → ∀ x ∈ is, f x.1 x.2
  | [], _, x, hx => by cases hx
  | [(i, c)], h, x, hx => by simp at hx; subst hx; exact h
  | (i, c) :: y :: r, h, x, hx => by
    rcases List.mem_cons.1 hx with rfl | hx
    · exact h.1
    · exact allEff_mem h.2 x hx

section
variable {P : Program} {N : Nat} {ops : Array Oper} {ns : List Res} {w0 : World} {Q : Exit → Act → World → Prop} {six : List Nat} {S : List Res}

theorem still_any {l : List Ent} {rs : List Res} {a : Act} {w : World} {c : Ct} {o : Oper} {ctx : Ctx} {v : Value} {pr : Option Prop} {d i n : Nat} {listed : Array Bool} {X : Prop}
    (hi : ops[i]? = some o) (hg : gctx ops l o = some ctx) (hs : stillVal P ns S ctx l c o = some (v, pr)) (hd : o.dst = some d) (hok : okDst N d (gcond ops o) = true) (hfree : Region.free .any ops listed i = true) (hready : (Region.ready .any ops listed).contains i = true)
    (hns : Region.noSelect ops = true) (h : andP l (sctx c ctx) pr X) (hF : Fr N l a) (hH : Hp w0 B M ns rs w) (hS : pick rs six = S)
    (k : X → ∀ a', Fr N (putE l ⟨d, gcond ops o, v⟩) a' → wpAnyH P .any ops (noPanic Q) (fun w => ∀ r ∈ ns ++ S, r.ok w) n (listed.setIfInBounds i true) a' w) :
    wpAnyH P .any ops (noPanic Q) (fun w => ∀ r ∈ ns ++ S, r.ok w) (n + 1) listed a w := by
  have hSw : ∀ r ∈ ns ++ S, r.ok w := fun r hr => by
    rcases List.mem_append.1 hr with hr | hr
    · exact hH.okOld hr
    · rw [← hS] at hr
      obtain ⟨k, _, hk⟩ := pick_mem hr
      exact (hH.own r (List.mem_of_getElem? hk)).1
  have hok' := hok
  simp only [okDst, Bool.and_eq_true] at hok
  have hdN : d < N := Nat.le_of_ble_eq_true hok.1
  have hX : X := by cases pr with | none => exact h | some p => exact h.2
  have hside : ctx.ok a.tmps → sideP pr := fun hc => by
    cases pr with
    | none => trivial
    | some p => exact impl_ok hF (sctx_ok hc) h.1
  have hQ : ∀ u c a w, noPanic Q (.panic c) (Act.put a o.dst u) w → noPanic Q (.panic c) a w := fun _ _ _ _ h => h.elim
  by_cases hw : Region.wanted o (yielded ops a.tmps) = true
  · have hc := gctx_ok hF hg hw
    refine wpAnyH_take hi hns hfree hready (hQ v) (.inl ⟨hw, fun w' hw' => still_sound hs (hside hc) hF hc hw'⟩) hSw ?_
    refine k hX _ ?_
    rw [hd]
    refine hF.putE (e := ⟨d, gcond ops o, v⟩) hdN ?_
    unfold Ent.ok
    cases hgc : o.guard with
    | none =>
      simp only [gcond, hgc]
      exact getD_put_same (by rw [hF.size]; exact hdN)
    | some jb =>
      obtain ⟨j, b⟩ := jb
      simp only [gctx, hgc] at hg
      cases hsl : gslot ops j with
      | none => rw [hsl] at hg; cases hg
      | some g =>
        simp only [gcond, hgc, hsl] at hok ⊢
        have hgd : g ≠ d := fun e => by subst e; simp at hok
        have hgb := (wanted_some hgc hsl).1 hw
        refine ⟨fun _ => getD_put_same (by rw [hF.size]; exact hdN), fun hne => absurd ?_ hne⟩
        rw [getD_put_ne hgd]; exact hgb
  · have hw' : Region.wanted o (yielded ops a.tmps) = false := by simpa using hw
    refine wpAnyH_take hi hns hfree hready (hQ undef) (.inr ⟨hw', rfl⟩) hSw ?_
    refine k hX _ ?_
    rw [hd]
    refine hF.putE (e := ⟨d, gcond ops o, v⟩) hdN ?_
    unfold Ent.ok
    cases hgc : o.guard with
    | none => exact absurd (wanted_none hgc) hw
    | some jb =>
      obtain ⟨j, b⟩ := jb
      simp only [gctx, hgc] at hg
      cases hsl : gslot ops j with
      | none => rw [hsl] at hg; cases hg
      | some g =>
        simp only [gcond, hgc, hsl] at hok ⊢
        have hgd : g ≠ d := fun e => by subst e; simp at hok
        refine ⟨fun he => absurd ((wanted_some hgc hsl).2 (by rw [getD_put_ne hgd] at he; exact he)) hw, fun _ => getD_put_same (by rw [hF.size]; exact hdN)⟩

theorem va_sound (hns : Region.noSelect ops = true) {K : List Ent → List Res → Prop} (hK : ∀ l' rs' a' w', K l' rs' → Fr N l' a' → Hp w0 B M ns rs' w' → Q .normal a' w') :
    ∀ (pl : Pl) (n : Nat) (listed : Array Bool) {l : List Ent} {rs : List Res} {a : Act} {w : World}, va P N ops ns six S pl n listed l rs K → pick rs six = S → Fr N l a → Hp w0 B M ns rs w →
      wpAnyH P .any ops (noPanic Q) (fun w => ∀ r ∈ ns ++ S, r.ok w) n listed a w := by
  intro pl
  induction pl with
  | done perm =>
    intro n listed l rs a w h hS hF hH
    unfold va at h
    split at h
    · rename_i hc
      simp only [Bool.and_eq_true] at hc
      exact wpAnyH_done (Q := noPanic Q) (List.isEmpty_iff.1 hc.1) (hK _ _ _ _ h hF (hH.pick perm hc.2)) n
    · exact h.elim
  | take i c p ih =>
    intro n listed l rs a w h hS hF hH
    cases n with
    | zero => exact h.elim
    | succ n =>
      simp only [va] at h
      split at h
      · rename_i o hi
        split at h
        · rename_i ctx hg
          split at h
          · rename_i v pr d hs hd
            split at h
            · rename_i hc
              simp only [Bool.and_eq_true] at hc
              exact still_any hi hg hs hd hc.1.1 hc.1.2 hc.2 hns h hF hH hS fun hX a' hF' => ih n _ hX hS hF' hH
            · exact h.elim
          · exact h.elim
        · exact h.elim
      · exact h.elim
  | up g b p ih =>
    intro n listed l rs a w h hS hF hH
    simp only [va] at h
    split at h
    · rename_i x hx
      obtain ⟨hxb, h⟩ := h
      subst hxb
      have hg := look_ok hF.ent (fun y hy => by cases hy) hx
      refine ih n listed h hS ⟨hF.size, hF.defers, fun e he => ?_⟩ hH
      obtain ⟨e0, h0, rfl⟩ := List.mem_map.1 he
      exact upE_ok (hF.ent e0 h0) hg
    · exact h.elim
  | eff is next ih =>
    intro n listed l rs a w h hS hF hH
    cases n with
    | zero => exact h.elim
    | succ n =>
      simp only [va] at h
      split at h
      · rename_i hc
        simp only [Bool.and_eq_true, beq_iff_eq, Bool.not_eq_true'] at hc
        refine wpAnyH_all hc.2 (fun e => by
          have := List.map_eq_nil_iff.1 e
          rw [this] at hc
          simp at hc) fun i him => ?_
        obtain ⟨x, hx, rfl⟩ := List.mem_map.1 him
        have h1 := allEff_mem h x hx
        split at h1
        · rename_i o hi
          unfold wpOp
          simp only [hi]
          have h2 := op2_sound (Q := noPanic Q) (K' := fun a' w' => (∀ r ∈ ns ++ S, r.ok w') ∧ wpAnyH P .any ops (noPanic Q) (fun w => ∀ r ∈ ns ++ S, r.ok w) n (listed.setIfInBounds x.1 true) a' w') h1 hF hH (fun l' rs' a' w' hk hF' hH' => ⟨fun r hr => by
            rcases List.mem_append.1 hr with hr | hr
            · exact hH'.okOld hr
            · rw [← hk.1] at hr
              obtain ⟨k, _, hk'⟩ := pick_mem hr
              exact (hH'.own r (List.mem_of_getElem? hk')).1, ih x.1 n _ hk.2 hk.1 hF' hH'⟩)
          split
          · rename_i hw; rw [if_pos hw] at h2; exact .inl h2
          · rename_i hw; rw [if_neg hw] at h2; exact h2
        · exact h1.elim
      · exact h.elim

/-- a region that draws its order: L is what all its orders come to -/
theorem drawE {c : Code} {l : List Ent} {rs : List Res} {a : Act} {w : World} {n : Nat} (h : kd c = .draw) (hm : P.follows .mixedOrders = true) (hns : Region.noSelect (opsOf c) = true) (hn : (opsOf c).size = n) (six live : List Nat) (pl : Pl) (L : List Ent → List Res → Prop) (E : (List Ent → List Res → Prop) → Prop)
    (hx : ∀ K, va P N (opsOf c) ns six (pick rs six) pl n (Array.replicate n false) l rs (fun l' rs' => K (keep l' live) rs') = E K) (hF : Fr N l a) (hH : Hp w0 B M ns rs w) (hE : E L)
    (k : ∀ l' rs' a' w', L l' rs' → Fr N l' a' → Hp w0 B M ns rs' w' → Q .normal a' w') : c.wp P Q a w := by
  cases c <;> first | (simp [kd] at h; done) | skip
  rename_i id ops d
  cases d
  · simp [kd] at h
  · simp only [opsOf] at *
    subst hn
    rw [← hx] at hE
    refine Code.wp_mono (Q := noPanic Q) (fun e a w h => noPanic_imp h) ?_
    refine wp_region_held (S := fun w => ∀ r ∈ ns ++ pick rs six, r.ok w) hm ?_
    exact va_sound (K := fun l' rs' => L (keep l' live) rs') hns (fun l' rs' a' w' h1 h2 h3 => k _ _ _ _ h1 (h2.keep live) h3) pl ops.size _ hE rfl hF (hH.drew' _)
end

/-! ### numbers -/
theorem wr64 {x : Int} (h : -9223372036854775808 ≤ x ∧ x ≤ 9223372036854775807) : Value.int .i64 (IntKind.wrap .i64 x) = .int .i64 x := by rw [IntKind.wrap_i64]; congr 1; omega
theorem wr_i64 {x : Int} (h : -9223372036854775808 ≤ x ∧ x ≤ 9223372036854775807) : Value.int .i64 (IntKind.wrap .i64 x) = .int .i64 x := wr64 h
theorem wrap_u8 (x : Int) : IntKind.wrap .u8 x = x % 256 := by
  simp [IntKind.wrap, IntKind.bits, IntKind.signed]
theorem wru8 (x : Int) : Value.int .u8 (IntKind.wrap .u8 x) = .int .u8 (x % 256) := by rw [wrap_u8]
theorem wr_u8 {x : Int} (h : 0 ≤ x ∧ x ≤ 255) : Value.int .u8 (IntKind.wrap .u8 x) = .int .u8 x := by rw [wrap_u8]; congr 1; omega
theorem tdiv_pos {x y : Int} (h0 : 0 ≤ x) : x.tdiv y = x / y := Int.tdiv_eq_ediv_of_nonneg h0
theorem quo64 {x y : Int} (h0 : 0 ≤ x) (h1 : x ≤ 9223372036854775807) (hy : 0 < y) : Value.int .i64 (IntKind.wrap .i64 (x.tdiv y)) = .int .i64 (x / y) := by
  rw [tdiv_pos h0]
  have h2 : 0 ≤ x / y := Int.ediv_nonneg h0 (Int.le_of_lt hy)
  have h3 : x / y ≤ x := Int.ediv_le_self y h0
  exact wr64 (by omega)
theorem rem64 {k : IntKind} {x y : Int} (h0 : 0 ≤ x) (_hy : 0 < y) : Value.int k (x.tmod y) = .int k (x % y) := by rw [Int.tmod_eq_emod_of_nonneg h0]
theorem ne_of_bne {α : Type} [BEq α] [LawfulBEq α] {a b : α} (h : (a != b) = true) : a ≠ b := bne_iff_ne.1 h
theorem eq_of_bne_false {α : Type} [BEq α] [LawfulBEq α] {a b : α} (h : (a != b) = false) : a = b := by simpa using h
theorem natadd {a b : Nat} (h : a + b ≤ 9223372036854775807) : Value.int .i64 (IntKind.wrap .i64 ((a : Int) + (b : Int))) = .int .i64 ((a + b : Nat) : Int) := by rw [wr64 (by omega)]; congr 1
theorem natmul {a b : Nat} (h : a * b ≤ 9223372036854775807) : Value.int .i64 (IntKind.wrap .i64 ((a : Int) * (b : Int))) = .int .i64 ((a * b : Nat) : Int) := by
  have e : ((a * b : Nat) : Int) = (a : Int) * (b : Int) := by simp
  rw [← e, wr64 (by omega)]
theorem natsub {a b : Nat} (h : b ≤ a) (h2 : a ≤ 9223372036854775807) : Value.int .i64 (IntKind.wrap .i64 ((a : Int) - (b : Int))) = .int .i64 ((a - b : Nat) : Int) := by rw [wr64 (by omega)]; congr 1; omega
theorem natquo {a b : Nat} (h : a ≤ 9223372036854775807) : Value.int .i64 (IntKind.wrap .i64 (Int.tdiv (a : Int) (b : Int))) = .int .i64 ((a / b : Nat) : Int) := by
  rw [Int.tdiv_eq_ediv_of_nonneg (by omega)]
  have e : ((a / b : Nat) : Int) = (a : Int) / (b : Int) := by simp
  rw [← e]
  have : a / b ≤ a := Nat.div_le_self a b
  generalize a / b = q at *
  exact wr64 (by omega)
theorem natrem {k : IntKind} {a b : Nat} : Value.int k (Int.tmod (a : Int) (b : Int)) = .int k ((a % b : Nat) : Int) := by
  rw [Int.tmod_eq_emod_of_nonneg (by omega)]; simp
theorem natmin {k : IntKind} (a b : Nat) : Value.int k (if (b : Int) < (a : Int) then (b : Int) else (a : Int)) = .int k ((min a b : Nat) : Int) := by congr 1; omega
theorem natmax {k : IntKind} (a b : Nat) : Value.int k (if (b : Int) > (a : Int) then (b : Int) else (a : Int)) = .int k ((max a b : Nat) : Int) := by congr 1; omega
theorem frK {N : Nat} {l l' : List Ent} {a : Act} (h : Fr N l a) (ss : List Nat) (hx : keep l ss = l') : Fr N l' a := hx ▸ h.keep ss
theorem hpK {w0 w : World} {ns rs rs' : List Res} (h : Hp w0 B M ns rs w) (ks : List Nat) (hn : nodupB ks = true) (hx : pick rs ks = rs') : Hp w0 B M ns rs' w := hx ▸ h.pick ks hn
/-- bytes cut out of bytes -/
theorem cut_byE (bs : List UInt8) (lo hi : Nat) : ∀ i, i < hi - lo → byE bs (lo + i) = byE ((bs.drop lo).take (hi - lo)) i := by
  intro i hi'
  simp only [byE]
  congr 3
  simp [hi']
theorem view_congr {w : World} {A : Option Addr} {n c size : Nat} {el el' : Nat → List Value} (h : (Res.view A n c size el).ok w) (he : ∀ i, i < n → el i = el' i) : (Res.view A n c size el').ok w :=
  ⟨h.1, h.2.1, fun hn => by obtain ⟨ad, hA, hc⟩ := h.2.2 hn; exact ⟨ad, hA, fun i hi => he i hi ▸ hc i hi⟩⟩
theorem imp_congr {A : Option Addr} {n c size : Nat} {el el' : Nat → List Value} (he : ∀ i, i < n → el i = el' i) : Imp (.view A n c size el) (.view A n c size el') := ⟨rfl, fun _ h => view_congr h he, fun _ hb => hb⟩
theorem imp_cutB {A : Option Addr} {n c : Nat} {bs : List UInt8} {lo hi : Nat} (h1 : lo ≤ hi) (h2 : hi ≤ n) : Imp (.view A n c 1 (byE bs)) (.view (cutA A c lo 1) (hi - lo) (c - lo) 1 (byE ((bs.drop lo).take (hi - lo)))) := (imp_cut h1 h2).trans (imp_congr (cut_byE bs lo hi))
theorem head_byE (bs : List UInt8) (hi : Nat) : ∀ i, i < hi → byE bs i = byE (bs.take hi) i := by
  intro i hi'
  simp only [byE]
  congr 3
  simp [hi']
theorem imp_headB {A : Option Addr} {n c : Nat} {bs : List UInt8} {hi : Nat} (h2 : hi ≤ n) : Imp (.view A n c 1 (byE bs)) (.view A hi c 1 (byE (bs.take hi))) := (imp_head h2).trans (imp_congr (head_byE bs hi))
theorem minE {k : IntKind} (x y : Int) : Value.int k (if y < x then y else x) = .int k (min x y) := by congr 1; omega
theorem maxE {k : IntKind} (x y : Int) : Value.int k (if y > x then y else x) = .int k (max x y) := by congr 1; omega

end Go.Sym
