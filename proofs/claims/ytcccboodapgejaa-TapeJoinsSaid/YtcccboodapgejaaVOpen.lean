/-
  Arguments opened to models, and the last step of a law's row. No program in it.
-/
import Derived.Test.YtcccboodapgejaaVKit
import Derived.ProofKit
import Derived.Deep.Slices
import Derived.Deep.Fields
import Derived.ChangeSame
import Derived.Below
import Derived.Carry
namespace Go.Sym
open Go.RowKit Go.WideShapes Go.ChangeShapes Go.Deep

section
variable {H : Type} {enc : TypeId × Value → H} {P : Program} {w : World} {base : Nat} {spare : Nat → Bool} {held : Bool}

theorem lit_i64 {n : Int} (h : (Lit.int .i64 n).wf = true) : -9223372036854775808 ≤ n ∧ n ≤ 9223372036854775807 := by
  simpa [Lit.wf, IntKind.min, IntKind.max, IntKind.signed, IntKind.bits] using h
theorem lit_u8 {n : Int} (h : (Lit.int .u8 n).wf = true) : 0 ≤ n ∧ n ≤ 255 := by
  simpa [Lit.wf, IntKind.min, IntKind.max, IntKind.signed, IntKind.bits] using h

/-- what can be read of type t is told by e -/
def Opens (enc : TypeId × Value → H) (P : Program) (w : World) (base : Nat) (spare : Nat → Bool) (held : Bool) (t : TypeId) {α G : Type} (e : El α G) (Q : α → G → Prop) : Prop :=
  ∀ (fuel : Nat) (cs : List Value) (x : DataW H × List MemPlace), DataW.trod enc P w base spare held fuel t cs = some x → ∃ a g, cs = e.cel a g ∧ Q a g
theorem opens_u8 {t : TypeId} (ht : P.underlying t = some (.int .u8)) : Opens enc P w base spare held t elB (fun _ _ => True) := by
  intro fuel cs x h
  obtain ⟨z, h1, _, hwf⟩ := DataW.trod_int ht h
  have := lit_u8 hwf
  refine ⟨b8 z, (), ?_, trivial⟩
  rw [h1]
  show [Value.int .u8 z] = [Value.int .u8 ((b8 z).toNat : Int)]
  rw [in_b8 (by omega)]
theorem opens_i64 {t : TypeId} (ht : P.underlying t = some (.int .i64)) : Opens enc P w base spare held t (elI .i64) (fun a _ => -9223372036854775808 ≤ a ∧ a ≤ 9223372036854775807) := by
  intro fuel cs x h
  obtain ⟨z, h1, _, hwf⟩ := DataW.trod_int ht h
  exact ⟨z, (), h1, lit_i64 hwf⟩
theorem opens_int {t : TypeId} {k : IntKind} (ht : P.underlying t = some (.int k)) : Opens enc P w base spare held t (elI k) (fun a _ => (Lit.int k a).wf = true) := by
  intro fuel cs x h
  obtain ⟨z, h1, _, hwf⟩ := DataW.trod_int ht h
  exact ⟨z, (), h1, hwf⟩
theorem opens_bool {t : TypeId} (ht : P.underlying t = some .bool) : Opens enc P w base spare held t elT (fun _ _ => True) := by
  intro fuel cs x h
  obtain ⟨z, h1, _⟩ := DataW.trod_bool ht h
  exact ⟨z, (), h1, trivial⟩
theorem opens_str {t : TypeId} (ht : P.underlying t = some .string) : Opens enc P w base spare held t elS (fun a _ => a.length ≤ maxLen) := by
  intro fuel cs x h
  obtain ⟨s, h1, _, hs⟩ := DataW.trod_string ht h
  refine ⟨s.data.toList, (), ?_, ?_⟩
  · rw [h1]
    show [Value.string s] = [Value.string (bst s.data.toList)]
    rw [bst_of]
  · have : s.data.toList.length = s.size := Array.length_toList
    omega
/-- choice along a list -/
theorem choose_list {α G : Type} (d : α) (dg : G) (R : Nat → α → G → Prop) : ∀ (n : Nat), (∀ i, i < n → ∃ a g, R i a g) → ∃ (xs : List α) (gs : Nat → G), xs.length = n ∧ ∀ i, i < n → R i (xs.getD i d) (gs i)
  | 0, _ => ⟨[], fun _ => dg, rfl, fun i hi => by omega⟩
  | n + 1, h => by
    obtain ⟨xs, gs, hl, hr⟩ := choose_list d dg R n (fun i hi => h i (by omega))
    obtain ⟨a, g, hag⟩ := h n (by omega)
    refine ⟨xs ++ [a], fun i => if i < n then gs i else g, by simp [hl], fun i hi => ?_⟩
    by_cases he : i < n
    · have := hr i he
      simpa [he, List.getElem?_append_left (show i < xs.length by omega)] using this
    · have : i = n := by omega
      subst this
      simpa [← hl] using hag
theorem opens_slice {t te : TypeId} {α G : Type} {e : El α G} {Q : α → G → Prop} (dg : G) (ht : P.underlying t = some (.slice te)) (hc : P.cellsOf te = e.size) (he : Opens enc P w base spare held te e Q) :
    Opens enc P w base spare held t (elL e) (fun xs s => (vw e xs.length xs s).ok w ∧ ∀ i, i < xs.length → Q (xs.getD i e.d) (s.g i)) := by
  intro fuel cs x h
  rcases DataW.trod_slice ht h with ⟨rfl, _⟩ | ⟨a, len, cap, elems, rest, n, rfl, rfl, _, hb, hl, hm, hel, hi, _⟩
  · exact ⟨[], ⟨none, 0, fun _ => dg⟩, rfl, ⟨Nat.le_refl _, Nat.zero_le _, fun hn => absurd hn (by simp)⟩, fun i hi => absurd hi (by simp)⟩
  · have key : ∀ i, i < len → ∃ a' g, (w.cells? base (a.add (i * e.size)) e.size = some (e.cel a' g)) ∧ Q a' g := fun i hil => by
      have h1 := hi i hil
      rw [List.getElem?_eq_getElem (by omega), hc] at h1
      cases hcs : w.cells? base (a.add (i * e.size)) e.size with
      | none => rw [hcs] at h1; cases h1
      | some c =>
        rw [hcs] at h1
        obtain ⟨a', g, rfl, hq⟩ := he n c _ h1
        exact ⟨a', g, rfl, hq⟩
    obtain ⟨xs, gs, hxl, hr⟩ := choose_list e.d dg (fun i a' g => (w.cells? base (a.add (i * e.size)) e.size = some (e.cel a' g)) ∧ Q a' g) len key
    subst hxl
    refine ⟨xs, ⟨some a, cap, gs⟩, rfl, ⟨hl, hm, fun _ => ⟨a, rfl, fun i hil => ⟨e.len _ _, fun j v hv => ?_⟩⟩⟩, fun i hil => (hr i hil).2⟩
    have h1 := (World.cells?_some (hr i hil).1).2.2
    have hj : j < e.size := by have := (List.getElem?_eq_some_iff.1 hv).1; rwa [e.len] at this
    have h2 := h1 j hj
    rw [add_add] at h2
    rw [h2]
    exact hv
theorem cell_lt {w : World} {a : Addr} {v : Value} (h : w.cell? a = some v) : a.block < w.heap.size := by
  rcases Nat.lt_or_ge a.block w.heap.size with h' | h'
  · exact h'
  · simp [World.cell?, Array.getElem?_eq_none h'] at h
/-- a view's blocks lie in the heap -/
theorem vw_lt {w : World} {α G : Type} {e : El α G} {n : Nat} {xs : List α} {s : Gs G} (h : (vw e n xs s).ok w) : ∀ b, (vw e n xs s).fp b → b < w.heap.size := by
  rintro b ⟨h0, ad, hA0, rfl⟩
  obtain ⟨ad', hA, hc⟩ := h.2.2 h0
  rw [hA0] at hA
  injection hA with hA
  subst hA
  obtain ⟨h1, h2⟩ := hc 0 h0
  have hp := e.pos
  have hl := e.len (xs.getD 0 e.d) (s.g 0)
  have h3 : (e.cel (xs.getD 0 e.d) (s.g 0))[0]? = some ((e.cel (xs.getD 0 e.d) (s.g 0))[0]'(by omega)) := List.getElem?_eq_getElem (by omega)
  have := cell_lt (h2 0 _ h3)
  rwa [add_block] at this
theorem arg_struct {t : TypeId} {fs : Array Field} {α G : Type} {e : El α G} {Q : α → G → Prop} {r : Reach} {b0 : Nat} {v : Value} {d : DataW H} {ps : List MemPlace} (ht : P.underlying t = some (.struct fs)) (ho : Opens enc P w base spare held t e Q) (hv : Value.okWide P w r b0 t v) (h : DataW.Trod enc P w base spare held t v d ps) : ∃ a g, v = ag (e.cel a g) ∧ Q a g := by
  obtain ⟨cs, rfl, _⟩ := okWide_struct ht hv
  obtain ⟨fuel, hf⟩ := h
  obtain ⟨a, g, hc, hq⟩ := ho fuel _ _ hf
  refine ⟨a, g, ?_, hq⟩
  unfold ag
  congr 1
  apply Array.toList_inj.1
  exact hc
theorem arg_slice {t te : TypeId} {α G : Type} {e : El α G} {Q : List α → Gs G → Prop} {r : Reach} {b0 : Nat} {v : Value} {d : DataW H} {ps : List MemPlace} (ht : P.underlying t = some (.slice te)) (ho : Opens enc P w base spare held t (elL e) Q) (hv : Value.okWide P w r b0 t v) (h : DataW.Trod enc P w base spare held t v d ps) : ∃ a g, v = sl a.length g ∧ Q a g := by
  obtain ⟨a, len, cap, rfl⟩ := okWide_slice ht hv
  obtain ⟨fuel, hf⟩ := h
  obtain ⟨a, g, hc, hq⟩ := ho fuel _ _ hf
  refine ⟨a, g, ?_, hq⟩
  have hc : [Value.slice _ len cap] = [sl a.length g] := hc
  simpa using hc
/-- a resource that is only read, whose blocks lie in the heap -/
def Rd (w : World) (r : Res) : Prop := r.mut = false ∧ r.ok w ∧ ∀ b, r.fp b → b < w.heap.size
theorem rd_vw {w : World} {α G : Type} {e : El α G} {n : Nat} {xs : List α} {s : Gs G} (h : (vw e n xs s).ok w) : Rd w (vw e n xs s) := ⟨rfl, h, vw_lt h⟩
theorem rd_fm {w : World} {α G : Type} {e : El α G} {n : Nat} {xs : List α} {s : Gs G} {r : α → G → Res} (h : ∀ i, i < n → Rd w (r (xs.getD i e.d) (s.g i))) : Rd w (fm e n xs s r) :=
  ⟨rfl, fun i hi => (h i hi).2.1, fun b ⟨i, hi, hb⟩ => (h i hi).2.2 b hb⟩
theorem need_of {w : World} {l : List Res} (h : ∀ r ∈ l, Rd w r) : NeedOk w l [] := ⟨h, fun _ _ _ h => (by cases h), fun _ h => (by cases h), List.Pairwise.nil⟩

theorem trodAll_stays (hl : laidOutB P = true) {W W' : World} (hb : Below W.heap.size W W') : ∀ {ts : List TypeId} {vs : List Value} {ds : List (DataW H)} {ps : List MemPlace}, DataW.TrodAll enc P W 0 (fun _ => true) true ts vs ds ps →
    (∀ t ∈ ts, P.readableRec t = true ∧ t < P.types.size) → (∀ x ∈ ps, x.block < W.heap.size) → DataW.TrodAll enc P W' 0 (fun b => decide (b < W.heap.size)) true ts vs ds ps
  | [], [], [], _, h, _, _ => h
  | t :: _, _ :: _, _ :: _, _, ⟨p, q, h1, h2, rfl⟩, hr, hlt =>
    ⟨p, q, Below.trod hl (hr t (List.mem_cons_self ..)).1 (hr t (List.mem_cons_self ..)).2 h1 hb (fun x hx => hlt x (List.mem_append_left _ hx)),
      trodAll_stays hl hb h2 (fun t' ht' => hr t' (List.mem_cons_of_mem _ ht')) (fun x hx => hlt x (List.mem_append_right _ hx)), rfl⟩
  | [], [], _ :: _, _, h, _, _ => h.elim
  | [], _ :: _, _, _, h, _, _ => h.elim
  | _ :: _, [], _, _, h, _, _ => h.elim
  | _ :: _, _ :: _, [], _, h, _, _ => h.elim

/-- what a law's row asks of a call that has returned true and made new memory alone -/
theorem law_post {f : Func} {s : ChangeSpec} {apart fresh handsOn : Bool} {W W' : World} {args : Array Value} {ds gs : List (DataW H)} {before : List MemPlace} {tb : TypeId}
    (hW : DataW.Whole enc P f.params.toList s.vars apart W args.toList ds gs before) (hvars : s.vars = []) (hfn : s.fn H (ds ++ gs) = { results := [.lit (.bool true)], args := ds })
    (hrt : f.resultTypes = #[tb]) (htb : P.underlying tb = some .bool) (hl : laidOutB P = true) (hread : ∀ t ∈ f.params.toList, P.readableRec t = true ∧ t < P.types.size) (hb : Below W.heap.size W W') :
    s.post enc P f apart fresh handsOn false W args (.bool true) W' := by
  have hlt : ∀ p ∈ before, p.block < W.heap.size := fun p hp => hW.lt p hp
  have hW0 := hW
  obtain ⟨p, q, hA, hV, rfl, _, _⟩ := hW0
  refine ⟨ds, gs, p ++ q, [], p, [], hW, ?_, ?_, ?_, hb.frame _, fun h => by cases h⟩
  · rw [hfn, hrt]
    exact trodAll_mk1 (shut_bool htb true)
  · rw [hfn]
    exact trodAll_stays hl hb hA hread (fun x hx => hlt x (List.mem_append_left _ hx))
  · rw [hfn, hvars]
    rfl
theorem callTrue {P : Program} {f : FuncId} {args : List Value} {need : List Res} (h : CallOk P f args need [] (U := Unit) (fun _ => .bool true) (fun _ => []) (fun _ => []) (fun _ => True)) {W : World} (hn : NeedOk W need []) :
    Calls P f args.toArray W fun e W' => e = .returned (.bool true) ∧ Below W.heap.size W W' := by
  refine (h W hn).mono ?_
  rintro e W' ⟨_, rfl, hb, _, _⟩
  exact ⟨rfl, hb.os, hb.tape, hb.output, hb.size, fun b hlt => hb.block b hlt (fun ⟨_, h, _⟩ => by cases h)⟩
end
end Go.Sym
