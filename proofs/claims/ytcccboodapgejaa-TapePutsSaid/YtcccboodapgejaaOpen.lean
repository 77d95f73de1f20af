/-
  Arguments opened to views, and the last step of a law's row. No program in it.
-/
import Derived.Test.YtcccboodapgejaaSymMore
import Derived.ProofKit
import Derived.Deep.Slices
import Derived.Deep.Fields
import Derived.ChangeSame
import Derived.Below
import Derived.Carry
namespace Go.Sym
open Go.RowKit Go.WideShapes Go.ChangeShapes Go.Deep

section
variable {H : Type} {enc : TypeId × Value → H} {P : Program} {w : World} {base : Nat} {spare : Nat → Bool} {held : Bool}

theorem lit_i64 {n : Int} (h : (Lit.int .i64 n).wf = true) : -9223372036854775808 ≤ n ∧ n ≤ 9223372036854775807 := by
  simpa [Lit.wf, IntKind.min, IntKind.max, IntKind.signed, IntKind.bits] using h
theorem lit_u8 {n : Int} (h : (Lit.int .u8 n).wf = true) : 0 ≤ n ∧ n ≤ 255 := by
  simpa [Lit.wf, IntKind.min, IntKind.max, IntKind.signed, IntKind.bits] using h

theorem cell_lt {w : World} {a : Addr} {v : Value} (h : w.cell? a = some v) : a.block < w.heap.size := by
  rcases Nat.lt_or_ge a.block w.heap.size with h' | h'
  · exact h'
  · simp [World.cell?, Array.getElem?_eq_none h'] at h
/-- a view's blocks lie in the heap -/
theorem view_lt {w : World} {A : Option Addr} {n c size : Nat} {el : Nat → List Value} (hs : 0 < size) (h : (Res.view A n c size el).ok w) : ∀ b, (Res.view A n c size el).fp b → b < w.heap.size := by
  rintro b ⟨h0, ad, rfl, rfl⟩
  obtain ⟨ad', hA, hc⟩ := h.2.2 h0
  injection hA with hA
  subst hA
  obtain ⟨h1, h2⟩ := hc 0 h0
  have h3 : (el 0)[0]? = some ((el 0)[0]'(by omega)) := List.getElem?_eq_getElem (by omega)
  have := cell_lt (h2 0 _ h3)
  rwa [add_block] at this
/-- a slice of bytes -/
theorem open_bytes {t e : TypeId} {fuel : Nat} {cs : List Value} {x : DataW H × List MemPlace} (ht : P.underlying t = some (.slice e)) (he : P.underlying e = some (.int .u8)) (hc : P.cellsOf e = 1)
    (h : DataW.trod enc P w base spare held fuel t cs = some x) :
    ∃ (A : Option Addr) (n c : Nat) (bs : List UInt8), cs = [.slice A n c] ∧ bs.length = n ∧ (Res.view A n c 1 (byE bs)).ok w := by
  rcases open_slice1 ht hc h with ⟨rfl, _⟩ | ⟨a, len, cap, m, fu, V, D, Pl, rfl, hb, hl, hm, hmm, _, hi⟩
  · exact ⟨none, 0, 0, [], rfl, rfl, Nat.le_refl _, Nat.zero_le _, fun hn => absurd hn (by omega)⟩
  · have hlm : len ≤ m := by rw [hmm]; split <;> omega
    have hV : ∀ i, i < m → ∃ z : Int, V i = .int .u8 z ∧ 0 ≤ z ∧ z ≤ 255 := fun i him => by
      obtain ⟨z, h1, _, hwf⟩ := DataW.trod_int he (hi i him).2
      simp only [List.cons.injEq, and_true] at h1
      exact ⟨z, h1, lit_u8 hwf⟩
    refine ⟨some a, len, cap, (List.range len).map fun i => (match V i with | .int _ z => z.toNat.toUInt8 | _ => 0), rfl, by simp, hl, hm, fun _ => ⟨a, rfl, fun i hil => ⟨by simp [byE], fun j v hv => ?_⟩⟩⟩
    obtain ⟨z, hz, hz0, hz1⟩ := hV i (by omega)
    have hj : j = 0 := by
      have := (List.getElem?_eq_some_iff.1 hv).1
      simp [byE] at this
      omega
    subst hj
    simp [byE, hil, hz] at hv
    subst hv
    have h1 := (hi i (by omega)).1
    rw [hz] at h1
    simp only [Nat.mul_one, Nat.add_zero]
    rw [h1]
    congr 2
    omega

theorem trodAll_stays (hl : laidOutB P = true) {W W' : World} (hb : Below W.heap.size W W') : ∀ {ts : List TypeId} {vs : List Value} {ds : List (DataW H)} {ps : List MemPlace}, DataW.TrodAll enc P W 0 (fun _ => true) true ts vs ds ps →
    (∀ t ∈ ts, P.readableRec t = true ∧ t < P.types.size) → (∀ x ∈ ps, x.block < W.heap.size) → DataW.TrodAll enc P W' 0 (fun b => decide (b < W.heap.size)) true ts vs ds ps
  | [], [], [], _, h, _, _ => h
  | t :: _, _ :: _, _ :: _, _, ⟨p, q, h1, h2, rfl⟩, hr, hlt =>
    ⟨p, q, Below.trod hl (hr t (List.mem_cons_self ..)).1 (hr t (List.mem_cons_self ..)).2 h1 hb (fun x hx => hlt x (List.mem_append_left _ hx)),
      trodAll_stays hl hb h2 (fun t' ht' => hr t' (List.mem_cons_of_mem _ ht')) (fun x hx => hlt x (List.mem_append_right _ hx)), rfl⟩
  | [], [], _ :: _, _, h, _, _ => h.elim
  | [], _ :: _, _, _, h, _, _ => h.elim
  | _ :: _, [], _, _, h, _, _ => h.elim
  | _ :: _, _ :: _, [], _, h, _, _ => h.elim

/-- what a law's row asks of a call that has returned true and made new memory alone -/
theorem law_post {f : Func} {s : ChangeSpec} {apart fresh handsOn : Bool} {W W' : World} {args : Array Value} {ds gs : List (DataW H)} {before : List MemPlace} {tb : TypeId}
    (hW : DataW.Whole enc P f.params.toList s.vars apart W args.toList ds gs before) (hvars : s.vars = []) (hfn : s.fn H (ds ++ gs) = { results := [.lit (.bool true)], args := ds })
    (hrt : f.resultTypes = #[tb]) (htb : P.underlying tb = some .bool) (hl : laidOutB P = true) (hread : ∀ t ∈ f.params.toList, P.readableRec t = true ∧ t < P.types.size) (hb : Below W.heap.size W W') :
    s.post enc P f apart fresh handsOn false W args (.bool true) W' := by
  have hlt : ∀ p ∈ before, p.block < W.heap.size := fun p hp => hW.lt p hp
  have hW0 := hW
  obtain ⟨p, q, hA, hV, rfl, _, _⟩ := hW0
  refine ⟨ds, gs, p ++ q, [], p, [], hW, ?_, ?_, ?_, hb.frame _, fun h => by cases h⟩
  · rw [hfn, hrt]
    exact trodAll_mk1 (shut_bool htb true)
  · rw [hfn]
    exact trodAll_stays hl hb hA hread (fun x hx => hlt x (List.mem_append_left _ hx))
  · rw [hfn, hvars]
    rfl
end
end Go.Sym
