/-
  Library functions without a body, over any program: what they give for views of bytes.
-/
import Derived.Test.YtcccboodapgejaaSym
namespace Go.Sym
open Go.RowKit

/-- a view of bytes -/
def byV (A : Option Addr) (c : Nat) (bs : List UInt8) : Res := .view A bs.length c 1 (byE bs)
def ixV (bs : List UInt8) (c : UInt8) : Int := firstIdx ⟨bs.toArray⟩ c

theorem byV_cells {w : World} {ad : Addr} {c : Nat} {bs : List UInt8} (h : (byV (some ad) c bs).ok w) : ∀ j u, (byC bs)[j]? = some u → w.cell? (ad.add j) = some u := by
  intro j u hu
  have hj : j < bs.length := by have := (List.getElem?_eq_some_iff.1 hu).1; rwa [byC_len] at this
  obtain ⟨ad', hA, hc⟩ := h.2.2 (by omega)
  injection hA with hA
  subst hA
  have := (hc j hj).2 0 u (by simp [byC, hj] at hu; simp [byE, hj, hu])
  simpa using this
theorem byV_none {w : World} {c : Nat} {bs : List UInt8} (h : (byV none c bs).ok w) : bs = [] := by
  rcases Nat.eq_zero_or_pos bs.length with h0 | h0
  · exact List.eq_nil_of_length_eq_zero h0
  · obtain ⟨ad, hA, _⟩ := h.2.2 h0; cases hA

theorem run_loadBytesX {P : Program} {w : World} : ∀ (bs : List UInt8) (ad : Addr) (acc : ByteArray), (∀ j u, (byC bs)[j]? = some u → w.cell? (ad.add j) = some u) →
    (Extern.Bytes.loadBytes ad bs.length acc).run P w = .ok ⟨acc.data ++ bs.toArray⟩ w
  | [], ad, acc, _ => by simp [Extern.Bytes.loadBytes]
  | b :: r, ad, acc, h => by
    have h0 := h 0 (.int .u8 (b.toNat : Int)) (by simp [byC])
    have ha : ad.add 0 = ad := by simp [Addr.add]
    rw [ha] at h0
    have ih := run_loadBytesX (P := P) (w := w) r (ad.add 1) (acc.push b) (fun j u hu => by
      rw [add_add, Nat.add_comm]
      exact h (j + 1) u (by simpa [byC] using hu))
    simp only [List.length_cons, Extern.Bytes.loadBytes, Sem.run_bind, load, Sem.run, h0, Result.andThen_ok, Int.toNat_natCast]
    rw [show b.toNat.toUInt8 = b from by simp [Nat.toUInt8]]
    rw [ih]
    simp [ByteArray.push]

theorem run_bytesOf_view {P : Program} {w : World} {A : Option Addr} {c : Nat} {bs : List UInt8} (h : (byV A c bs).ok w) (n : Nat) (hn : n = bs.length) (c' : Nat) : (Extern.Bytes.bytesOf (.slice A n c')).run P w = .ok ⟨bs.toArray⟩ w := by
  subst hn
  cases A with
  | none =>
    have := byV_none h
    subst this
    rfl
  | some ad =>
    have := run_loadBytesX (P := P) (w := w) bs ad ByteArray.empty (byV_cells h)
    simp only [Extern.Bytes.bytesOf, this]
    have e0 : ByteArray.empty.data = #[] := rfl
    rw [e0]
    simp

theorem run_indexByteV {P : Program} {w : World} {A : Option Addr} {c : Nat} {bs : List UInt8} (h : (byV A c bs).ok w) (x : Int) :
    (Extern.BytealgIndexByte.indexByte #[.slice A bs.length c, .int .u8 x]).run P w = .ok (.int .i64 (ixV bs x.toNat.toUInt8)) w := by
  show ((do
    let b ← Extern.Bytes.bytesOf (.slice A bs.length c)
    let c ← Extern.Bytes.asByte (.int .u8 x)
    match (List.range b.size).find? fun i => b[i]! == c with
    | some i => pure (goInt i)
    | none => pure (goInt (-1)) : Sem Value).run P w) = _
  simp only [Sem.run_bind, run_bytesOf_view h _ rfl, Result.andThen_ok, Extern.Bytes.asByte, Sem.run_pure]
  unfold ixV firstIdx
  generalize (List.range (ByteArray.mk bs.toArray).size).find? (fun i => (ByteArray.mk bs.toArray)[i]! == x.toNat.toUInt8) = o
  cases o <;> rfl

theorem call_indexByte {P : Program} {f : FuncId} {fn : Func} (hf : P.funcs[f]? = some fn) (hname : (fn.name == "runtime.NumGoroutine") = false)
    (hb : fn.body.isNone = true) (hn : Extern.findNext fn = none) (he : Extern.find fn = some Extern.BytealgIndexByte.indexByte) (A : Option Addr) (n c : Nat) (bs : List UInt8) (hl : bs.length = n) (x : Int) :
    ∀ w, (∀ r ∈ [Res.view A n c 1 (byE bs)], r.ok w) → (callFunc f #[.slice A n c, .int .u8 x]).run P w = .ok (.value (.int .i64 (ixV bs x.toNat.toUInt8))) w := by
  intro w h
  subst hl
  rw [run_callFunc_indexByte hf hname hb hn he, run_indexByteV (show (byV A c bs).ok w from h _ (List.mem_singleton.2 rfl)) x]
  rfl

theorem ixV_ge (bs : List UInt8) (c : UInt8) : decide (0 ≤ ixV bs c) = bs.contains c := by
  unfold ixV firstIdx
  have hs : (⟨bs.toArray⟩ : ByteArray).size = bs.length := by simp [ByteArray.size]
  rw [hs]
  have hget : ∀ i, i < bs.length → (⟨bs.toArray⟩ : ByteArray)[i]! = bs.getD i 0 := by
    intro i hi
    have hi' : i < (⟨bs.toArray⟩ : ByteArray).size := by rw [hs]; exact hi
    rw [getElem!_pos _ i hi']
    show bs.toArray[i] = _
    simp [hi]
  rw [Bool.eq_iff_iff]
  simp only [decide_eq_true_eq, List.contains_iff_mem]
  split
  · rename_i i hi
    have h1 := List.mem_of_find?_eq_some hi
    have h2 := List.find?_some hi
    simp only [List.mem_range] at h1
    rw [hget i h1] at h2
    simp only [beq_iff_eq] at h2
    refine ⟨fun _ => ?_, fun _ => by omega⟩
    rw [← h2]
    simp [h1]
  · rename_i hi
    simp only [List.find?_eq_none, List.mem_range] at hi
    refine ⟨fun h => by omega, fun h => ?_⟩
    obtain ⟨i, hi', rfl⟩ := List.getElem_of_mem h
    have := hi i hi'
    rw [hget i hi'] at this
    simp [hi'] at this
theorem by_flatN {n : Nat} (bs : List UInt8) (h : bs.length = n) : byC bs = (List.range n).flatMap (byE bs) := by subst h; exact (by_flat bs).symm
theorem Hp.nilViewN {w0 w : World} {ns rs : List Res} (h : Hp w0 ns rs w) : Hp w0 (ns ++ [.view none 0 0 1 (byE [])]) rs w :=
  h.addN ⟨Nat.le_refl _, Nat.zero_le _, fun hn => absurd hn (by omega)⟩ fun _ ⟨h0, _⟩ => absurd h0 (by omega)
theorem hpKN {w0 w : World} {ns rs ns' rs' : List Res} (h : Hp w0 ns rs w) (kn ks : List Nat) (hn : nodupB ks = true) (hxn : pick ns kn = ns') (hx : pick rs ks = rs') : Hp w0 ns' rs' w :=
  have h2 := hpK h ks hn hx
  ⟨h2.below, fun r hr => by rw [← hxn] at hr; obtain ⟨k, _, hk⟩ := pick_mem hr; exact h2.old r (List.mem_of_getElem? hk), h2.own, h2.sep⟩
/-- own resources are handed back -/
theorem newK {w0 w : World} {ns rs new : List Res} (hH : Hp w0 ns rs w) (ks : List Nat) (hn : nodupB ks = true) (hx : pick rs ks = new) : NewOk w0 w new := by
  have h := hpK hH ks hn hx
  exact ⟨h.own, h.sep⟩
theorem by_rowN {n : Nat} (bs : List UInt8) (h : bs.length = n) : ∀ i, i < n → (byE bs i).length = 1 ∧ ∀ j v, (byE bs i)[j]? = some v → (byC bs)[i * 1 + j]? = some v := by subst h; exact by_row bs
end Go.Sym
