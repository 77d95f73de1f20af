/-
  Library functions without a body, over any program: what they give for views of bytes.
-/
import Derived.Test.YtcccboodapgejaaVKit
import Derived.Lib.MakeNoZero
namespace Go.Sym
open Go.RowKit

/-- the index of the first such byte, -1 if there is none -/
def ixB (bs : List UInt8) (c : UInt8) : Int := firstIdx ⟨bs.toArray⟩ c

theorem byV_cells {w : World} {ad : Addr} {n : Nat} {s : Gs Unit} {bs : List UInt8} (hn : n = bs.length) (ha : s.a = some ad) (h : (vw elB n bs s).ok w) : ∀ j u, (bs.map fun b => Value.int .u8 (b.toNat : Int))[j]? = some u → w.cell? (ad.add j) = some u := by
  subst hn
  intro j u hu
  have hj : j < bs.length := by have := (List.getElem?_eq_some_iff.1 hu).1; simpa using this
  obtain ⟨ad', hA, hc⟩ := h.2.2 (by omega)
  rw [ha] at hA
  injection hA with hA
  subst hA
  have := (hc j hj).2 0 u (by simp [hj] at hu; simp [elB, hj, hu])
  simpa [elB] using this
theorem byV_none {w : World} {n : Nat} {s : Gs Unit} {bs : List UInt8} (hn : n = bs.length) (ha : s.a = none) (h : (vw elB n bs s).ok w) : bs = [] := by
  subst hn
  rcases Nat.eq_zero_or_pos bs.length with h0 | h0
  · exact List.eq_nil_of_length_eq_zero h0
  · obtain ⟨ad, hA, _⟩ := h.2.2 h0
    rw [ha] at hA; cases hA
theorem run_loadBytesX {P : Program} {w : World} : ∀ (bs : List UInt8) (ad : Addr) (acc : ByteArray), (∀ j u, (bs.map fun b => Value.int .u8 (b.toNat : Int))[j]? = some u → w.cell? (ad.add j) = some u) →
    (Extern.Bytes.loadBytes ad bs.length acc).run P w = .ok ⟨acc.data ++ bs.toArray⟩ w
  | [], ad, acc, _ => by simp [Extern.Bytes.loadBytes]
  | b :: r, ad, acc, h => by
    have h0 := h 0 (.int .u8 (b.toNat : Int)) (by simp)
    have ha : ad.add 0 = ad := by simp [Addr.add]
    rw [ha] at h0
    have ih := run_loadBytesX (P := P) (w := w) r (ad.add 1) (acc.push b) (fun j u hu => by
      rw [add_add, Nat.add_comm]
      exact h (j + 1) u (by simpa using hu))
    simp only [List.length_cons, Extern.Bytes.loadBytes, Sem.run_bind, load, Sem.run, h0, Result.andThen_ok, Int.toNat_natCast]
    rw [show b.toNat.toUInt8 = b from by simp [Nat.toUInt8]]
    rw [ih]
    simp [ByteArray.push]
theorem run_bytesOf_view {P : Program} {w : World} {n : Nat} {s : Gs Unit} {bs : List UInt8} (h : (vw elB n bs s).ok w) (hn : n = bs.length) (c' : Nat) : (Extern.Bytes.bytesOf (.slice s.a n c')).run P w = .ok ⟨bs.toArray⟩ w := by
  cases ha : s.a with
  | none =>
    have := byV_none hn ha h
    subst this
    subst hn
    rfl
  | some ad =>
    have := run_loadBytesX (P := P) (w := w) bs ad ByteArray.empty (byV_cells hn ha h)
    subst hn
    simp only [Extern.Bytes.bytesOf, this]
    have e0 : ByteArray.empty.data = #[] := rfl
    rw [e0]
    simp
theorem byte_back (x : UInt8) : (Int.toNat ((x.toNat : Nat) : Int)).toUInt8 = x := by simp
theorem run_indexByteV {P : Program} {w : World} {n : Nat} {s : Gs Unit} {bs : List UInt8} (h : (vw elB n bs s).ok w) (hn : n = bs.length) (x : UInt8) :
    (Extern.BytealgIndexByte.indexByte #[sl n s, .int .u8 (x.toNat : Int)]).run P w = .ok (.int .i64 (ixB bs x)) w := by
  show ((do
    let b ← Extern.Bytes.bytesOf (.slice s.a n s.c)
    let c ← Extern.Bytes.asByte (.int .u8 (x.toNat : Int))
    match (List.range b.size).find? fun i => b[i]! == c with
    | some i => pure (goInt i)
    | none => pure (goInt (-1)) : Sem Value).run P w) = _
  simp only [Sem.run_bind, run_bytesOf_view h hn, Result.andThen_ok, Extern.Bytes.asByte, Sem.run_pure]
  rw [byte_back]
  unfold ixB firstIdx
  generalize (List.range (ByteArray.mk bs.toArray).size).find? (fun i => (ByteArray.mk bs.toArray)[i]! == x) = o
  cases o <;> rfl
theorem call_indexByte {P : Program} {f : FuncId} {fn : Func} (hf : P.funcs[f]? = some fn) (hname : (fn.name == "runtime.NumGoroutine") = false)
    (hb : fn.body.isNone = true) (hx : Extern.findNext fn = none) (he : Extern.find fn = some Extern.BytealgIndexByte.indexByte) (n : Nat) (s : Gs Unit) (bs : List UInt8) (hn : n = bs.length) (x : UInt8) :
    ∀ w, (∀ r ∈ [vw elB n bs s], r.ok w) → (callFunc f #[sl n s, .int .u8 (x.toNat : Int)]).run P w = .ok (.value (.int .i64 (ixB bs x))) w := by
  intro w h
  have := run_indexByteV (P := P) (h _ (List.mem_singleton.2 rfl)) hn x
  unfold sl at this ⊢
  rw [run_callFunc_indexByte hf hname hb hx he, this]
  rfl
theorem ixB_ge (bs : List UInt8) (c : UInt8) : decide (0 ≤ ixB bs c) = bs.contains c := by
  unfold ixB firstIdx
  have hs : (⟨bs.toArray⟩ : ByteArray).size = bs.length := by simp [ByteArray.size]
  rw [hs]
  have hget : ∀ i, i < bs.length → (⟨bs.toArray⟩ : ByteArray)[i]! = bs.getD i 0 := by
    intro i hi
    have hi' : i < (⟨bs.toArray⟩ : ByteArray).size := by rw [hs]; exact hi
    rw [getElem!_pos _ i hi']
    show bs.toArray[i] = _
    simp [hi]
  rw [Bool.eq_iff_iff]
  simp only [decide_eq_true_eq, List.contains_iff_mem]
  split
  · rename_i i hi
    have h1 := List.mem_of_find?_eq_some hi
    have h2 := List.find?_some hi
    simp only [List.mem_range] at h1
    rw [hget i h1] at h2
    simp only [beq_iff_eq] at h2
    refine ⟨fun _ => ?_, fun _ => by omega⟩
    rw [← h2]
    simp [h1]
  · rename_i hi
    simp only [List.find?_eq_none, List.mem_range] at hi
    refine ⟨fun h => by omega, fun h => ?_⟩
    obtain ⟨i, hi', rfl⟩ := List.getElem_of_mem h
    have := hi i hi'
    rw [hget i hi'] at this
    simp [hi'] at this
end Go.Sym
