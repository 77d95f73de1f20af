/-
  The plain law of TapeSizes: the pieces of Split.
-/
import Derived.Test.YtcccboodapgejaaDatC
namespace Go.Proofs.Ytcccboodapgejaa
open Go.Sym

theorem splitL_len {b : Blk} {t : List UInt8} (h : splitE b t = 0) : (splitL b t).length = max 1 ((t.length + 111) / 112) := by
  unfold splitL
  rw [if_pos h]
  simp [pieces]
theorem splitE_pieces {b : Blk} {t : List UInt8} (h : splitE b t = 0) : pieces t.length ≤ 241 := by
  unfold splitE at h
  split at h
  · rename_i h1
    rw [h] at h1
    cases h1
  · split at h
    · cases h
    · rename_i h1
      simp only [decide_eq_true_eq] at h1
      omega
theorem splitL_get {b : Blk} {t : List UInt8} {bl : List BT} (h : splitE b t = 0) (hd : bl.map BT.data = splitL b t) {k : Nat} (hk : k < (splitL b t).length) :
    (bl.getD k default).b.e = (if k + 1 = pieces t.length then 255 else (k : Int) % 256) ∧ (bl.getD k default).t = (t.drop (k * 112)).take (min t.length ((k + 1) * 112) - k * 112) := by
  have hl : bl.length = (splitL b t).length := by rw [← hd]; simp
  have hkb : k < bl.length := by omega
  have h1 : (bl.getD k default).data = piece b t (pieces t.length) k := by
    have h2 : (bl.map BT.data)[k]? = (splitL b t)[k]? := by rw [hd]
    have hkp : k < pieces t.length := by rw [splitL_len h] at hk; exact hk
    have hs : splitL b t = (List.range (pieces t.length)).map (piece b t (pieces t.length)) := by unfold splitL; rw [if_pos h]
    rw [hs] at h2
    simp only [List.getElem?_map, List.getElem?_eq_getElem hkb, Option.map_some, List.getElem?_range hkp, Option.some.injEq] at h2
    simp [List.getD, hkb, h2]
  simp only [BT.data, piece, Prod.mk.injEq] at h1
  rw [h1.1, h1.2]
  exact ⟨rfl, rfl⟩
theorem splitL_eb {b : Blk} {t : List UInt8} {bl : List BT} (h : splitE b t = 0) (hd : bl.map BT.data = splitL b t) {k : Nat} (hk : k < (splitL b t).length) : 0 ≤ (bl.getD k default).b.e ∧ (bl.getD k default).b.e ≤ 255 := by
  rw [(splitL_get h hd hk).1]
  split <;> omega
/-- every piece but the last is full and bears its number -/
theorem sizes_step {b : Blk} {t : List UInt8} {bl : List BT} (h : splitE b t = 0) (hd : bl.map BT.data = splitL b t) {k : Nat} (hk : k + 1 < (splitL b t).length) :
    (bl.getD k default).t.length = 112 ∧ (bl.getD k default).b.e = (k : Int) := by
  obtain ⟨h1, h2⟩ := splitL_get h hd (k := k) (by omega)
  have h3 := splitL_len h
  have h4 := splitE_pieces h
  have h5 : pieces t.length = max 1 ((t.length + 111) / 112) := rfl
  refine ⟨?_, ?_⟩
  · rw [h2, List.length_take, List.length_drop]
    omega
  · rw [h1, if_neg (by omega)]
    omega
theorem sizes_last {b : Blk} {t : List UInt8} {bl : List BT} (h : splitE b t = 0) (hd : bl.map BT.data = splitL b t) : (bl.getD ((splitL b t).length - 1) default).b.e = 255 := by
  have h3 := splitL_len h
  obtain ⟨h1, _⟩ := splitL_get h hd (k := (splitL b t).length - 1) (by omega)
  rw [h1, if_pos]
  unfold pieces
  omega
end Go.Proofs.Ytcccboodapgejaa
