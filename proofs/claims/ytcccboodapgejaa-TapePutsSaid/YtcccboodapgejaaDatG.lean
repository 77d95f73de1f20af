/-
  Get after Put, in plain Lean.
-/
import Derived.Test.YtcccboodapgejaaTapeJ
namespace Go.Proofs.Ytcccboodapgejaa
open Go.Sym

theorem or_bytes (a b : Nat) (ha : a ≤ 255) (hb : b ≤ 255) : bits .or .i64 (a : Int) ((b : Int) * 256) = ((a + b * 256 : Nat) : Int) := by
  have e0 : ((b : Int) * 256) = ((b * 256 : Nat) : Int) := by omega
  rw [e0]
  simp only [bits, IntKind.bits]
  have e : (BitVec.ofInt 64 (a : Int) ||| BitVec.ofInt 64 ((b * 256 : Nat) : Int)).toNat = a + b * 256 := by
    simp only [BitVec.ofInt_natCast, BitVec.toNat_or, BitVec.toNat_ofNat]
    rw [Nat.mod_eq_of_lt (by omega), Nat.mod_eq_of_lt (by omega)]
    have := Nat.shiftLeft_add_eq_or_of_lt (show a < 2 ^ 8 by omega) b
    rw [Nat.shiftLeft_eq, show (2 : Nat) ^ 8 = 256 from rfl] at this
    rw [Nat.or_comm, ← this]
    omega
  have e2 : IntKind.wrap .i64 ((a + b * 256 : Nat) : Int) = ((a + b * 256 : Nat) : Int) := by rw [IntKind.wrap_i64]; omega
  refine Eq.trans ?_ e2
  exact congrArg (fun m : Nat => IntKind.wrap .i64 (m : Int)) e
theorem at8_app (h r : List UInt8) (i : Nat) (hi : i < h.length) : at8 (h ++ r) i = ((h.getD i 0).toNat : Int) := by
  unfold at8
  simp [List.getD, List.getElem?_append_left hi]
theorem ixV_spec (bs : List UInt8) (x : UInt8) (h : 0 ≤ ixV bs x) : (ixV bs x).toNat < bs.length ∧ bs.getD (ixV bs x).toNat 0 = x ∧ ∀ j, j < (ixV bs x).toNat → bs.getD j 0 ≠ x := by
  have hlt := ixV_lt bs x h
  refine ⟨by omega, ?_⟩
  revert h hlt
  unfold ixV firstIdx
  have hs : (⟨bs.toArray⟩ : ByteArray).size = bs.length := by simp [ByteArray.size]
  rw [hs]
  have hget : ∀ i, i < bs.length → (⟨bs.toArray⟩ : ByteArray)[i]! = bs.getD i 0 := by
    intro i hi
    have hi' : i < (⟨bs.toArray⟩ : ByteArray).size := by rw [hs]; exact hi
    rw [getElem!_pos _ i hi']
    show bs.toArray[i] = _
    simp [hi]
  split
  · rename_i i hi
    intro _ hlt
    rw [List.find?_range_eq_some] at hi
    obtain ⟨h1, h2, h3⟩ := hi
    simp only [List.mem_range] at h2
    rw [hget i h2] at h1
    simp only [Int.toNat_natCast]
    refine ⟨by simpa using h1, fun j hj => ?_⟩
    have := h3 j hj
    rw [hget j (by omega)] at this
    simpa using this
  · intro h
    omega
theorem ixV_find (t : List UInt8) (m : Nat) (ht : t.contains 143 = false) : cutN (t ++ List.replicate m 143) 143 = t.length := by
  unfold cutN
  rw [ixV_ge]
  have htn : ∀ j, j < t.length → (t ++ List.replicate m 143).getD j 0 ≠ 143 := by
    intro j hj e
    have : t[j] = 143 := by simpa [List.getD, List.getElem?_append_left hj, hj] using e
    have h2 : t.contains 143 = true := by rw [List.contains_iff_mem, ← this]; exact List.getElem_mem hj
    rw [ht] at h2
    cases h2
  cases m with
  | zero =>
    simp only [List.replicate_zero, List.append_nil, ht]
    rfl
  | succ m =>
    have hc : (t ++ List.replicate (m + 1) 143).contains 143 = true := by simp
    rw [if_pos hc]
    have h0 : 0 ≤ ixV (t ++ List.replicate (m + 1) 143) 143 := by
      have := ixV_ge (t ++ List.replicate (m + 1) 143) 143
      rw [hc] at this
      exact of_decide_eq_true this
    obtain ⟨h1, h2, h3⟩ := ixV_spec _ _ h0
    rcases Nat.lt_trichotomy (ixV (t ++ List.replicate (m + 1) 143) 143).toNat t.length with hlt | heq | hgt
    · exact absurd h2 (htn _ hlt)
    · exact heq
    · refine absurd ?_ (h3 _ hgt)
      simp [List.getD]
theorem get_put {b : Blk} {t : List UInt8} (h : checkV b t = 0) (hu : b.u8s) : getB (putB b t) = b ∧ getT (putB b t) = t := by
  obtain ⟨hg, hn, ht, hi, ho, hid, hod, hr, ha, hl, hc⟩ := checkV_bounds h
  obtain ⟨he, ht0, _⟩ := hu
  have hp : putB b t = hdrB b ++ (t ++ List.replicate (128 - (16 + t.length)) 143) := by unfold putB; rw [if_pos h, List.append_assoc]
  have hlen : (hdrB b).length = 16 := rfl
  simp only [clockV, withinV, Bool.and_eq_true, decide_eq_true_eq] at hi ho
  have hd16 : (putB b t).drop 16 = t ++ List.replicate (128 - (16 + t.length)) 143 := by rw [hp]; exact List.drop_left' hlen
  have hA : ∀ i, i < 16 → at8 (putB b t) i = (((hdrB b).getD i 0).toNat : Int) := fun i hi => by rw [hp]; exact at8_app _ _ _ (by omega)
  have hD : ∀ k i, k + i < 16 → at8 ((putB b t).drop k) i = (((hdrB b).getD (k + i) 0).toNat : Int) := fun k i hi => by
    rw [← hA (k + i) hi]
    unfold at8
    simp [List.getD, List.getElem?_drop]
  refine ⟨?_, ?_⟩
  · obtain ⟨g, n, e, tt, ⟨ih, im, is, iff, idd⟩, ⟨oh, om, os, off, od⟩, r, a, c⟩ := b
    simp only at hg hn ht hi ho hid hod hr ha he ht0
    subst hid; subst hod
    simp only [getB, lblOf, hA _ (show 0 < 16 by omega), hA _ (show 1 < 16 by omega), hA _ (show 2 < 16 by omega), hA _ (show 3 < 16 by omega), hA _ (show 4 < 16 by omega), hA _ (show 13 < 16 by omega), hA _ (show 14 < 16 by omega), hA _ (show 15 < 16 by omega),
      hD _ _ (show 5 + 0 < 16 by omega), hD _ _ (show 5 + 1 < 16 by omega), hD _ _ (show 5 + 2 < 16 by omega), hD _ _ (show 5 + 3 < 16 by omega), hD _ _ (show 9 + 0 < 16 by omega), hD _ _ (show 9 + 1 < 16 by omega), hD _ _ (show 9 + 2 < 16 by omega), hD _ _ (show 9 + 3 < 16 by omega)]
    have hor : bits .or .i64 (((u8 n).toNat : Nat) : Int) ((((u8 (n / 256)).toNat : Nat) : Int) * 256) = n := by
      have h1 := u8_val n
      have h2 := u8_val (n / 256)
      rw [or_bytes _ _ (by omega) (by omega)]
      omega
    rw [u8_val, u8_val] at hor
    simp only [hdrB, List.getD_cons_zero, List.getD_cons_succ, u8_val, hor]
    have hcc : ((((if c = true then (1 : UInt8) else 0).toNat : Nat) : Int) == 1) = c := by cases c <;> rfl
    rw [hcc]
    simp only [Blk.mk.injEq, Lbl.mk.injEq, and_true, true_and]
    omega
  · unfold getT
    rw [hd16, ixV_find t _ hc]
    simp
theorem putB_128 {b : Blk} {t : List UInt8} (h : checkV b t = 0) : (putB b t).length = 128 := by rw [putB_len, putN, if_pos h]
theorem putB_nil {b : Blk} {t : List UInt8} (h : checkV b t ≠ 0) : putB b t = [] := by rw [putB, if_neg h]
theorem get_put_all {b : Blk} {t : List UInt8} (h : checkV b t = 0) (hu : b.u8s) : getRB (putB b t) = b ∧ getRT (putB b t) = t ∧ getE (putB b t) = 0 := by
  obtain ⟨h1, h2⟩ := get_put h hu
  have hE : getE (putB b t) = 0 := by
    unfold getE
    rw [h1, h2, putB_128 h, h]
    simp
  refine ⟨?_, ?_, hE⟩
  · unfold getRB; rw [if_pos hE, h1]
  · unfold getRT; rw [if_pos hE, h2]
end Go.Proofs.Ytcccboodapgejaa
