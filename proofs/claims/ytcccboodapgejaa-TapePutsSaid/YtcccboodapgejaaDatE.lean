/-
  The reference's Check and Put, in plain Lean, and that they are the program's own.
-/
import Derived.Test.YtcccboodapgejaaDatD
namespace Go.Proofs.Ytcccboodapgejaa
open Go.Sym

def withinV (x lo hi : Int) : Bool := decide (lo ≤ x) && decide (x ≤ hi)
def clockV (l : Lbl) : Bool := withinV l.h 0 23 && withinV l.m 0 59 && withinV l.s 0 59 && withinV l.f 0 29
def refCheckV (b : Blk) (t : List UInt8) : Int :=
  if (!withinV b.g 0 255 || !withinV b.n 0 65535) = true then 2
  else if (decide (240 ≤ b.e) && decide (b.e ≤ 254) || decide (3 < b.t)) = true then 3
  else if (!clockV b.i || !clockV b.o) = true then 2
  else if (b.i.d || b.o.d) = true then 13
  else if (!withinV b.r 0 14) = true then 2
  else if (decide (b.a < 1) || decide (3 < b.a)) = true then 3
  else if decide (112 < (t.length : Int)) = true then 9
  else if t.contains 143 = true then 4
  else 0
theorem lblBad_clock (l : Lbl) : (timedV l != 0) = !clockV l := by
  unfold timedV
  have h : lblBad l = !clockV l := by
    rw [Bool.eq_iff_iff]
    simp only [lblBad, clockV, withinV, Bool.or_eq_true, Bool.not_eq_true', Bool.and_eq_false_iff, decide_eq_true_eq, decide_eq_false_iff_not]
    omega
  rw [h]
  cases clockV l <;> rfl
theorem refCheck_eq (b : Blk) (t : List UInt8) : refCheckV b t = checkV b t := by
  have h1 : (!withinV b.g 0 255 || !withinV b.n 0 65535) = (decide (b.g < 0) || decide (255 < b.g) || decide (b.n < 0) || decide (65535 < b.n)) := by
    rw [Bool.eq_iff_iff]
    simp only [withinV, Bool.or_eq_true, Bool.not_eq_true', Bool.and_eq_false_iff, decide_eq_true_eq, decide_eq_false_iff_not]
    omega
  have h2 : (decide (240 ≤ b.e) && decide (b.e ≤ 254) || decide (3 < b.t)) = (decide (240 ≤ b.e) && decide (b.e < 255) || decide (3 < b.t)) := by
    rw [Bool.eq_iff_iff]
    simp only [Bool.or_eq_true, Bool.and_eq_true, decide_eq_true_eq]
    omega
  have h3 : (!withinV b.r 0 14) = (decide (b.r < 0) || decide (15 ≤ b.r)) := by
    rw [Bool.eq_iff_iff]
    simp only [withinV, Bool.or_eq_true, Bool.not_eq_true', Bool.and_eq_false_iff, decide_eq_true_eq, decide_eq_false_iff_not]
    omega
  unfold refCheckV checkV
  rw [h1, h2, h3, lblBad_clock, lblBad_clock, ixV_ge]
  cases hi : clockV b.i <;> simp
theorem checkV_bounds {b : Blk} {t : List UInt8} (h : checkV b t = 0) : (0 ≤ b.g ∧ b.g ≤ 255) ∧ (0 ≤ b.n ∧ b.n ≤ 65535) ∧ b.t ≤ 3 ∧ clockV b.i = true ∧ clockV b.o = true ∧ b.i.d = false ∧ b.o.d = false ∧ (0 ≤ b.r ∧ b.r ≤ 14) ∧ (1 ≤ b.a ∧ b.a ≤ 3) ∧ t.length ≤ 112 ∧ t.contains 143 = false := by
  rw [← refCheck_eq] at h
  unfold refCheckV at h
  split at h
  · cases h
  rename_i h1
  split at h
  · cases h
  rename_i h2
  split at h
  · cases h
  rename_i h3
  split at h
  · cases h
  rename_i h4
  split at h
  · cases h
  rename_i h5
  split at h
  · cases h
  rename_i h6
  split at h
  · cases h
  rename_i h7
  split at h
  · cases h
  rename_i h8
  simp only [withinV, Bool.or_eq_true, Bool.not_eq_true', Bool.and_eq_true, Bool.and_eq_false_iff, decide_eq_true_eq, decide_eq_false_iff_not, not_or, Bool.not_eq_true, Bool.not_eq_false] at h1 h2 h3 h4 h5 h6 h7 h8
  refine ⟨by omega, by omega, by omega, h3.1, h3.2, h4.1, h4.2, by omega, by omega, by omega, h8⟩

def fillB (bs : List UInt8) (n : Nat) (p : UInt8) : List UInt8 := bs ++ List.replicate (n - bs.length) p
theorem byC_append (a b : List UInt8) : byC (a ++ b) = byC a ++ byC b := by simp [byC]
theorem fill_step {bs : List UInt8} {p : UInt8} {k : Nat} (hk : bs.length ≤ k) : byC (bs ++ List.replicate (k - bs.length) p) ++ [.int .u8 (p.toNat : Int)] = byC (bs ++ List.replicate (k + 1 - bs.length) p) := by
  rw [show k + 1 - bs.length = (k - bs.length) + 1 by omega, List.replicate_succ', ← List.append_assoc, byC_append (bs ++ _)]
  rfl
theorem no_more {bs : List UInt8} {k : Nat} (he : ∀ j, j < k → bs.getD j 0 ≠ 143) (h : ((bs.getD k 0).toNat : Int) ≠ 143) : ∀ j, j < k + 1 → bs.getD j 0 ≠ 143 := by
  intro j hj
  by_cases hjk : j < k
  · exact he j hjk
  · have : j = k := by omega
    subst this
    intro e
    rw [e] at h
    exact h rfl
theorem no_all {bs : List UInt8} {n : Nat} (hl : bs.length = n) (he : ∀ j, j < n → bs.getD j 0 ≠ 143) : bs.contains 143 = false := by
  rw [Bool.eq_false_iff]
  intro h
  rw [List.contains_iff_mem] at h
  obtain ⟨i, hi, hx⟩ := List.getElem_of_mem h
  have := he i (by omega)
  simp [hi, hx] at this
theorem no_found {bs : List UInt8} {n k : Nat} (hl : bs.length = n) (hk : k < n) (h : ((bs.getD k 0).toNat : Int) = 143) : bs.contains 143 = true := by
  rw [List.contains_iff_mem]
  have h1 : bs.getD k 0 = 143 := UInt8.toNat_inj.1 (by have : (143 : UInt8).toNat = 143 := rfl; omega)
  have hk' : k < bs.length := by omega
  rw [← h1]
  simp [List.getD, hk']
/-- a record's bytes -/
def u8 (x : Int) : UInt8 := (x % 256).toNat.toUInt8
theorem u8_val (x : Int) : ((u8 x).toNat : Int) = x % 256 := by
  unfold u8
  simp only [Nat.toUInt8, UInt8.toNat_ofNat']
  omega
end Go.Proofs.Ytcccboodapgejaa
