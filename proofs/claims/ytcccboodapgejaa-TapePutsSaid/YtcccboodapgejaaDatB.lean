/-
  Put, in plain Lean; the example of the laws.
-/
import Derived.Test.YtcccboodapgejaaDat
import Derived.Test.YtcccboodapgejaaSymMore
namespace Go.Proofs.Ytcccboodapgejaa
open Go.Sym

/-- the head of a block's record -/
def hdrC (b : Blk) : List Value := [.int .u8 (b.g % 256), .int .u8 (b.n % 256), .int .u8 (b.n / 256 % 256), .int .u8 b.e, .int .u8 b.t, .int .u8 (b.i.h % 256), .int .u8 (b.i.m % 256), .int .u8 (b.i.s % 256), .int .u8 (b.i.f % 256),
  .int .u8 (b.o.h % 256), .int .u8 (b.o.m % 256), .int .u8 (b.o.s % 256), .int .u8 (b.o.f % 256), .int .u8 (b.r % 256), .int .u8 b.a, .int .u8 (if b.c = true then 1 else 0)]
def putC (b : Blk) (t : List UInt8) : List Value := if checkV b t = 0 then hdrC b ++ byC t ++ byC (List.replicate (128 - (16 + t.length)) 143) else []
def putN (b : Blk) (t : List UInt8) : Nat := if checkV b t = 0 then 128 else 0
theorem checkV_len {b : Blk} {t : List UInt8} (h : checkV b t = 0) : t.length ≤ 112 := by
  unfold checkV at h
  repeat' split at h
  all_goals first | omega | skip
  rename_i h1 _
  simp only [decide_eq_true_eq] at h1
  omega
def exB : Blk := ⟨0, 258, 255, 0, ⟨1, 2, 3, 4, false⟩, ⟨1, 2, 5, 0, false⟩, 13, 2, false⟩
def exT : List UInt8 := [65]
def exPut : List UInt8 := [0, 2, 1, 255, 0, 1, 2, 3, 4, 1, 2, 5, 0, 13, 2, 0, 65] ++ List.replicate 111 143
theorem ex_check : checkV exB exT = 0 := by decide +kernel
theorem ex_putN : putN exB exT = 128 := by unfold putN; rw [if_pos ex_check]
theorem ex_put : putC exB exT = byC exPut := by unfold putC; rw [if_pos ex_check]; rfl
def exZ : List UInt8 := List.replicate 113 0
theorem ex_splitE : splitE exB exZ = 0 := by decide +kernel
theorem ex_splitL : splitL exB exZ = [({ exB with e := 0 }, List.replicate 112 0), ({ exB with e := 255 }, [0])] := by
  unfold splitL
  rw [if_pos ex_splitE]
  rfl
end Go.Proofs.Ytcccboodapgejaa
