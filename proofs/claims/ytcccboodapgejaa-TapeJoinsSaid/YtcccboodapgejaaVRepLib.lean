/-
  What the walk of Repeat leans on. No program in it.
-/
import Derived.Test.YtcccboodapgejaaVLib
namespace Go.Sym
open Go.RowKit

theorem ext_makeNoZero {P : Program} {f : FuncId} {fn : Func} {ps : Array TypeId} {t e : TypeId} (hf : P.funcs[f]? = some fn) (hname : (fn.name == "runtime.NumGoroutine") = false)
    (hb : fn.body.isNone = true) (hn : Extern.findNext fn = none) (he : Extern.find fn = some (Extern.BytealgMakeNoZero.makeNoZero ps #[t])) (ht : P.underlying t = some (.slice e)) (n : Nat) (hle : n ≤ 65536) :
    ExtOk P f [.int .i64 (n : Int)] (U := Option Addr × Nat × List Value) (fun u => .slice u.1 n u.2.1) (fun u => [.row u.1 u.2.1 e 1 n u.2.2]) (fun u => n ≤ u.2.1 ∧ u.2.2.length = n) := by
  intro w
  obtain ⟨cs, hrun, hge, hm⟩ := Lib.run_makeNoZero (P := P) w ps t e ht n (by omega)
  have hcm : cs.size ≤ maxLen := hm (by unfold maxLen; omega)
  refine ⟨(some ⟨w.heap.size, 0, none⟩, cs.size, cs.toList.take n), w.drew.drew.alloc (.cells cs e), ?_, ⟨rfl, rfl, rfl, by simp, fun k hk => Below.heap_alloc w.drew.drew _ k hk⟩, ⟨hge, by simp; omega⟩, ⟨fun r hr => ?_, by simp, fun _ h => (by cases h), fun _ h => (by cases h)⟩⟩
  · rw [show ([Value.int .i64 (n : Int)] : List Value).toArray = #[.int .i64 (n : Int)] from rfl, run_callFunc_extern hf hname hb hn he, hrun]
    rfl
  · simp only [List.mem_singleton] at hr
    subst hr
    refine ⟨⟨by simp; omega, .inr ⟨w.heap.size, cs, (0, 0), rfl, heap_alloc_new w.drew.drew _, .inl (Nat.le_refl _), hge, hcm, Nat.le_of_eq (Nat.mul_one _), by simp⟩⟩, fun b ⟨ad, ha, hb⟩ => ?_⟩
    simp only [Option.some.injEq] at ha
    subst ha
    subst hb
    exact ⟨by simp [World.alloc], .inl (Nat.le_refl _)⟩
theorem wrap_u64 (x : Int) : IntKind.wrap .u64 x = x % 18446744073709551616 := by
  simp [IntKind.wrap, IntKind.bits, IntKind.signed]
theorem wr_u64 {x : Int} (h : 0 ≤ x ∧ x < 18446744073709551616) : Value.int .u64 (IntKind.wrap .u64 x) = .int .u64 x := by rw [wrap_u64]; congr 1; omega
theorem rep_len {v : Value} {xs : List Value} {k j n : Nat} (hxl : xs.length = n) (h : k + j ≤ n) : (xs.take k ++ List.replicate j v ++ xs.drop (k + (List.replicate j v).length)).length = n := by
  simp; omega
theorem rep_step {v : Value} {xs : List Value} {k j : Nat} (hrep : xs.take k = List.replicate k v) : (xs.take k ++ List.replicate j v ++ xs.drop (k + (List.replicate j v).length)).take (k + j) = List.replicate (k + j) v := by
  rw [hrep, List.replicate_append_replicate, List.take_append_of_le_length (by simp)]
  simp
theorem rep_src {v : Value} {xs : List Value} {k j : Nat} (hrep : xs.take k = List.replicate k v) (hj : j ≤ k) : List.replicate j v = xs.take (List.replicate j v).length := by
  have : xs.take j = (xs.take k).take j := by rw [List.take_take]; congr 1; omega
  rw [List.length_replicate, this, hrep, List.take_replicate]
  congr 1
  omega
theorem byC_replicate (n : Nat) (x : UInt8) : byC (List.replicate n x) = List.replicate n (.int .u8 (x.toNat : Int)) := by simp [byC]
end Go.Sym
