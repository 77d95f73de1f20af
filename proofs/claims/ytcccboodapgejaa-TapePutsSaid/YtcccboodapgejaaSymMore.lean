/-
  More library functions over any program: a new row of bytes that are not known.
-/
import Derived.Test.YtcccboodapgejaaSymLib
import Derived.Lib.MakeNoZero
namespace Go.Sym
open Go.RowKit

theorem ext_makeNoZero {P : Program} {f : FuncId} {fn : Func} {ps : Array TypeId} {t e : TypeId} (hf : P.funcs[f]? = some fn) (hname : (fn.name == "runtime.NumGoroutine") = false)
    (hb : fn.body.isNone = true) (hn : Extern.findNext fn = none) (he : Extern.find fn = some (Extern.BytealgMakeNoZero.makeNoZero ps #[t])) (ht : P.underlying t = some (.slice e)) (n : Nat) (hle : n ≤ 65536) :
    ExtOk P f [.int .i64 (n : Int)] (U := Option Addr × Nat × List Value) (fun u => .slice u.1 n u.2.1) (fun u => [.row u.1 u.2.1 e 1 n u.2.2]) (fun u => n ≤ u.2.1 ∧ u.2.2.length = n) := by
  intro w
  obtain ⟨cs, hrun, hge, hm⟩ := Lib.run_makeNoZero (P := P) w ps t e ht n (by omega)
  have hcm : cs.size ≤ maxLen := hm (by unfold maxLen; omega)
  refine ⟨(some ⟨w.heap.size, 0, none⟩, cs.size, cs.toList.take n), w.drew.drew.alloc (.cells cs e), ?_, ⟨rfl, rfl, rfl, by simp, fun k hk => Below.heap_alloc w.drew.drew _ k hk⟩, ⟨hge, by simp; omega⟩, newRow1 ⟨by simp; omega, .inr ⟨w.heap.size, cs, (0, 0), rfl, heap_alloc_new w.drew.drew _, .inl (Nat.le_refl _), hge, hcm, Nat.le_of_eq (Nat.mul_one _), by simp⟩⟩ ?_⟩
  · rw [show ([Value.int .i64 (n : Int)] : List Value).toArray = #[.int .i64 (n : Int)] from rfl, run_callFunc_extern hf hname hb hn he, hrun]
    rfl
  · intro a ha
    simp only [Option.some.injEq] at ha
    subst ha
    exact ⟨Nat.le_refl _, by simp [World.alloc]⟩

/-! ### unsigned words -/
theorem wrap_u64 (x : Int) : IntKind.wrap .u64 x = x % 18446744073709551616 := by
  simp [IntKind.wrap, IntKind.bits, IntKind.signed]
theorem wr_u64 {x : Int} (h : 0 ≤ x ∧ x < 18446744073709551616) : Value.int .u64 (IntKind.wrap .u64 x) = .int .u64 x := by rw [wrap_u64]; congr 1; omega
theorem wv_u64 {x y : Int} (h : x = y) (h2 : 0 ≤ y ∧ y < 18446744073709551616) : Value.int .u64 (IntKind.wrap .u64 x) = .int .u64 y := by rw [h, wr_u64 h2]
theorem shr0 {k : IntKind} {x : Int} {n : Nat} (h : 0 ≤ x ∧ x < 2 ^ n) : Value.int k (Int.fdiv x (2 ^ n)) = .int k 0 := by
  congr 1
  rw [Int.fdiv_eq_ediv_of_nonneg _ (by omega)]
  exact Int.ediv_eq_zero_of_lt h.1 h.2
theorem fdivE {k : IntKind} (x : Int) (n : Nat) {m : Int} (h : (2 : Int) ^ n = m) : Value.int k (Int.fdiv x (2 ^ n)) = .int k (x / m) := by
  rw [h, Int.fdiv_eq_ediv_of_nonneg]
  rw [← h]
  exact Int.pow_nonneg (by decide)
theorem mask32 {n : Nat} (h : n ≤ 4294967295) : Value.int .u64 (bits .and .u64 (n : Int) 4294967295) = .int .u64 (n : Int) := by
  congr 1
  simp [bits, IntKind.bits]
  have e : (BitVec.ofNat 64 n &&& 4294967295#64).toNat = n := by
    have h1 : n % 2 ^ 64 = n := Nat.mod_eq_of_lt (by omega)
    have h2 : n &&& 4294967295 = n % 2 ^ 32 := Nat.and_two_pow_sub_one_eq_mod n 32
    simp only [BitVec.toNat_and, BitVec.toNat_ofNat, h1]
    simp only [Nat.reducePow, Nat.reduceMod] at h2 ⊢
    rw [h2]
    omega
  refine (congrArg (fun m : Nat => IntKind.wrap .u64 (m : Int)) e).trans ?_
  show IntKind.wrap .u64 (n : Int) = _
  rw [wrap_u64]
  omega

/-! ### one byte, many times -/
theorem rep_len {v : Value} {xs : List Value} {k j n : Nat} (hxl : xs.length = n) (h : k + j ≤ n) : (xs.take k ++ List.replicate j v ++ xs.drop (k + (List.replicate j v).length)).length = n := by
  simp; omega
theorem rep_step {v : Value} {xs : List Value} {k j : Nat} (hrep : xs.take k = List.replicate k v) : (xs.take k ++ List.replicate j v ++ xs.drop (k + (List.replicate j v).length)).take (k + j) = List.replicate (k + j) v := by
  rw [hrep, List.replicate_append_replicate, List.take_append_of_le_length (by simp)]
  simp
theorem rep_src {v : Value} {xs : List Value} {k j : Nat} (hrep : xs.take k = List.replicate k v) (hj : j ≤ k) : List.replicate j v = xs.take (List.replicate j v).length := by
  have : xs.take j = (xs.take k).take j := by rw [List.take_take]; congr 1; omega
  rw [List.length_replicate, this, hrep, List.take_replicate]
  congr 1
  omega
theorem byC_replicate (n : Nat) (x : UInt8) : byC (List.replicate n x) = List.replicate n (.int .u8 (x.toNat : Int)) := by simp [byC]

/-! ### contracts in other words -/
theorem CallOk.mono {P : Program} {f : FuncId} {args : List Value} {need need' : List Res} {U U' : Type} {val : U → Value} {val' : U' → Value} {new : U → List Res} {new' : U' → List Res} {facts : U → Prop} {facts' : U' → Prop}
    (h : CallOk P f args need val new facts) (hn : ∀ w, NeedOk w need' → NeedOk w need)
    (hk : ∀ u, facts u → ∃ u', val u = val' u' ∧ facts' u' ∧ ∀ w w', NewOk w w' (new u) → NewOk w w' (new' u')) : CallOk P f args need' val' new' facts' := by
  intro w hw
  refine (h w (hn w hw)).mono ?_
  rintro e w' ⟨u, rfl, hb, hf, hnew⟩
  obtain ⟨u', h1, h2, h3⟩ := hk u hf
  exact ⟨u', by rw [h1], hb, h2, h3 _ _ hnew⟩
theorem NewOk.look {w w' : World} {new new' : List Res} (h : NewOk w w' new) (hl : ∀ r' ∈ new', r'.mut = false ∧ ∃ r ∈ new, (r.ok w' → r'.ok w') ∧ ∀ b, r'.fp b → r.fp b) : NewOk w w' new' := by
  refine ⟨fun r' hr' => ?_, ?_⟩
  · obtain ⟨_, r, hr, h1, h2⟩ := hl r' hr'
    exact ⟨h1 (h.1 r hr).1, fun b hb => (h.1 r hr).2 b (h2 b hb)⟩
  · refine List.pairwise_iff_getElem.2 fun i j hi hj _ hm => ?_
    rw [(hl _ (List.getElem_mem hi)).1, (hl _ (List.getElem_mem hj)).1] at hm
    rcases hm with h | h <;> cases h
/-- a row handed over where a view is asked for -/
theorem NeedOk.rowView {w : World} {A : Option Addr} {c e size n : Nat} {xs : List Value} {rest : List Res} (el : Nat → List Value) (hel : ∀ i, i < n → (el i).length = size ∧ ∀ j v, (el i)[j]? = some v → xs[i * size + j]? = some v)
    (h : NeedOk w (.row A c e size n xs :: rest)) : NeedOk w (.view A n c size el :: rest) := by
  intro r hr
  rcases List.mem_cons.1 hr with rfl | hr
  · have := h _ (List.mem_cons_self ..)
    exact ⟨row_view this.1 hel, fun b ⟨_, hb⟩ => this.2 b hb⟩
  · exact h r (List.mem_cons_of_mem _ hr)

/-! ### two lists of bytes, byte by byte -/
theorem eq_more {bs cs : List UInt8} {k : Nat} (he : ∀ j, j < k → bs.getD j 0 = cs.getD j 0) (h : ((bs.getD k 0).toNat : Int) = ((cs.getD k 0).toNat : Int)) : ∀ j, j < k + 1 → bs.getD j 0 = cs.getD j 0 := by
  intro j hj
  by_cases hjk : j < k
  · exact he j hjk
  · have : j = k := by omega
    subst this
    exact UInt8.toNat_inj.1 (by omega)
theorem eq_len {bs cs : List UInt8} {n m : Nat} (hl : bs.length = n) (hm : cs.length = m) (h : n ≠ m) : decide (bs = cs) = false := by
  refine decide_eq_false fun e => h ?_
  rw [← hl, ← hm, e]
theorem eq_all {bs cs : List UInt8} {n : Nat} (hl : bs.length = n) (hm : cs.length = n) (he : ∀ j, j < n → bs.getD j 0 = cs.getD j 0) : decide (bs = cs) = true := by
  refine decide_eq_true (List.ext_getElem (by omega) fun i h1 h2 => ?_)
  have := he i (by omega)
  simpa [h1, h2] using this
theorem eq_diff {bs cs : List UInt8} {n k : Nat} (_hl : bs.length = n) (_hm : cs.length = n) (_hk : k < n) (h : ((bs.getD k 0).toNat : Int) ≠ ((cs.getD k 0).toNat : Int)) : decide (bs = cs) = false := by
  refine decide_eq_false fun e => h ?_
  rw [e]
end Go.Sym
