/-
  Layer 23 (tape) in plain Lean: what the models of the program and of the reference give. No program in it.
-/
import Derived.Test.YtcccboodapgejaaVMod
namespace Go.Cap
open Go Go.Sym

theorem grd_pos {α : Type} {p : Prop} [Decidable p] {k : Option α} (h : p) : grd p k = k := by unfold grd; rw [if_pos h]
theorem jn_eq {F γ : Type} (k : F) (t : F → γ) : jn k t = t k := rfl
theorem w64n {n : Nat} (h : n < 9223372036854775808) : w64 (n : Int) = n := w64_eq (by omega)
theorem w64s {n : Nat} (h : n < 9223372036854775807) : w64 ((n : Int) + 1) = ((n + 1 : Nat) : Int) := by rw [w64_eq (by omega)]; omega

/-! ### Check -/
def lblBad (l : TLabel) : Bool := decide (l.H < 0) || decide (23 < l.H) || decide (l.M < 0) || decide (59 < l.M) || decide (l.S < 0) || decide (59 < l.S) || decide (l.F < 0) || decide (29 < l.F)
def lblOk (l : TLabel) : Bool := decide (0 ≤ l.H ∧ l.H ≤ 23 ∧ 0 ≤ l.M ∧ l.M ≤ 59 ∧ 0 ≤ l.S ∧ l.S ≤ 59 ∧ 0 ≤ l.F ∧ l.F ≤ 29)
def chk (b : TBlock) : Int :=
  if b.Group < 0 ∨ 255 < b.Group ∨ b.Number < 0 ∨ 65535 < b.Number then 2
  else if (240 ≤ b.Extension.toNat ∧ b.Extension.toNat < 255) ∨ 3 < b.Status.toNat then 3
  else if lblOk b.In = false ∨ lblOk b.Out = false then 2
  else if b.In.Drop = true ∨ b.Out.Drop = true then 13
  else if b.Row < 0 ∨ 15 ≤ b.Row then 2
  else if b.Align.toNat < 1 ∨ 3 < b.Align.toNat then 3
  else if 112 < b.Text.length then 9
  else if b.Text.contains 143 = true then 4
  else 0
theorem timed_eq (N : Nat) (l : TLabel) : tape_timed N l = some (if lblOk l then 0 else 2) := by
  unfold tape_timed lblOk
  rw [Bool.cond_eq_ite]
  split
  · rename_i h
    simp only [Bool.or_eq_true, decide_eq_true_eq] at h
    rw [if_neg (by simp only [decide_eq_true_eq]; omega)]
  · rename_i h
    simp only [Bool.or_eq_true, decide_eq_true_eq] at h
    rw [if_pos (by simp only [decide_eq_true_eq]; omega)]
theorem within_eq (N : Nat) (x lo hi : Int) : r23_within N x lo hi = some (decide (lo ≤ x ∧ x ≤ hi)) := by
  unfold r23_within
  rw [Bool.decide_and]
theorem clock_eq (N : Nat) (l : TLabel) : r23_clock N l = some (lblOk l) := by
  unfold r23_clock lblOk
  simp only [within_eq, Option.bind_some, Bool.cond_eq_ite, decide_eq_true_eq]
  by_cases h1 : 0 ≤ l.H ∧ l.H ≤ 23
  · rw [if_pos h1]
    by_cases h2 : 0 ≤ l.M ∧ l.M ≤ 59
    · rw [if_pos h2]
      by_cases h3 : 0 ≤ l.S ∧ l.S ≤ 59
      · rw [if_pos h3]
        congr 1
        rw [decide_eq_decide]
        omega
      · rw [if_neg h3]
        congr 1
        rw [eq_comm, decide_eq_false_iff_not]
        omega
    · rw [if_neg h2]
      congr 1
      rw [eq_comm, decide_eq_false_iff_not]
      omega
  · rw [if_neg h1]
    congr 1
    rw [eq_comm, decide_eq_false_iff_not]
    omega
theorem u8_lit (x : UInt8) (n : Nat) (h : n < 256) : (((x.toNat : Nat) : Int) == (n : Int)) = (x == UInt8.ofNat n) := by
  rw [Bool.eq_iff_iff]
  simp only [beq_iff_eq]
  refine ⟨fun e => UInt8.toNat_inj.1 ?_, fun e => ?_⟩
  · rw [UInt8.toNat_ofNat']; omega
  · rw [e, UInt8.toNat_ofNat']; omega
theorem filled_loop (N : Nat) (bs : List UInt8) (hb : bs.length < 4611686018427387904) (jk : Option Bool) (hj : jk = some false) : ∀ (n k : Nat), k ≤ bs.length → bs.length < n + k → r23_filled_L2 N bs jk n (k : Int) = some ((bs.drop k).contains 143)
  | 0, k, hk, hn => by omega
  | n + 1, k, hk, hn => by
    rw [r23_filled_L2]
    by_cases h : k < bs.length
    · rw [show decide ((k : Int) < (bs.length : Int)) = true from decide_eq_true (by omega), cond_true, grd_pos (by omega), Int.toNat_natCast, w64s (by omega), filled_loop N bs hb jk hj n (k + 1) (by omega) (by omega)]
      rw [List.drop_eq_getElem_cons h, show bs.getD k 0 = bs[k] from by simp [h], List.contains_cons]
      rw [show (143 : Int) = ((143 : Nat) : Int) from rfl, u8_lit _ 143 (by decide)]
      have : (UInt8.ofNat 143) = 143 := rfl
      rw [this, BEq.comm (a := bs[k])]
      cases (143 == bs[k]) <;> rfl
    · rw [show decide ((k : Int) < (bs.length : Int)) = false from decide_eq_false (by omega), cond_false, hj, List.drop_of_length_le (by omega)]
      rfl
theorem filled_eq (N : Nat) (bs : List UInt8) (hb : bs.length < N) (h2 : bs.length < 4611686018427387904) : r23_filled N bs = some (bs.contains 143) := by
  unfold r23_filled
  rw [jn_eq]
  have := filled_loop N bs h2 (some false) rfl N 0 (Nat.zero_le _) (by omega)
  simpa using this
theorem cs {α : Type} {b : Bool} {p : Prop} [Decidable p] {X Y : Option α} {x y : α} (h : b = true ↔ p) (hx : X = some x) (hy : Y = some y) : cond b X Y = some (if p then x else y) := by
  by_cases hp : p
  · rw [h.2 hp, if_pos hp]; exact hx
  · rw [show b = false from by rw [Bool.eq_false_iff]; exact fun e => hp (h.1 e), if_neg hp]; exact hy
theorem cs2 {α : Type} {b c : Bool} {p : Prop} [Decidable p] {X Y : Option α} {x y : α} (h : (b || c) = true ↔ p) (hx : X = some x) (hy : Y = some y) : cond b X (cond c X Y) = some (if p then x else y) := by
  rw [← cs h hx hy]
  cases b <;> rfl
theorem ne2 (b : Bool) : ((if b = true then (0 : Int) else 2) != 0) = !b := by cases b <;> rfl
theorem check_eq (N : Nat) (b : TBlock) : tape_Check N b = some (chk b) := by
  unfold tape_Check chk
  simp only [timed_eq, Option.bind_some, bytes_IndexByte, ne2, ixB_ge]
  refine cs (by simp only [Bool.or_eq_true, decide_eq_true_eq]; omega) rfl ?_
  refine cs (by simp only [Bool.or_eq_true, Bool.and_eq_true, decide_eq_true_eq]; omega) rfl ?_
  refine cs2 (by simp) rfl ?_
  refine cs (by simp) rfl ?_
  refine cs (by simp only [Bool.or_eq_true, decide_eq_true_eq]) rfl ?_
  refine cs (by simp only [Bool.or_eq_true, decide_eq_true_eq]; omega) rfl ?_
  refine cs (by simp only [decide_eq_true_eq]; omega) rfl ?_
  exact cs Iff.rfl rfl rfl
theorem rcheck_eq (N : Nat) (b : TBlock) (hN : 112 < N) : r23_Check N b = some (chk b) := by
  unfold r23_Check chk
  simp only [within_eq, clock_eq, Option.bind_some]
  refine cs2 (by simp only [Bool.or_eq_true, Bool.not_eq_true', decide_eq_false_iff_not]; omega) rfl ?_
  refine cs (by simp only [Bool.or_eq_true, Bool.and_eq_true, decide_eq_true_eq]; omega) rfl ?_
  refine cs2 (by simp) rfl ?_
  refine cs (by simp) rfl ?_
  refine cs (by simp only [Bool.not_eq_true', decide_eq_false_iff_not]; omega) rfl ?_
  refine cs (by simp only [Bool.or_eq_true, decide_eq_true_eq]; omega) rfl ?_
  by_cases h : 112 < b.Text.length
  · rw [show decide (112 < (b.Text.length : Int)) = true from decide_eq_true (by omega), cond_true, if_pos h]
  · rw [show decide (112 < (b.Text.length : Int)) = false from decide_eq_false (by omega), cond_false, if_neg h, filled_eq N _ (by omega) (by omega)]
    exact cs Iff.rfl rfl rfl

/-! ### Put -/
theorem chk_ok {b : TBlock} (h : chk b = 0) : (0 ≤ b.Group ∧ b.Group ≤ 255) ∧ (0 ≤ b.Number ∧ b.Number ≤ 65535) ∧ ¬ ((240 ≤ b.Extension.toNat ∧ b.Extension.toNat < 255) ∨ 3 < b.Status.toNat) ∧ lblOk b.In = true ∧ lblOk b.Out = true ∧ b.In.Drop = false ∧ b.Out.Drop = false ∧ (0 ≤ b.Row ∧ b.Row ≤ 14) ∧ (1 ≤ b.Align.toNat ∧ b.Align.toNat ≤ 3) ∧ b.Text.length ≤ 112 ∧ b.Text.contains 143 = false := by
  unfold chk at h
  split at h
  · cases h
  split at h
  · cases h
  split at h
  · cases h
  split at h
  · cases h
  split at h
  · cases h
  split at h
  · cases h
  split at h
  · cases h
  split at h
  · cases h
  rename_i h1 h2 h3 h4 h5 h6 h7 h8
  simp only [not_or, Bool.not_eq_true, Bool.not_eq_false] at h3 h4 h8
  exact ⟨by omega, by omega, h2, h3.1, h3.2, h4.1, h4.2, by omega, by omega, by omega, h8⟩
def hdr (b : TBlock) : List UInt8 := [b8 b.Group, b8 b.Number, b8 (b.Number / 256), b.Extension, b.Status, b8 b.In.H, b8 b.In.M, b8 b.In.S, b8 b.In.F, b8 b.Out.H, b8 b.Out.M, b8 b.Out.S, b8 b.Out.F, b8 b.Row, b.Align, if b.Comment = true then 1 else 0]
def putB (b : TBlock) : List UInt8 := if chk b = 0 then hdr b ++ b.Text ++ List.replicate (112 - b.Text.length) 143 else []
theorem jn_cond {α β : Type} (k : α → β) (c : Bool) (x y : α) : jn k (fun j => cond c (j x) (j y)) = k (if c = true then x else y) := by cases c <;> rfl
theorem put_eq (N : Nat) (b : TBlock) : tape_Put N b = some (putB b, chk b) := by
  unfold tape_Put putB
  rw [check_eq, Option.bind_some, jn_cond]
  by_cases h : chk b = 0
  · obtain ⟨_, _, _, _, _, _, _, _, _, hl, _⟩ := chk_ok h
    rw [h, if_pos rfl, show ((0 : Int) != 0) = false from rfl, cond_false]
    rw [grd_pos (by omega)]
    have e1 : ([b8 b.Group, b8 b.Number, b8 (Int.fdiv b.Number (2 ^ 8)), b.Extension, b.Status, b8 b.In.H, b8 b.In.M, b8 b.In.S, b8 b.In.F, b8 b.Out.H, b8 b.Out.M, b8 b.Out.S, b8 b.Out.F, b8 b.Row, b.Align, if b.Comment = true then 1 else 0] : List UInt8) = hdr b := by
      unfold hdr
      rw [Int.fdiv_eq_ediv_of_nonneg _ (by decide)]
      rfl
    rw [e1]
    have e2 : (hdr b ++ b.Text).length = 16 + b.Text.length := by rw [List.length_append]; rfl
    rw [e2]
    unfold bytes_Repeat
    rw [w64_eq (by omega), grd_pos ⟨rfl, by omega, by omega⟩, Option.bind_some, show (128 - ((16 + b.Text.length : Nat) : Int)).toNat = 112 - b.Text.length by omega]
    rw [grd_pos (by rw [List.length_replicate]; omega)]
    rfl
  · rw [show (chk b != 0) = true from bne_iff_ne.2 h, cond_true, if_neg h]
theorem fill_loop (N : Nat) (m : Nat) (p : UInt8) (jk : List UInt8 → Option (List UInt8)) (hm : m ≤ 65536) : ∀ (n : Nat) (v : List UInt8), m < n + v.length → 0 < n → v.length ≤ 65536 → r23_fill_L2 N (m : Int) p jk n v = jk (v ++ List.replicate (m - v.length) p)
  | n + 1, v, h, _, h2 => by
    rw [r23_fill_L2]
    by_cases hl : v.length < m
    · rw [show decide ((v.length : Int) < (m : Int)) = true from decide_eq_true (by omega), cond_true, grd_pos (by omega), fill_loop N m p jk hm n (v ++ [p]) (by simp; omega) (by omega) (by simp; omega)]
      congr 1
      rw [List.append_assoc, List.length_append, show m - v.length = (m - (v.length + 1)) + 1 by omega]
      rfl
    · rw [show decide ((v.length : Int) < (m : Int)) = false from decide_eq_false (by omega), cond_false, show m - v.length = 0 by omega]
      simp
theorem fill_eq (N : Nat) (m : Nat) (p : UInt8) (bs : List UInt8) (hm : m < N) (h2 : m ≤ 65536) (hb : bs.length ≤ 65536) : r23_fill N bs (m : Int) p = some (bs ++ List.replicate (m - bs.length) p) := by
  unfold r23_fill
  rw [grd_pos (by omega), jn_eq, fill_loop N m p _ h2 N bs (by omega) (by omega) hb]
theorem b8_eq {x y : Int} (h : x % 256 = y % 256) : b8 x = b8 y := by unfold b8; rw [h]
theorem rput_eq (N : Nat) (b : TBlock) (hN : 112 < N) : r23_Put N b = some (putB b, chk b) := by
  unfold r23_Put putB
  rw [rcheck_eq N b hN, Option.bind_some, jn_cond]
  by_cases h : chk b = 0
  · obtain ⟨hg, hn, _, _, _, _, _, _, _, hl, _⟩ := chk_ok h
    rw [h, if_pos rfl, show ((0 : Int) != 0) = false from rfl, cond_false]
    rw [grd_pos (by decide), grd_pos (by show (5 + 8 + 3) * 1 ≤ _; decide)]
    rw [show (112 : Int) = ((112 : Nat) : Int) from rfl, fill_eq N 112 143 b.Text hN (by omega) (by omega), Option.bind_some]
    have e1 : ([b8 b.Group, b8 (Int.tmod b.Number 256), b8 (w64 (Int.tdiv b.Number 256)), b.Extension, b.Status] ++ [b8 b.In.H, b8 b.In.M, b8 b.In.S, b8 b.In.F, b8 b.Out.H, b8 b.Out.M, b8 b.Out.S, b8 b.Out.F] ++ [b8 b.Row, b.Align, if b.Comment = true then 1 else 0] : List UInt8) = hdr b := by
      unfold hdr
      rw [Int.tmod_eq_emod_of_nonneg hn.1, Int.tdiv_eq_ediv_of_nonneg hn.1, w64_eq (by omega), b8_eq (show b.Number % 256 % 256 = b.Number % 256 by omega)]
      rfl
    rw [e1, grd_pos (by rw [show (hdr b).length = 16 from rfl]; simp; omega)]
    rw [List.append_assoc]
  · rw [show (chk b != 0) = true from bne_iff_ne.2 h, cond_true, if_neg h]

/-! ### Get -/
theorem or_bytes (a b : Nat) (ha : a ≤ 255) (hb : b ≤ 255) : bits .or .i64 (a : Int) ((b : Int) * 256) = ((a + b * 256 : Nat) : Int) := by
  have e0 : ((b : Int) * 256) = ((b * 256 : Nat) : Int) := by omega
  rw [e0]
  simp only [bits, IntKind.bits]
  have e : (BitVec.ofInt 64 (a : Int) ||| BitVec.ofInt 64 ((b * 256 : Nat) : Int)).toNat = a + b * 256 := by
    simp only [BitVec.ofInt_natCast, BitVec.toNat_or, BitVec.toNat_ofNat]
    rw [Nat.mod_eq_of_lt (by omega), Nat.mod_eq_of_lt (by omega)]
    have := Nat.shiftLeft_add_eq_or_of_lt (show a < 2 ^ 8 by omega) b
    rw [Nat.shiftLeft_eq, show (2 : Nat) ^ 8 = 256 from rfl] at this
    rw [Nat.or_comm, ← this]
    omega
  have e2 : IntKind.wrap .i64 ((a + b * 256 : Nat) : Int) = ((a + b * 256 : Nat) : Int) := by rw [IntKind.wrap_i64]; omega
  refine Eq.trans ?_ e2
  exact congrArg (fun m : Nat => IntKind.wrap .i64 (m : Int)) e
/-- the bytes ahead of the first filler -/
def cutT (p : List UInt8) : List UInt8 := p.takeWhile (· != 143)
def lblAt (p : List UInt8) (i : Nat) : TLabel := ⟨((p.getD i 0).toNat : Int), ((p.getD (i + 1) 0).toNat : Int), ((p.getD (i + 2) 0).toNat : Int), ((p.getD (i + 3) 0).toNat : Int), false⟩
def getB (p : List UInt8) : TBlock := ⟨((p.getD 0 0).toNat : Int), ((p.getD 1 0).toNat : Int) + 256 * ((p.getD 2 0).toNat : Int), p.getD 3 0, p.getD 4 0, lblAt p 5, lblAt p 9, ((p.getD 13 0).toNat : Int), p.getD 14 0, ((p.getD 15 0).toNat : Int) == 1, cutT (p.drop 16)⟩
def getR (p : List UInt8) : TBlock × Int := if p.length = 128 ∧ chk (getB p) = 0 ∧ p = putB (getB p) then (getB p, 0) else (TBlock.z, 4)
theorem getD_drop (p : List UInt8) (i j : Nat) : (p.drop i).getD j 0 = p.getD (i + j) 0 := by simp [List.getD, List.getElem?_drop]
theorem rget_loop (N : Nat) (p : List UInt8) (hp : p.length ≤ 65536) (jk : List UInt8 → Option (TBlock × Int)) : ∀ (n k : Nat) (v : List UInt8), k ≤ (p.drop 16).length → (p.drop 16).length < n + k → v.length ≤ k → r23_Get_L5 N p jk n (k : Int) v = jk (v ++ cutT ((p.drop 16).drop k))
  | 0, k, v, hk, hn, hv => by omega
  | n + 1, k, v, hk, hn, hv => by
    have hd : (p.drop 16).length ≤ 65536 := by rw [List.length_drop]; omega
    rw [r23_Get_L5]
    by_cases h : k < (p.drop 16).length
    · rw [show decide ((k : Int) < ((p.drop 16).length : Int)) = true from decide_eq_true (by omega), cond_true, grd_pos (by omega), Int.toNat_natCast]
      have hc : (p.drop 16).drop k = (p.drop 16)[k] :: (p.drop 16).drop (k + 1) := List.drop_eq_getElem_cons h
      rw [hc, show (p.drop 16).getD k 0 = (p.drop 16)[k] from by simp only [List.getD, List.getElem?_eq_getElem h, Option.getD_some]]
      rw [show (143 : Int) = ((143 : Nat) : Int) from rfl, u8_lit _ 143 (by decide), show (UInt8.ofNat 143) = 143 from rfl]
      by_cases he : (p.drop 16)[k] = 143
      · rw [he, show ((143 : UInt8) == 143) = true from rfl, cond_true, cutT, List.takeWhile_cons, show ((143 : UInt8) != 143) = false from rfl]
        simp
      · rw [show ((p.drop 16)[k] == 143) = false from beq_eq_false_iff_ne.2 he, cond_false, grd_pos (by omega), w64s (by omega), rget_loop N p hp jk n (k + 1) _ (by omega) (by omega) (by simp; omega)]
        rw [cutT, cutT, List.takeWhile_cons, show ((p.drop 16)[k] != 143) = true from bne_iff_ne.2 he]
        simp
    · rw [show decide ((k : Int) < ((p.drop 16).length : Int)) = false from decide_eq_false (by omega), cond_false, List.drop_of_length_le (by omega)]
      simp [cutT]
theorem ixB_spec (bs : List UInt8) (x : UInt8) (h : 0 ≤ ixB bs x) : (ixB bs x).toNat < bs.length ∧ bs.getD (ixB bs x).toNat 0 = x ∧ ∀ j, j < (ixB bs x).toNat → bs.getD j 0 ≠ x := by
  revert h
  unfold ixB firstIdx
  have hs : (⟨bs.toArray⟩ : ByteArray).size = bs.length := by simp [ByteArray.size]
  rw [hs]
  have hget : ∀ i, i < bs.length → (⟨bs.toArray⟩ : ByteArray)[i]! = bs.getD i 0 := by
    intro i hi
    have hi' : i < (⟨bs.toArray⟩ : ByteArray).size := by rw [hs]; exact hi
    rw [getElem!_pos _ i hi']
    show bs.toArray[i] = _
    simp [hi]
  split
  · rename_i i hi
    intro _
    rw [List.find?_range_eq_some] at hi
    obtain ⟨h1, h2, h3⟩ := hi
    simp only [List.mem_range] at h2
    rw [hget i h2] at h1
    simp only [Int.toNat_natCast]
    refine ⟨h2, by simpa using h1, fun j hj => ?_⟩
    have := h3 j hj
    rw [hget j (by omega)] at this
    simpa using this
  · intro h
    omega
theorem tw_take : ∀ (p : List UInt8) (k : Nat), k < p.length → p.getD k 0 = 143 → (∀ j, j < k → p.getD j 0 ≠ 143) → cutT p = p.take k
  | [], _, h, _, _ => by cases h
  | x :: r, 0, _, h, _ => by
    have : x = 143 := by simpa using h
    subst this
    rfl
  | x :: r, k + 1, hk, h, hj => by
    have hx : x ≠ 143 := by simpa using hj 0 (by omega)
    have ih := tw_take r k (by simpa using hk) (by simpa using h) (fun j hjk => by simpa using hj (j + 1) (by omega))
    rw [cutT, List.takeWhile_cons, show (x != 143) = true from bne_iff_ne.2 hx, if_pos rfl, List.take_succ_cons, ← ih]
    rfl
theorem tw_all : ∀ (p : List UInt8), p.contains 143 = false → cutT p = p
  | [], _ => rfl
  | x :: r, h => by
    rw [List.contains_cons, Bool.or_eq_false_iff] at h
    have hx : x ≠ 143 := fun e => by subst e; cases h.1
    rw [cutT, List.takeWhile_cons, show (x != 143) = true from bne_iff_ne.2 hx, if_pos rfl]
    congr 1
    exact tw_all r h.2
theorem cutT_le (p : List UInt8) : (cutT p).length ≤ p.length := (List.takeWhile_prefix _).length_le
theorem cut_eq (N : Nat) (p : List UInt8) (hp : p.length ≤ 65536) : ∃ y f, bytes_Cut N p [143] = some (cutT p, y, f) := by
  have hi : bytes_Index N p [143] = some (ixB p 143) := by
    unfold bytes_Index
    rw [show ((([143] : List UInt8).length : Int) == 0) = false from rfl, cond_false, show ((([143] : List UInt8).length : Int) == 1) = true from rfl, cond_true, grd_pos (by decide)]
    rfl
  unfold bytes_Cut
  rw [hi, Option.bind_some, ixB_ge]
  by_cases h : p.contains 143 = true
  · have h0 : 0 ≤ ixB p 143 := by have := ixB_ge p 143; rw [h] at this; exact of_decide_eq_true this
    obtain ⟨h1, h2, h3⟩ := ixB_spec p 143 h0
    rw [h, cond_true, grd_pos ⟨h0, by omega⟩, show ((([143] : List UInt8).length : Nat) : Int) = 1 from rfl, w64_eq (by omega), grd_pos (by omega), tw_take p _ h1 h2 h3]
    exact ⟨_, _, rfl⟩
  · rw [Bool.not_eq_true] at h
    rw [h, cond_false, tw_all p h]
    exact ⟨_, _, rfl⟩
theorem times_eq (N : Nat) (p : List UInt8) (i : Nat) (h : i + 3 < p.length) : tape_times N (p.drop i) = some (lblAt p i) := by
  unfold tape_times
  rw [grd_pos (by rw [List.length_drop]; omega), grd_pos (by rw [List.length_drop]; omega), grd_pos (by rw [List.length_drop]; omega), grd_pos (by rw [List.length_drop]; omega)]
  simp only [getD_drop]
  rfl
theorem clone_eq (N : Nat) (p : List UInt8) (hp : p.length ≤ 65536) : bytes_Clone N p = some p := by
  unfold bytes_Clone bytes_Clone_some
  rw [grd_pos (by omega)]
theorem getR_tail (p : List UInt8) (h : p.length = 128) : (cond (chk (getB p) != 0) (some (TBlock.z, (4 : Int))) ((some (decide (p = putB (getB p)))).bind fun r => cond (!r) (some (TBlock.z, 4)) (some (getB p, 0)))) = some (getR p) := by
  unfold getR
  by_cases h1 : chk (getB p) = 0
  · rw [h1, show ((0 : Int) != 0) = false from rfl, cond_false, Option.bind_some]
    by_cases h2 : p = putB (getB p)
    · rw [decide_eq_true h2, if_pos ⟨h, rfl, h2⟩]
      rfl
    · rw [decide_eq_false h2, if_neg (fun e => h2 e.2.2)]
      rfl
  · rw [show (chk (getB p) != 0) = true from bne_iff_ne.2 h1, if_neg (fun e => h1 e.2.1)]
    rfl
theorem get_eq (N : Nat) (p : List UInt8) : tape_Get N p = some (getR p) := by
  unfold tape_Get
  by_cases h : p.length = 128
  · rw [show (((p.length : Nat) : Int) != 128) = false from by rw [h]; rfl, cond_false]
    obtain ⟨y, f, hc⟩ := cut_eq N (p.drop 16) (by rw [List.length_drop]; omega)
    have hl := cutT_le (p.drop 16)
    rw [List.length_drop] at hl
    iterate 6 rw [grd_pos (by omega)]
    rw [times_eq N p 5 (by omega), Option.bind_some, grd_pos (by omega), times_eq N p 9 (by omega), Option.bind_some]
    iterate 4 rw [grd_pos (by omega)]
    rw [hc, Option.bind_some, clone_eq N _ (show (cutT (p.drop 16)).length ≤ 65536 by omega), Option.bind_some]
    have hb1 := u8_rng (p.getD 1 0)
    have hb2 := u8_rng (p.getD 2 0)
    have e : bits .or .i64 ((p.getD 1 0).toNat : Int) (w64 (((p.getD 2 0).toNat : Int) * 2 ^ 8)) = ((p.getD 1 0).toNat : Int) + 256 * ((p.getD 2 0).toNat : Int) := by
      rw [show (2 : Int) ^ 8 = 256 from rfl, w64_eq (by omega), or_bytes _ _ (by omega) (by omega)]
      omega
    rw [e]
    have eB : (⟨((p.getD 0 0).toNat : Int), ((p.getD 1 0).toNat : Int) + 256 * ((p.getD 2 0).toNat : Int), p.getD 3 0, p.getD 4 0, lblAt p 5, lblAt p 9, ((p.getD 13 0).toNat : Int), p.getD 14 0, ((p.getD 15 0).toNat : Int) == 1, cutT (p.drop 16)⟩ : TBlock) = getB p := rfl
    simp only [eB, put_eq, Option.bind_some, bytes_Equal]
    exact getR_tail p h
  · rw [show (((p.length : Nat) : Int) != 128) = true from bne_iff_ne.2 (by omega), cond_true, getR, if_neg (fun e => h e.1)]
theorem rget_eq (N : Nat) (p : List UInt8) (hN : 130 < N) : r23_Get N p = some (getR p) := by
  unfold r23_Get
  by_cases h : p.length = 128
  · rw [show (((p.length : Nat) : Int) != 128) = false from by rw [h]; rfl, cond_false]
    have hf : r23_fields N p = some { getB p with Text := [] } := by
      unfold r23_fields
      iterate 16 rw [grd_pos (by omega)]
      have hb1 := u8_rng (p.getD 1 0)
      have hb2 := u8_rng (p.getD 2 0)
      rw [w64_eq (x := 256 * ((p.getD 2 0).toNat : Int)) (by omega), w64_eq (by omega)]
      rfl
    rw [hf, Option.bind_some, grd_pos (by omega), jn_eq]
    have := rget_loop N p (by omega) (fun v1 => (r23_Put N ({ getB p with Text := v1 })).bind fun r2 => cond (r2.2 != 0) (some (TBlock.z, 4)) ((r23_equal N p r2.1).bind fun r3 => cond (!r3) (some (TBlock.z, 4)) (some ({ getB p with Text := v1 }, 0)))) N 0 [] (Nat.zero_le _) (by rw [List.length_drop]; omega) (Nat.le_refl _)
    refine Eq.trans this ?_
    simp only [List.nil_append, List.drop_zero]
    have eB : ({ getB p with Text := cutT (p.drop 16) } : TBlock) = getB p := rfl
    simp only [eB, rput_eq N _ (show 112 < N by omega), Option.bind_some, r23_equal]
    exact getR_tail p h
  · rw [show (((p.length : Nat) : Int) != 128) = true from bne_iff_ne.2 (by omega), cond_true, getR, if_neg (fun e => h e.1)]

/-! ### TapeGets -/
theorem equal_loop (N : Nat) (a b : List UInt8) (hl : a.length = b.length) (hb : a.length ≤ 65536) (jk : Option Bool) (hj : jk = some true) : ∀ (n k : Nat), k ≤ a.length → a.length < n + k → slices_Equal_Lbyte_L4 N a b jk n (k : Int) = some (decide (a.drop k = b.drop k))
  | 0, k, hk, hn => by omega
  | n + 1, k, hk, hn => by
    rw [slices_Equal_Lbyte_L4]
    by_cases h : k < a.length
    · rw [show decide ((k : Int) < (a.length : Int)) = true from decide_eq_true (by omega), cond_true, grd_pos (by omega), grd_pos (by omega), Int.toNat_natCast, w64s (by omega)]
      have ha : a.drop k = a[k] :: a.drop (k + 1) := List.drop_eq_getElem_cons h
      have hb' : b.drop k = b[k] :: b.drop (k + 1) := List.drop_eq_getElem_cons (by omega)
      rw [show a.getD k 0 = a[k] from by simp [h], show b.getD k 0 = b[k] from by simp [show k < b.length by omega], ha, hb']
      by_cases he : a[k] = b[k]
      · rw [he, show (((b[k].toNat : Nat) : Int) != ((b[k].toNat : Nat) : Int)) = false from by simp, cond_false, equal_loop N a b hl hb jk hj n (k + 1) (by omega) (by omega)]
        congr 1
        rw [decide_eq_decide, List.cons.injEq]
        exact ⟨fun e => ⟨rfl, e⟩, fun e => e.2⟩
      · rw [show (((a[k].toNat : Nat) : Int) != ((b[k].toNat : Nat) : Int)) = true from bne_iff_ne.2 (fun e => he (UInt8.toNat_inj.1 (by omega))), cond_true, decide_eq_false (fun e => he (List.cons.inj e).1)]
    · rw [show decide ((k : Int) < (a.length : Int)) = false from decide_eq_false (by omega), cond_false, hj, List.drop_of_length_le (show a.length ≤ k by omega), List.drop_of_length_le (show b.length ≤ k by omega)]
      simp
theorem equal_eq (N : Nat) (a b : List UInt8) (ha : a.length < N) (hb : a.length ≤ 65536) : slices_Equal_Lbyte N a b = some (decide (a = b)) := by
  unfold slices_Equal_Lbyte
  by_cases h : a.length = b.length
  · rw [show (((a.length : Nat) : Int) != ((b.length : Nat) : Int)) = false from by rw [h]; simp, cond_false, jn_eq]
    have := equal_loop N a b h hb (some true) rfl N 0 (Nat.zero_le _) (by omega)
    simpa using this
  · rw [show (((a.length : Nat) : Int) != ((b.length : Nat) : Int)) = true from bne_iff_ne.2 (by omega), cond_true, decide_eq_false (fun e => h (by rw [e]))]
theorem same_refl (N : Nat) (b : TBlock) (h : b.Text.length < N) (hb : b.Text.length ≤ 65536) : l23_same N b b = some true := by
  unfold l23_same
  rw [equal_eq N _ _ h hb]
  simp
theorem getR_text (p : List UInt8) : (getR p).1.Text.length ≤ 65536 := by
  unfold getR
  split
  · rename_i h
    have := cutT_le (p.drop 16)
    rw [List.length_drop] at this
    show (cutT (p.drop 16)).length ≤ _
    omega
  · exact Nat.zero_le _
theorem getR_text' (p : List UInt8) : (getR p).1.Text.length ≤ 112 := by
  unfold getR
  split
  · rename_i h
    exact (chk_ok h.2.1).2.2.2.2.2.2.2.2.2.1
  · exact Nat.zero_le _
theorem awake_eq : l23_awake 1000 = some true := by decide +kernel
theorem gets_true0 (p : List UInt8) : l23_TapeGets 1000 p = some true := by
  unfold l23_TapeGets
  have hm : (min (p.length : Int) 130).toNat ≤ p.length := by omega
  generalize hq : p.take ((min (p.length : Int) 130).toNat) = q
  have hql : q.length ≤ 130 := by rw [← hq, List.length_take]; omega
  have ht := getR_text' q
  rw [awake_eq, Option.bind_some, show (!true) = false from rfl, cond_false, grd_pos ⟨by omega, hm⟩, get_eq, Option.bind_some, rget_eq _ _ (by decide), Option.bind_some, same_refl _ _ (by omega) (by omega), Option.bind_some, put_eq, Option.bind_some]
  rw [show ((!true || ((getR q).2 != (getR q).2)) = false) from by simp, cond_false]
  by_cases h : q.length = 128 ∧ chk (getB q) = 0 ∧ q = putB (getB q)
  · have e : getR q = (getB q, 0) := by unfold getR; rw [if_pos h]
    rw [e]
    show cond ((0 : Int) != 0) _ (cond (chk (getB q) == 0) _ _) = _
    rw [h.2.1, show ((0 : Int) != 0) = false from rfl, cond_false, show ((0 : Int) == 0) = true from rfl, cond_true, equal_eq _ _ _ (by omega) (by omega), decide_eq_true h.2.2]
    rfl
  · have e : getR q = (TBlock.z, 4) := by unfold getR; rw [if_neg h]
    rw [e]
    rfl
end Go.Cap
