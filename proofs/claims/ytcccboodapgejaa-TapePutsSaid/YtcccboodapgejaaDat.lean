/-
  The data of layer 23 (tape) as plain Lean: labels, blocks, and what the functions of the program compute. No program in it.
-/
import Derived.Test.YtcccboodapgejaaSymLib
namespace Go.Proofs.Ytcccboodapgejaa
open Go.Sym

structure Lbl where
  h : Int
  m : Int
  s : Int
  f : Int
  d : Bool
structure Blk where
  g : Int
  n : Int
  e : Int
  t : Int
  i : Lbl
  o : Lbl
  r : Int
  a : Int
  c : Bool

/-- a label is out of range -/
def lblBad (l : Lbl) : Bool := decide (l.h < 0) || decide (23 < l.h) || decide (l.m < 0) || decide (59 < l.m) || decide (l.s < 0) || decide (59 < l.s) || decide (l.f < 0) || decide (29 < l.f)
def timedV (l : Lbl) : Int := if lblBad l = true then 2 else 0
def checkV (b : Blk) (t : List UInt8) : Int :=
  if (decide (b.g < 0) || decide (255 < b.g) || decide (b.n < 0) || decide (65535 < b.n)) = true then 2
  else if (decide (240 ≤ b.e) && decide (b.e < 255) || decide (3 < b.t)) = true then 3
  else if (timedV b.i != 0) = true then 2
  else if (timedV b.o != 0) = true then 2
  else if (b.i.d || b.o.d) = true then 13
  else if (decide (b.r < 0) || decide (15 ≤ b.r)) = true then 2
  else if (decide (b.a < 1) || decide (3 < b.a)) = true then 3
  else if decide (112 < (t.length : Int)) = true then 9
  else if decide (0 ≤ ixV t 143) = true then 4
  else 0
/-- a block with its text, and where the text lies -/
structure BT where
  b : Blk
  A : Option Addr
  c : Nat
  t : List UInt8
instance : Inhabited BT := ⟨⟨⟨0, 0, 0, 0, ⟨0, 0, 0, 0, false⟩, ⟨0, 0, 0, 0, false⟩, 0, 0, false⟩, none, 0, []⟩⟩
def BT.cells (x : BT) : List Value := [.int .i64 x.b.g, .int .i64 x.b.n, .int .u8 x.b.e, .int .u8 x.b.t, .int .i64 x.b.i.h, .int .i64 x.b.i.m, .int .i64 x.b.i.s, .int .i64 x.b.i.f, .bool x.b.i.d,
  .int .i64 x.b.o.h, .int .i64 x.b.o.m, .int .i64 x.b.o.s, .int .i64 x.b.o.f, .bool x.b.o.d, .int .i64 x.b.r, .int .u8 x.b.a, .bool x.b.c, .slice x.A x.t.length x.c]
def BT.res (x : BT) : Res := .view x.A x.t.length x.c 1 (byE x.t)
def BT.data (x : BT) : Blk × List UInt8 := (x.b, x.t)
def blksR (bl : List BT) : Nat → Res := fun i => (bl.getD i default).res
theorem blks_one (bl : List BT) : ∀ u ∈ bl.flatMap BT.cells, u.oneCell' = true := by
  intro u hu
  obtain ⟨x, _, hx⟩ := List.mem_flatMap.1 hu
  simp only [BT.cells, List.mem_cons, List.not_mem_nil, or_false] at hx
  rcases hx with rfl | rfl | rfl | rfl | rfl | rfl | rfl | rfl | rfl | rfl | rfl | rfl | rfl | rfl | rfl | rfl | rfl | rfl <;> rfl
theorem blksR_old (bl : List BT) (x : BT) (n : Nat) (hn : bl.length = n) : ∀ i, i < n → blksR (bl ++ [x]) i = blksR bl i := by
  intro i hi
  simp [blksR, List.getElem?_append_left (show i < bl.length by omega)]
theorem blksR_new (bl : List BT) (x : BT) (n : Nat) (hn : bl.length = n) : blksR (bl ++ [x]) n = x.res := by
  subst hn
  simp [blksR]

/-- the i-th of p pieces -/
def piece (b : Blk) (text : List UInt8) (p i : Nat) : Blk × List UInt8 := ({ b with e := if i + 1 = p then 255 else (i : Int) % 256 }, (text.drop (i * 112)).take (min text.length ((i + 1) * 112) - i * 112))
def pieces (n : Nat) : Nat := max 1 ((n + 111) / 112)
def b0 (b : Blk) : Blk := { b with e := 0 }
/-- the error of Split -/
def splitE (b : Blk) (text : List UInt8) : Int :=
  if (checkV (b0 b) [] != 0) = true then checkV (b0 b) []
  else if decide (241 < ((pieces text.length : Nat) : Int)) = true then 9
  else if decide (0 ≤ ixV text 143) = true then 4
  else 0
def splitL (b : Blk) (text : List UInt8) : List (Blk × List UInt8) := if splitE b text = 0 then (List.range (pieces text.length)).map (piece b text (pieces text.length)) else []
section
open Go.RowKit
variable {w0 w : World} {ns rs : List Res}
theorem split_fin0 (hH : Hp w0 ns rs w) (b : Blk) (text : List UInt8) (e : Int) (hE : splitE b text = e) (he : e ≠ 0) :
    ∃ u : Option Addr × Nat × List BT, Ending.returned (.tuple #[.slice none 0 0, .int .i64 e]) = .returned (.tuple #[.slice u.1 (splitL b text).length u.2.1, .int .i64 (splitE b text)]) ∧ Below w0.heap.size w0 w ∧
      u.2.2.map BT.data = splitL b text ∧ NewOk w0 w [.row u.1 u.2.1 27 18 (splitL b text).length (u.2.2.flatMap BT.cells), .fam (splitL b text).length (blksR u.2.2)] := by
  have hL : splitL b text = [] := by unfold splitL; rw [if_neg (by rw [hE]; exact he)]
  refine ⟨(none, 0, []), by rw [hL, hE]; rfl, hH.below, by rw [hL]; rfl, ?_⟩
  rw [hL]
  have h1 := (hH.nilRow 27 18).fam0 (blksR [])
  have hlen : pick ((rs ++ [Res.row none 0 27 18 0 []]) ++ [Res.fam 0 (blksR [])]) [rs.length, rs.length + 1] = [.row none 0 27 18 0 [], .fam 0 (blksR [])] := by
    simp [pick]
  exact newK h1 _ (by simp only [nodupB, List.all_cons, List.all_nil, Bool.and_true, Bool.not_eq_true']; exact Bool.eq_false_iff.2 (fun h => by have := Nat.eq_of_beq_eq_true h; omega)) hlen
theorem split_fin1 (b : Blk) (text : List UInt8) (A : Option Addr) (c k : Nat) (xs : List Value) (bl : List BT) (hH : Hp w0 ns rs w) (hr : pick rs [1, 2] = [.row A c 27 18 k xs, .fam k (blksR bl)]) (hE : splitE b text = 0) (hk : k = pieces text.length)
    (hx : xs = bl.flatMap BT.cells) (hd : bl.map BT.data = (List.range k).map (piece b text (pieces text.length))) :
    ∃ u : Option Addr × Nat × List BT, Ending.returned (.tuple #[.slice A k c, .int .i64 0]) = .returned (.tuple #[.slice u.1 (splitL b text).length u.2.1, .int .i64 (splitE b text)]) ∧ Below w0.heap.size w0 w ∧
      u.2.2.map BT.data = splitL b text ∧ NewOk w0 w [.row u.1 u.2.1 27 18 (splitL b text).length (u.2.2.flatMap BT.cells), .fam (splitL b text).length (blksR u.2.2)] := by
  have hL : splitL b text = (List.range k).map (piece b text (pieces text.length)) := by unfold splitL; rw [if_pos hE, hk]
  have hlen : (splitL b text).length = k := by rw [hL]; simp
  refine ⟨(A, c, bl), by rw [hlen, hE], hH.below, by rw [hL, hd], ?_⟩
  rw [hlen]
  subst hx
  exact newK hH [1, 2] rfl hr
end
end Go.Proofs.Ytcccboodapgejaa
