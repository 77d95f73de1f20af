/-
  Texts put together, in build order: W1 W2 W3 W4 W5 W6 W7 W8 W9 W10 W11 W12 W13.
-/
import Derived.Laws.StructEq
import Derived.WalkKit
import Derived.OrdersHeld
import Derived.Deep.LoopGhost
import Derived.Maps.AppendAt
import Derived.Lib.AppendStr
import Derived.Lib.ConvBytes
import Derived.Laws.RangeString
import Derived.ScopeJumps
import Derived.Laws.Tables
import Derived.Great.BuildSlice
import Derived.Laws.MakeOwn
set_option linter.all false

section
/-
  A machine on plain values: types, values, the state, and what an operation does. No program in it.
-/
namespace Go.W
open Go

/-! ### the same type under names of growing height: what the kernel unfolds first -/
@[reducible] def T1 (α : Type) : Type := α
@[reducible] def T2 (α : Type) : Type := T1 α
@[reducible] def T3 (α : Type) : Type := T2 α
@[reducible] def T4 (α : Type) : Type := T3 α
@[reducible] def T5 (α : Type) : Type := T4 α
@[reducible] def T6 (α : Type) : Type := T5 α

/-! ### words of models -/
def grd {α : Type} (b : Bool) (k : Option α) : Option α := cond b k none
def cnd {α : Type} (b : Bool) (x y : Option α) : Option α := match (motive := Bool → T4 (Option α)) b with
  | true => x
  | false => y
def jn {F α : Type} (k : F) (t : F → Option α) : Option α := t k
def bnd {α β : Type} (x : Option α) (k : α → Option β) : Option β := x.bind k
def fixN {V R : Type} (F : (V → Option R) → V → Option R) : Nat → V → Option R
  | 0, _ => none
  | n + 1, v => F (fixN F n) v
def iadd (a b : Int) : Int := a + b
def isub (a b : Int) : Int := a - b
def imul (a b : Int) : Int := a * b
def idiv (a b : Int) : Int := a.tdiv b
def imod (a b : Int) : Int := a.tmod b
def imin (a b : Int) : Int := min a b
def imax (a b : Int) : Int := max a b
def ieq (a b : Int) : Bool := a == b
def ine (a b : Int) : Bool := a != b
def ilt (a b : Int) : Bool := decide (a < b)
def ile (a b : Int) : Bool := decide (a ≤ b)
def toN (a : Int) : Nat := a.toNat
def ofN (a : Nat) : Int := (a : Int)
def nadd (a b : Nat) : Nat := a + b
def nsub (a b : Nat) : Nat := a - b
def nlt (a b : Nat) : Bool := decide (a < b)
def bnot (a : Bool) : Bool := !a
def band (a b : Bool) : Bool := a && b
def bor (a b : Bool) : Bool := a || b
def beqb (a b : Bool) : Bool := a == b
def bneb (a b : Bool) : Bool := a != b
def seq (a b : List UInt8) : Bool := a == b
def sne (a b : List UInt8) : Bool := a != b
def slt (a b : List UInt8) : Bool := Op.bytesLess a b
def w64 (x : Int) : Int := IntKind.wrap .i64 x
def wr (k : IntKind) (x : Int) : Int := IntKind.wrap k x
def b8 (x : Int) : UInt8 := UInt8.ofNat (x % 256).toNat
def n8 (x : UInt8) : Int := (x.toNat : Int)
def len {α : Type} (l : List α) : Int := (l.length : Int)
def nlen {α : Type} (l : List α) : Nat := l.length
def lget {α : Type} (l : List α) (i : Nat) (d : α) : α := l.getD i d
def ltake {α : Type} (n : Nat) (l : List α) : List α := l.take n
def ldrop {α : Type} (n : Nat) (l : List α) : List α := l.drop n
def lapp {α : Type} (l r : List α) : List α := l ++ r
def lset {α : Type} (l : List α) (i : Nat) (x : α) : List α := l.set i x
def lrep {α : Type} (n : Nat) (x : α) : List α := List.replicate n x
def cutl {α : Type} (xs : List α) (lo n : Nat) : List α := (xs.drop lo).take n
def putl {α : Type} (xs : List α) (lo : Nat) (ys : List α) : List α := xs.take lo ++ ys ++ xs.drop (lo + ys.length)
def enc (n : Int) : List UInt8 := (Utf8.encode n).data.toList
def bst (l : List UInt8) : ByteArray := ⟨l.toArray⟩
def decR (s : List UInt8) (i : Nat) : Int := ((Utf8.decode (bst s) i).1 : Int)
def decW (s : List UInt8) (i : Nat) : Nat := (Utf8.decode (bst s) i).2
def mhas {κ ν : Type} (e : κ → κ → Bool) : List (κ × ν) → κ → Bool
  | [], _ => false
  | x :: r, k => bor (e k x.1) (mhas e r k)
def mget {κ ν : Type} (e : κ → κ → Bool) (d : ν) : List (κ × ν) → κ → ν
  | [], _ => d
  | x :: r, k => cond (e k x.1) x.2 (mget e d r k)
def mput {κ ν : Type} (e : κ → κ → Bool) : List (κ × ν) → κ → ν → List (κ × ν)
  | [], k, v => [(k, v)]
  | x :: r, k, v => cond (e k x.1) ((k, v) :: r) (x :: mput e r k v)
def bitb (op : BinOp) (k : IntKind) (x y : Int) : Int :=
  let a := BitVec.ofInt k.bits x
  let b := BitVec.ofInt k.bits y
  match op with
  | .and => k.wrap (a &&& b).toNat
  | .or => k.wrap (a ||| b).toNat
  | .xor => k.wrap (a ^^^ b).toNat
  | _ => k.wrap (a &&& ~~~b).toNat
def shlk (k : IntKind) (x y : Int) : Int := x * 2 ^ (min y.toNat k.bits)
def shrk (k : IntKind) (x y : Int) : Int := x.fdiv (2 ^ (min y.toNat k.bits))
def inb (i n : Int) : Bool := decide (0 ≤ i ∧ i < n)
def in2 (i n : Int) : Bool := decide (0 ≤ i ∧ i ≤ n)
def in3 (l h n : Int) : Bool := decide (0 ≤ l ∧ l ≤ h ∧ h ≤ n)
def room (n : Int) (bytes : Nat) : Bool := decide (n * bytes ≤ 140737488355328)
def catOk (n : Int) : Bool := decide (n ≤ 9223372036854775807)
def mkOk (l c : Int) (bytes : Nat) : Bool := decide (0 ≤ l ∧ l ≤ c ∧ c * bytes ≤ 140737488355328)

/-! ### whatever it is -/
/-- both ways lead to one result -/
noncomputable def univ {α : Type} (k : Bool → Option α) : Option α := @ite _ (k true = k false) (Classical.propDecidable _) (k true) none
/-- all bytes that may stand there lead to one result -/
noncomputable def univL {α : Type} (n : Nat) (k : List UInt8 → Option α) : Option α := @dite _ (∃ r, ∀ l : List UInt8, l.length = n → k l = some r) (Classical.propDecidable _) (fun h => some (Classical.choose h)) (fun _ => none)

/-- the number of the type of bytes -/
def ub : Nat := 5

/-! ### types -/
inductive Ty where
  | int (k : IntKind) | u8 | bool | str
  | slice (t : Ty)
  | arr (n : Nat) (t : Ty)
  | unit
  | pair (a b : Ty)
  | st (t : Ty)
  | nptr
  | nif
  deriving DecidableEq

@[reducible] def Ty.den : Ty → Type
  | .int _ => Int
  | .u8 => UInt8
  | .bool => Bool
  | .str => List UInt8
  | .slice t => List t.den
  | .arr _ t => List t.den
  | .unit => Unit
  | .pair a b => a.den × b.den
  | .st t => t.den
  | .nptr => Unit
  | .nif => Unit

def Ty.size : Ty → Nat
  | .arr n t => n * t.size
  | .unit => 0
  | .pair a b => a.size + b.size
  | .st t => t.size
  | _ => 1

def Ty.agg : Ty → Bool
  | .arr _ _ => true
  | .st _ => true
  | _ => false

/-- a type of one cell -/
def Ty.scal : Ty → Bool
  | .int .u8 => false
  | .int _ | .u8 | .bool | .str | .slice _ | .nptr | .nif => true
  | _ => false

def Ty.zero : (t : Ty) → t.den
  | .int _ => (0 : Int)
  | .u8 => (0 : UInt8)
  | .bool => false
  | .str => []
  | .slice _ => []
  | .arr n t => lrep n t.zero
  | .unit => ()
  | .pair a b => (a.zero, b.zero)
  | .st t => t.zero
  | .nptr => ()
  | .nif => ()

/-- what stands where nothing is -/
def Ty.dflt (t : Ty) : t.den := t.zero

/-- equality of values -/
def Ty.eqv : (t : Ty) → t.den → t.den → Bool
  | .int _, x, y => ieq x y
  | .u8, x, y => ieq (n8 x) (n8 y)
  | .bool, x, y => beqb x y
  | .str, x, y => seq x y
  | .pair a b, x, y => band (a.eqv x.1 y.1) (b.eqv x.2 y.2)
  | .st t, x, y => t.eqv x y
  | _, _, _ => false
def Ty.canEq : Ty → Bool
  | .int _ | .u8 | .bool | .str => true
  | .pair a b => a.canEq && b.canEq
  | .st t => t.canEq
  | _ => false

def kEq? : (a b : IntKind) → Option (PLift (a = b))
  | .i8, .i8 => some ⟨rfl⟩
  | .i16, .i16 => some ⟨rfl⟩
  | .i32, .i32 => some ⟨rfl⟩
  | .i64, .i64 => some ⟨rfl⟩
  | .u8, .u8 => some ⟨rfl⟩
  | .u16, .u16 => some ⟨rfl⟩
  | .u32, .u32 => some ⟨rfl⟩
  | .u64, .u64 => some ⟨rfl⟩
  | _, _ => none
def nEq? (a b : Nat) : Option (PLift (a = b)) := match h : Nat.beq a b with
  | true => some ⟨Nat.eq_of_beq_eq_true h⟩
  | false => none
def Ty.eq? : (a b : Ty) → Option (PLift (a = b))
  | .int k, .int l => match kEq? k l with
    | some ⟨h⟩ => some ⟨h ▸ rfl⟩
    | none => none
  | .u8, .u8 => some ⟨rfl⟩
  | .bool, .bool => some ⟨rfl⟩
  | .str, .str => some ⟨rfl⟩
  | .slice a, .slice b => match a.eq? b with
    | some ⟨h⟩ => some ⟨h ▸ rfl⟩
    | none => none
  | .arr n a, .arr m b => match nEq? n m, a.eq? b with
    | some ⟨h⟩, some ⟨h'⟩ => some ⟨h ▸ h' ▸ rfl⟩
    | _, _ => none
  | .unit, .unit => some ⟨rfl⟩
  | .pair a b, .pair c d => match a.eq? c, b.eq? d with
    | some ⟨h⟩, some ⟨h'⟩ => some ⟨h ▸ h' ▸ rfl⟩
    | _, _ => none
  | .st a, .st b => match a.eq? b with
    | some ⟨h⟩ => some ⟨h ▸ rfl⟩
    | none => none
  | .nptr, .nptr => some ⟨rfl⟩
  | .nif, .nif => some ⟨rfl⟩
  | _, _ => none
def Ty.same (a b : Ty) : Bool := match a.eq? b with
  | some _ => true
  | none => false
def kSame (a b : IntKind) : Bool := match kEq? a b with
  | some _ => true
  | none => false
def bsel {α : Type} (b : Bool) (x y : α) : α := match (motive := Bool → T6 α) b with
  | true => x
  | false => y
def tcast {a : Ty} (b : Ty) (x : a.den) : Option b.den := match a.eq? b with
  | some ⟨h⟩ => some (h ▸ x)
  | none => none

/-! ### values -/
inductive Cell where
  | v (t : Ty) (x : t.den)
  /-- a slice: the row j, at its version -/
  | row (j hv : Nat)
  /-- a slice: a part of the row j -/
  | cut (j hv lo n : Nat)
  /-- a pointer to the cell 'off' of the box j -/
  | ptr (j off : Nat)
  /-- a pointer to the cell 'off' of the element i of the row j -/
  | el (j hv i off : Nat)
  /-- a pointer to memory that holds x for good -/
  | kp (t : Ty) (x : t.den)
  | fn (f : Nat)
  /-- a function literal, with the boxes that it captures -/
  | clo (f : Nat) (js : List Nat)
  | it (j : Nat)
  /-- the map j -/
  | mp (j : Nat)
  | nils
  | nilp
  | undef

inductive Val where
  | one (c : Cell)
  | agg (cs : List Cell)
inductive SV where
  | val (v : Val)
  | tup (l : List Val)

inductive Ob where
  /-- a variable: the number of its type, its cells -/
  | box (ti : Nat) (cs : List Cell)
  | row (hv : Nat) (t : Ty) (xs : List t.den)
  | frz (hv : Nat) (t : Ty) (xs : List t.den)
  | iter (s : List UInt8) (pos : Nat)
  | map (kt vt : Ty) (es : List (kt.den × vt.den))
  | gone

def app {α : Type} : List α → List α → List α
  | [], r => r
  | x :: l, r => x :: app l r
def nth {α : Type} : List α → Nat → Option α
  | [], _ => none
  | x :: _, 0 => some x
  | _ :: l, n + 1 => nth l n
def drp {α : Type} : Nat → List α → List α
  | 0, l => l
  | _ + 1, [] => []
  | n + 1, _ :: l => drp n l
def tke {α : Type} : Nat → List α → List α
  | 0, _ => []
  | _ + 1, [] => []
  | n + 1, x :: l => x :: tke n l
def lng {α : Type} : List α → Nat
  | [] => 0
  | _ :: l => (lng l).succ
def arrC (f : Nat → List Cell) : Nat → Nat → List Cell
  | 0, _ => []
  | n + 1, i => app (f i) (arrC f n (i + 1))

/-- the cells of a value -/
def cellsOf : (t : Ty) → t.den → List Cell
  | .unit, _ => []
  | .pair a b, x => app (cellsOf a x.1) (cellsOf b x.2)
  | .st t, x => cellsOf t x
  | .arr n t, xs => arrC (fun i => cellsOf t (lget xs i t.dflt)) n 0
  | .nptr, _ => [.nilp]
  | .int k, x => [.v (.int k) x]
  | .u8, x => [.v .u8 x]
  | .bool, x => [.v .bool x]
  | .nif, x => [.v .nif x]
  | .str, x => [.v .str x]
  | .slice t, x => [.v (.slice t) x]

def valOf (t : Ty) (x : t.den) : Val := match t.agg, cellsOf t x with
  | true, cs => .agg cs
  | false, c :: _ => .one c
  | false, [] => .one .undef

abbrev Obs := Nat → Option Ob

/-- the cells of a zero value -/
def zcells : Ty → List Cell
  | .unit => []
  | .pair a b => app (zcells a) (zcells b)
  | .st t => zcells t
  | .arr n t => arrC (fun _ => zcells t) n 0
  | .nptr => [.nilp]
  | .int k => [.v (.int k) (0 : Int)]
  | .u8 => [.v .u8 (0 : UInt8)]
  | .bool => [.v .bool false]
  | .str => [.v .str []]
  | .slice _ => [.nils]
  | .nif => [.v .nif ()]
/-- a cell that is no nil pointer -/
def Cell.solid : Cell → Bool
  | .v (.int _) _ | .v .u8 _ | .v .bool _ | .v .str _ | .v (.slice _) _ | .v .nif _ => true
  | .row _ _ | .cut _ _ _ _ | .ptr _ _ | .el _ _ _ _ | .kp _ _ | .fn _ | .clo _ _ | .it _ | .mp _ | .nils => true
  | _ => false
def solids : List Cell → Bool
  | [] => true
  | c :: r => bsel c.solid (solids r) false

/-- what a slice holds -/
def content (ob : Obs) (e : Ty) : Cell → Option (List e.den)
  | .v (.slice t) xs => tcast (a := .slice t) (.slice e) xs
  | .nils => some []
  | .row j hv => match ob j with
    | some (.row h t xs) | some (.frz h t xs) => bsel (Nat.beq h hv) (tcast (a := .slice t) (.slice e) xs) none
    | _ => none
  | .cut j hv lo n => match ob j with
    | some (.row h t xs) | some (.frz h t xs) => bsel (Nat.beq h hv) (tcast (a := .slice t) (.slice e) (cutl xs lo n)) none
    | _ => none
  | _ => none

def bldN {α : Type} (f : List Cell → Option (α × List Cell)) : Nat → List Cell → Option (List α × List Cell)
  | 0, cs => some ([], cs)
  | n + 1, cs => match f cs with
    | some (x, r) => match bldN f n r with
      | some (l, r') => some (x :: l, r')
      | none => none
    | none => none
/-- the value that cells hold, and the cells behind it -/
def bld (ob : Obs) : (t : Ty) → List Cell → Option (t.den × List Cell)
  | .unit, cs => some ((), cs)
  | .pair a b, cs => match bld ob a cs with
    | some (x, r) => match bld ob b r with
      | some (y, r') => some ((x, y), r')
      | none => none
    | none => none
  | .st t, cs => bld ob t cs
  | .arr n t, cs => bldN (bld ob t) n cs
  | .nptr, .nilp :: r => some ((), r)
  | .nptr, _ => none
  | .slice e, c :: r => match content ob e c with
    | some xs => some (xs, r)
    | none => none
  | .int k, .v t x :: r => match tcast (a := t) (.int k) x with
    | some y => some (y, r)
    | none => none
  | .u8, .v t x :: r => match tcast (a := t) .u8 x with
    | some y => some (y, r)
    | none => none
  | .nif, .v t x :: r => match tcast (a := t) .nif x with
    | some y => some (y, r)
    | none => none
  | .bool, .v t x :: r => match tcast (a := t) .bool x with
    | some y => some (y, r)
    | none => none
  | .str, .v t x :: r => match tcast (a := t) .str x with
    | some y => some (y, r)
    | none => none
  | _, _ => none
def Val.cells : Val → List Cell
  | .one c => [c]
  | .agg cs => cs
def typed (ob : Obs) (t : Ty) (v : Val) : Option t.den := match t.agg, v with
  | true, .agg cs => match bld ob t cs with
    | some (x, []) => some x
    | _ => none
  | false, .one .undef => none
  | false, .one c => match bld ob t [c] with
    | some (x, []) => some x
    | _ => none
  | _, _ => none
/-- the own rows among cells: they are to be frozen when the cells become a value -/
def rowsIn (ob : Obs) : List Cell → List (Nat × Ob)
  | [] => []
  | .row j _ :: r => match ob j with
    | some (.row h t xs) => (j, .frz h t xs) :: rowsIn ob r
    | _ => rowsIn ob r
  | .cut j _ _ _ :: r => match ob j with
    | some (.row h t xs) => (j, .frz h t xs) :: rowsIn ob r
    | _ => rowsIn ob r
  | _ :: r => rowsIn ob r

/-! ### fields -/
/-- the offset and the type of a field -/
def fieldAt : Ty → Nat → Option (Nat × Ty)
  | .pair a _, 0 => some (0, a)
  | .pair a b, n + 1 => match fieldAt b n with
    | some (o, t) => some (a.size + o, t)
    | none => none
  | t, 0 => some (0, t)
  | _, _ => none
/-- the part of a struct at an offset -/
def fieldVal : (t : Ty) → t.den → Nat → Option (Sigma Ty.den)
  | .pair a _, x, 0 => some ⟨a, x.1⟩
  | .pair _ b, x, n + 1 => fieldVal b x.2 n
  | t, x, 0 => some ⟨t, x⟩
  | _, _, _ => none
/-- cells put in at an offset -/
def setC : Nat → List Cell → List Cell → List Cell
  | 0, new, old => app new (drp (lng new) old)
  | n + 1, new, c :: old => c :: setC n new old
  | _ + 1, _, [] => []

theorem univ_some {α : Type} {k : Bool → Option α} {r : α} (h : univ k = some r) (b : Bool) : k b = some r := by
  unfold univ at h
  by_cases hk : k true = k false
  · rw [if_pos hk] at h
    cases b with
    | true => exact h
    | false => rw [← hk]; exact h
  · rw [if_neg hk] at h; cases h
theorem univ_of {α : Type} {k : Bool → Option α} {r : Option α} (h1 : k true = r) (h2 : k false = r) : univ k = r := by
  unfold univ
  rw [if_pos (by rw [h1, h2]), h1]
theorem univL_some {α : Type} {n : Nat} {k : List UInt8 → Option α} {r : α} (h : univL n k = some r) (l : List UInt8) (hl : l.length = n) : k l = some r := by
  unfold univL at h
  split at h
  · rename_i hk
    injection h with h
    rw [← h]
    exact Classical.choose_spec hk l hl
  · cases h
theorem univL_of {α : Type} {n : Nat} {k : List UInt8 → Option α} {r : α} (h : ∀ l : List UInt8, l.length = n → k l = some r) : univL n k = some r := by
  have hk : ∃ r, ∀ l : List UInt8, l.length = n → k l = some r := ⟨r, h⟩
  unfold univL
  rw [dif_pos hk]
  have h1 := Classical.choose_spec hk (List.replicate n 0) (by simp)
  rw [h (List.replicate n 0) (by simp)] at h1
  exact h1.symm

end Go.W
end

section
/-
  The machine on plain values: operations, regions, code, functions. No program in it.
-/
namespace Go.W
open Go

/-! ### vectors of values -/
@[reducible] def Vec : List Ty → Type
  | [] => Unit
  | [t] => t.den
  | t :: u :: r => t.den × Vec (u :: r)
def vcons : (t : Ty) → (ts : List Ty) → t.den → Vec ts → Vec (t :: ts)
  | _, [], x, _ => x
  | _, _ :: _, x, v => (x, v)
def vhd : (t : Ty) → (ts : List Ty) → Vec (t :: ts) → t.den
  | _, [], x => x
  | _, _ :: _, v => v.1
def vtl : (t : Ty) → (ts : List Ty) → Vec (t :: ts) → Vec ts
  | _, [], _ => ()
  | _, _ :: _, v => v.2
def vapp : (a b : List Ty) → Vec a → Vec b → Vec (app a b)
  | [], _, _, v => v
  | t :: ts, b, u, v => vcons t (app ts b) (vhd t ts u) (vapp ts b (vtl t ts u) v)
def vfst : (a b : List Ty) → Vec (app a b) → Vec a
  | [], _, _ => ()
  | t :: ts, b, v => vcons t ts (vhd t (app ts b) v) (vfst ts b (vtl t (app ts b) v))
def vsnd : (a b : List Ty) → Vec (app a b) → Vec b
  | [], _, v => v
  | t :: ts, b, v => vsnd ts b (vtl t (app ts b) v)

/-! ### kinds of values at a border: a type, and the cells that are own rows -/
def memN : Nat → List Nat → Bool
  | _, [] => false
  | x, y :: r => Nat.beq x y || memN x r
abbrev Upd := List (Nat × Ob)
/-- the row that a cell is, if it is an own one -/
def ownT (ob : Obs) : Cell → Option Upd
  | .nils => some []
  | .row j hv => match ob j with
    | some (.row h _ _) => bsel (Nat.beq h hv) (some [(j, .gone)]) none
    | _ => none
  | .cut j hv 0 _ => match ob j with
    | some (.row h _ _) => bsel (Nat.beq h hv) (some [(j, .gone)]) none
    | _ => none
  | _ => none
def masked (ob : Obs) (m : List Nat) : Nat → List Cell → Option Upd
  | _, [] => some []
  | i, c :: r => match masked ob m (i + 1) r with
    | none => none
    | some u => match memN i m with
      | true => match ownT ob c with
        | some g => some (app g u)
        | none => none
      | false => some (app (rowsIn ob [c]) u)
def Ty.wf : Ty → Bool
  | .slice t => Nat.ble 1 t.size && t.wf
  | .arr _ t => t.wf
  | .pair a b => a.wf && b.wf
  | .st t => t.wf
  | _ => true
def packV (ob : Obs) (t : Ty) (m : List Nat) (v : Val) : Option (t.den × Upd) :=
  match t.wf, typed ob t v, masked ob m 0 v.cells with
  | true, some x, some u => some (x, u)
  | _, _, _ => none
/-- own rows in the place of the values of these cells -/
def unmask (m : List Nat) (tk : Nat) : Nat → Nat → List Cell → List Cell × List Ob
  | _, _, [] => ([], [])
  | i, n, c :: r =>
    match memN i m with
    | true => match c with
      | .v (.slice e) xs => match unmask m tk (i + 1) (n + 1) r with
        | (cs, os) => (.row (tk + n) tk :: cs, .row tk e xs :: os)
      | c => match unmask m tk (i + 1) n r with
        | (cs, os) => (c :: cs, os)
    | false => match unmask m tk (i + 1) n r with
      | (cs, os) => (c :: cs, os)
/-- n: how many new objects are there already -/
def unpackV (t : Ty) (m : List Nat) (tk n : Nat) (x : t.den) : Val × List Ob :=
  match t.agg, unmask m tk 0 n (cellsOf t x) with
  | true, (cs, os) => (.agg cs, os)
  | false, (c :: _, os) => (.one c, os)
  | false, ([], os) => (.one .undef, os)

/-- no row is handed over twice -/
def hasTok (j : Nat) : Upd → Bool
  | [] => false
  | (i, _) :: r => bsel (Nat.beq i j) true (hasTok j r)
def hasGone (j : Nat) : Upd → Bool
  | [] => false
  | (i, .gone) :: r => bsel (Nat.beq i j) true (hasGone j r)
  | _ :: r => hasGone j r
def tokOk : Upd → Bool
  | [] => true
  | (j, .gone) :: r => bsel (hasTok j r) false (tokOk r)
  | (j, _) :: r => bsel (hasGone j r) false (tokOk r)

/-! ### borders -/
/-- a value; a variable in a box; a row that stays where it is -/
inductive Kd where
  | v (t : Ty) (m : List Nat)
  | b (ti : Nat) (t : Ty) (m : List Nat)
  | r (h : Nat) (e : Ty)
  | i
  /-- a map -/
  | m (kt vt : Ty)
def Kd.t : Kd → Ty
  | .v t _ => t
  | .b _ t _ => t
  | .r _ e => .slice e
  | .i => .pair .str (.int .i64)
  | .m kt vt => .slice (.pair kt vt)
def kTys : List Kd → List Ty
  | [] => []
  | k :: l => k.t :: kTys l
inductive Src where
  | val (v : Val)
  | tok (j : Nat)
inductive Piece where
  | val (v : Val)
  | ob (o : Ob)
def boxV (t : Ty) (cs : List Cell) : Val := match t.agg, cs with
  | true, cs => .agg cs
  | false, [c] => .one c
  | _, _ => .one .undef
def packB (ob : Obs) (ti : Nat) (t : Ty) (m : List Nat) (j : Nat) : Option (t.den × Upd) := match ob j with
  | some (.box ti' cs) => match Nat.beq ti' ti, packV ob t m (boxV t cs) with
    | true, some (x, u) => some (x, (j, .gone) :: u)
    | _, _ => none
  | _ => none
def packR (ob : Obs) (h : Nat) (e : Ty) (j : Nat) : Option (List e.den × Upd) := match ob j with
  | some (.row h' e' xs) => match Nat.beq h h' && Nat.ble 1 e.size, tcast (a := .slice e') (.slice e) xs with
    | true, some xs => some (xs, [(j, .gone)])
    | _, _ => none
  | _ => none
def packI (ob : Obs) (j : Nat) : Option ((List UInt8 × Int) × Upd) := match ob j with
  | some (.iter s p) => some ((s, ofN p), [(j, .gone)])
  | _ => none
def packM (ob : Obs) (kt vt : Ty) (j : Nat) : Option (List (kt.den × vt.den) × Upd) := match ob j with
  | some (.map K V es) => match tcast (a := .slice (.pair K V)) (.slice (.pair kt vt)) es with
    | some xs => some (xs, [(j, .gone)])
    | none => none
  | _ => none
def packK (ob : Obs) : (k : Kd) → Src → Option (k.t.den × Upd)
  | .v t m, .val v => packV ob t m v
  | .b ti t m, .tok j => packB ob ti t m j
  | .r h e, .tok j => packR ob h e j
  | .i, .tok j => packI ob j
  | .m kt vt, .tok j => packM ob kt vt j
  | _, _ => none
def packG (ob : Obs) : (l : List Kd) → List Src → Option (Vec (kTys l) × Upd)
  | [], [] => some ((), [])
  | k :: l, s :: ss => match packK ob k s, packG ob l ss with
    | some (x, u), some (y, u') => some (vcons k.t (kTys l) x y, app u u')
    | _, _ => none
  | _, _ => none
/-- n: how many new objects are there already -/
def unpackK (tk n : Nat) : (k : Kd) → k.t.den → Piece × List Ob
  | .v t m, x => match unpackV t m tk n x with
    | (v, os) => (.val v, os)
  | .b ti t m, x => match unmask m tk 0 n (cellsOf t x) with
    | (cs, os) => (.ob (.box ti cs), os)
  | .r h e, xs => (.ob (.row h e xs), [])
  | .i, x => (.ob (.iter x.1 (toN x.2)), [])
  | .m kt vt, x => (.ob (.map kt vt x), [])
def unpackG (tk : Nat) : (l : List Kd) → Nat → Vec (kTys l) → List Piece × List Ob
  | [], _, _ => ([], [])
  | k :: l, n, x => match unpackK tk n k (vhd k.t (kTys l) x) with
    | (p, os) => match unpackG tk l (n + lng os) (vtl k.t (kTys l) x) with
      | (ps, os') => (p :: ps, app os os')

/-! ### contracts -/
inductive PK where
  | k (k : Kd)
  | fn (f : Nat)
def kdP : List PK → List Kd
  | [] => []
  | .k k :: l => k :: kdP l
  | .fn _ :: l => kdP l
/-- what is handed back of the parameters -/
def kdB : List PK → List Kd
  | [] => []
  | .k (.b ti t m) :: l => .b ti t m :: kdB l
  | .k (.m kt vt) :: l => .m kt vt :: kdB l
  | .k (.r h e) :: l => .r h e :: kdB l
  | _ :: l => kdB l
structure Con where
  f : Nat
  ps : List PK
  rs : List Kd
  fn : Vec (kTys (kdP ps)) → Option (Vec (kTys (app rs (kdB ps))))

/-! ### an operation -/
structure Out where
  sv : SV
  new : List Ob
  upd : Upd
structure Env where
  P : Program
  ty : List (Option Ty)
  gl : List (Nat × Sigma Ty.den)
  /-- the function that makes room without clearing it -/
  nz : Option Nat
  /-- the text of a Builder, and the number of its type -/
  bs : Option (Nat × Nat)
  /-- package variables that hold some number -/
  ig : List Nat
def Env.t (E : Env) (i : Nat) : Option Ty := match nth E.ty i with
  | some (some t) => some t
  | _ => none
def lkG : List (Nat × Sigma Ty.den) → Nat → Option (Sigma Ty.den)
  | [], _ => none
  | (g, x) :: r, i => bsel (Nat.beq g i) (some x) (lkG r i)

def ofV : Value → Cell
  | .int .u8 (.ofNat n) => bsel (Nat.blt n 256) (.v .u8 (UInt8.ofNat n)) .undef
  | .int .u8 _ => .undef
  | .int k n => .v (.int k) n
  | .bool b => .v .bool b
  | .string s => .v .str s.data.toList
  | .slice none 0 0 => .nils
  | .pointer none => .nilp
  | .nilIface => .v .nif ()
  | .func (.func f) ⟨[]⟩ ⟨[]⟩ => .fn f
  | _ => .undef
def mapV : List Value → Option (List Cell)
  | [] => some []
  | v :: r => match ofV v, mapV r with
    | .undef, _ => none
    | c, some l => some (c :: l)
    | _, none => none
def svV : Value → SV
  | .agg cs => match mapV cs.toList with
    | some l => .val (.agg l)
    | none => .val (.one .undef)
  | v => .val (.one (ofV v))

def ival : Cell → Option (IntKind × Int)
  | .v (.int .u8) _ => none
  | .v (.int k) n => some (k, n)
  | .v .u8 x => some (.u8, n8 x)
  | _ => none
def mkW (k : IntKind) (n : Int) : Cell := match k with
  | .u8 => .v .u8 (b8 n)
  | .i64 => .v (.int .i64) (w64 n)
  | k => .v (.int k) (wr k n)
def mkI (k : IntKind) (n : Int) : Cell := match k with
  | .u8 => .v .u8 (b8 n)
  | k => .v (.int k) n
def isNz : Operand → Bool
  | .const (.int _ (.ofNat (_ + 1))) => true
  | .const (.int _ (.negSucc _)) => true
  | _ => false
def isNn : Operand → Bool
  | .const (.int _ (.ofNat _)) => true
  | _ => false
variable {α : Type}
def grdB (b p : Bool) (k : Option α) : Option α := match b with
  | true => k
  | false => grd p k
def binI (op : BinOp) (kx ky : IntKind) (a b : Int) (nz nn : Bool) (k : Cell → Option α) : Option α := match op with
  | .shl => grdB nn (ile 0 b) (k (mkW kx (shlk kx a b)))
  | .shr => grdB nn (ile 0 b) (k (mkI kx (shrk kx a b)))
  | op => match kSame kx ky, op with
    | false, _ => none
    | true, .add => k (mkW kx (iadd a b))
    | true, .sub => k (mkW kx (isub a b))
    | true, .mul => k (mkW kx (imul a b))
    | true, .quo => grdB nz (ine b 0) (k (mkW kx (idiv a b)))
    | true, .rem => grdB nz (ine b 0) (k (mkI kx (imod a b)))
    | true, .and => k (mkI kx (bitb .and kx a b))
    | true, .or => k (mkI kx (bitb .or kx a b))
    | true, .xor => k (mkI kx (bitb .xor kx a b))
    | true, .andNot => k (mkI kx (bitb .andNot kx a b))
    | true, .eql => k (.v .bool (ieq a b))
    | true, .neq => k (.v .bool (ine a b))
    | true, .lss => k (.v .bool (ilt a b))
    | true, .leq => k (.v .bool (ile a b))
    | true, .gtr => k (.v .bool (ilt b a))
    | true, .geq => k (.v .bool (ile b a))
    | _, _ => none
def binS (op : BinOp) (a b : List UInt8) (k : Cell → Option α) : Option α := match op with
  | .add => grd (catOk (iadd (len a) (len b))) (k (.v .str (lapp a b)))
  | .eql => k (.v .bool (seq a b))
  | .neq => k (.v .bool (sne a b))
  | .lss => k (.v .bool (slt a b))
  | .leq => k (.v .bool (bor (slt a b) (seq a b)))
  | .gtr => k (.v .bool (bnot (bor (slt a b) (seq a b))))
  | .geq => k (.v .bool (bnot (slt a b)))
  | _ => none
def binC (op : BinOp) (tb : Bool) (x y : Cell) (nz nn : Bool) (k : Cell → Option α) : Option α :=
  match ival x, ival y with
  | some (kx, a), some (ky, b) => binI op kx ky a b nz nn k
  | _, _ => match x, y with
    | .v .str a, .v .str b => binS op a b k
    | .v .bool a, .v .bool b => match tb, op with
      | true, .eql => k (.v .bool (beqb a b))
      | true, .neq => k (.v .bool (bneb a b))
      | _, _ => none
    | _, _ => none

/-- a comparison with nil whose result is known -/
def nilCmp : Option Ty → Cell → Cell → BinOp → Option Bool
  | some .nptr, .ptr _ _, .nilp, .eql => some false
  | some .nptr, .ptr _ _, .nilp, .neq => some true
  | some .nptr, .kp _ _, .nilp, .eql => some false
  | some .nptr, .kp _ _, .nilp, .neq => some true
  | some .nptr, .nilp, .nilp, .eql => some true
  | some .nptr, .nilp, .nilp, .neq => some false
  | some (.slice _), .nils, .nils, .eql => some true
  | some (.slice _), .nils, .nils, .neq => some false
  | _, _, _, _ => none
def isBool : Option Ty → Bool
  | some .bool => true
  | _ => false
/-- a tuple, or one value -/
def out1 (c : Cell) : Out := ⟨.val (.one c), [], []⟩
def outV (v : Val) : Out := ⟨.val v, [], []⟩

def cellOf : SV → Option Cell
  | .val (.one c) => some c
  | _ => none
def idx (k : IntKind × Int) : Int := k.2

def Val.ok : Val → Bool
  | .one .undef => false
  | _ => true
/-- the address of an element -/
def indexAddrC (E : Env) (ob : Obs) (t : TypeId) (x ix : Cell) (k : Cell → Option α) : Option α :=
  match E.t t, ival ix with
  | some (.slice e), some (_, i) => match x with
    | .v (.slice e') xs => match tcast (a := .slice e') (.slice e) xs with
      | some xs => grd (inb i (len xs)) (k (.kp e (lget xs (toN i) e.dflt)))
      | none => none
    | .row j hv => match ob j with
      | some (.row h e' xs) => match Nat.beq h hv && e'.same e with
        | true => grd (inb i (len xs)) (k (.el j hv (toN i) 0))
        | false => none
      | some (.frz h e' xs) => match Nat.beq h hv, tcast (a := .slice e') (.slice e) xs with
        | true, some xs => grd (inb i (len xs)) (k (.kp e (lget xs (toN i) e.dflt)))
        | _, _ => none
      | _ => none
    | .cut j hv lo n => match ob j with
      | some (.row h e' _) => match Nat.beq h hv && e'.same e with
        | true => grd (inb i (ofN n)) (k (.el j hv (nadd lo (toN i)) 0))
        | false => none
      | some (.frz h e' xs) => match Nat.beq h hv, tcast (a := .slice e') (.slice e) xs with
        | true, some xs => grd (inb i (ofN n)) (k (.kp e (lget xs (nadd lo (toN i)) e.dflt)))
        | _, _ => none
      | _ => none
    | _ => none
  | some (.arr n e), some (_, i) => match x with
    | .kp (.arr m e') xs => match Nat.beq n m, tcast (a := .slice e') (.slice e) xs with
      | true, some xs => match Nat.ble 2 n with
        | true => grd (inb i (ofN n)) (k (.kp e (lget xs (toN i) e.dflt)))
        | false => none
      | _, _ => none
    | .el j hv 0 0 => match ob j with
      | some (.row h e' xs) => match Nat.beq h hv && e'.same e with
        | true => grd (inb i (ofN n)) (grd (ilt i (len xs)) (k (.el j hv (toN i) 0)))
        | false => none
      | _ => none
    | _ => none
  | _, _ => none

/-- an element of an array or a byte of a string -/
def indexC (E : Env) (ob : Obs) (t : TypeId) (x : Val) (ix : Cell) (k : Val → Option α) : Option α :=
  match E.t t, ival ix with
  | some .str, some (_, i) => match x with
    | .one (.v .str s) => grd (inb i (len s)) (k (.one (.v .u8 (lget s (toN i) 0))))
    | _ => none
  | some (.arr n e), some (_, i) => match typed ob (.arr n e) x, rowsIn ob x.cells with
    | some xs, [] => grd (inb i (ofN n)) (k (valOf e (lget (α := e.den) xs (toN i) e.dflt)))
    | _, _ => none
  | _, _ => none

def loadC (E : Env) (ob : Obs) (t : TypeId) (a : Cell) (k : Val → Option α) : Option α :=
  match E.t t with
  | none => none
  | some T => match a with
    | .ptr j off => match ob j with
      | some (.box _ cs) => match tke T.size (drp off cs), T.agg with
        | ds, true => bsel (Nat.beq (lng ds) T.size && solids ds) (k (.agg ds)) none
        | c :: _, false => bsel c.solid (k (.one c)) none
        | [], false => none
      | _ => none
    | .kp t' x => match tcast (a := t') T x with
      | some y => k (valOf T y)
      | none => none
    | .el j hv i off => match ob j with
      | some (.row h e xs) => match Nat.beq h hv with
        | true => match T.agg, tke T.size (drp off (cellsOf e (lget xs i e.dflt))) with
          | true, ds => bsel (Nat.beq (lng ds) T.size) (k (.agg ds)) none
          | false, c :: _ => k (.one c)
          | false, [] => none
        | false => none
      | _ => none
    | _ => none

/-- an element with the cells at an offset changed -/
def setEl (ob : Obs) (e : Ty) (x : e.den) (off : Nat) (new : List Cell) : Option e.den :=
  match bld ob e (setC off new (cellsOf e x)) with
  | some (y, []) => some y
  | _ => none

/-- a whole array is put into the row of its elements -/
def wholeT : Ty → Ty → Nat → Nat → Option Nat
  | .arr n e', e, i, off => match i, off with
    | 0, 0 => bsel (e'.same e) (some n) none
    | _, _ => none
  | _, _, _, _ => none
def storeC (E : Env) (ob : Obs) (t : TypeId) (a : Cell) (x : Val) (k : Upd → Option α) : Option α :=
  match E.t t with
  | none => none
  | some T => match Nat.beq (lng x.cells) T.size && x.ok with
    | false => none
    | true => match a with
      | .ptr j off => match ob j with
        | some (.box ti cs) => bsel (Nat.ble (off + T.size) (lng cs)) (k [(j, .box ti (setC off x.cells cs))]) none
        | _ => none
      | .el j hv i off => match ob j with
        | some (.row h e xs) => match wholeT T e i off with
          | some n => match Nat.beq h hv && !hasTok j (rowsIn ob x.cells), typed ob (.arr n e) x with
            | true, some ys => grd (ieq (len xs) (ofN n)) (k (app (rowsIn ob x.cells) [(j, .row h e ys)]))
            | _, _ => none
          | none => match Nat.beq h hv && Nat.ble (off + T.size) e.size && !hasTok j (rowsIn ob x.cells), setEl ob e (lget xs i e.dflt) off x.cells with
            | true, some y => k (app (rowsIn ob x.cells) [(j, .row h e (lset xs i y))])
            | _, _ => none
        | _ => none
      | _ => none

/-- the length of a row, if it is still what is meant -/
def rowAt (ob : Obs) (j hv : Nat) (e : Ty) : Option Nat := match ob j with
  | some (.row h t xs) | some (.frz h t xs) => match Nat.beq h hv && t.same e with
    | true => some (nlen xs)
    | false => none
  | _ => none
def sliceC (E : Env) (ob : Obs) (t : TypeId) (x : Cell) (lo hi mx : Option (IntKind × Int)) (k : Cell → Option α) : Option α :=
  match E.t t, mx with
  | some .str, none => match x with
    | .v .str s => match lo, hi with
      | none, none => k (.v .str s)
      | some (_, l), none => grd (in2 l (len s)) (k (.v .str (ldrop (toN l) s)))
      | none, some (_, h) => grd (in2 h (len s)) (k (.v .str (ltake (toN h) s)))
      | some (_, l), some (_, h) => grd (in3 l h (len s)) (k (.v .str (ldrop (toN l) (ltake (toN h) s))))
    | _ => none
  | some (.slice e), none => match x with
    | .v (.slice e') xs => match tcast (a := .slice e') (.slice e) xs with
      | none => none
      | some xs => match lo, hi with
        | none, none => k (.v (.slice e) xs)
        | some (_, l), none => grd (in2 l (len xs)) (k (.v (.slice e) (ldrop (toN l) xs)))
        | none, some (_, h) => grd (in2 h (len xs)) (k (.v (.slice e) (ltake (toN h) xs)))
        | some (_, l), some (_, h) => grd (in3 l h (len xs)) (k (.v (.slice e) (ldrop (toN l) (ltake (toN h) xs))))
    | .row j hv => match rowAt ob j hv e with
      | none => none
      | some n => match lo, hi with
        | none, none => k (.row j hv)
        | some (_, l), none => grd (in2 l (ofN n)) (k (.cut j hv (toN l) (nsub n (toN l))))
        | none, some (_, h) => grd (in2 h (ofN n)) (k (.cut j hv 0 (toN h)))
        | some (_, l), some (_, h) => grd (in3 l h (ofN n)) (k (.cut j hv (toN l) (nsub (toN h) (toN l))))
    | .cut j hv lo0 n => match rowAt ob j hv e with
      | none => none
      | some _ => match lo, hi with
        | none, none => k (.cut j hv lo0 n)
        | some (_, l), none => grd (in2 l (ofN n)) (k (.cut j hv (nadd lo0 (toN l)) (nsub n (toN l))))
        | none, some (_, h) => grd (in2 h (ofN n)) (k (.cut j hv lo0 (toN h)))
        | some (_, l), some (_, h) => grd (in3 l h (ofN n)) (k (.cut j hv (nadd lo0 (toN l)) (nsub (toN h) (toN l))))
    | .nils => match lo, hi with
      | none, none => k .nils
      | some (_, l), none => grd (ieq l 0) (k .nils)
      | none, some (_, h) => grd (ieq h 0) (k .nils)
      | some (_, l), some (_, h) => grd (band (ieq l 0) (ieq h 0)) (k .nils)
    | _ => none
  | _, _ => none

/-- s[:h:m] of an own row: the row is cut off -/
def sliceMaxC (E : Env) (ob : Obs) (tk : Nat) (t : TypeId) (x : Cell) (lo hi mx : Option (IntKind × Int)) (k : Out → Option α) : Option α :=
  match E.t t, x, lo, hi, mx with
  | some (.slice e), .row j hv, none, some (_, h), some (_, m) => match ob j with
    | some (.row h' e' xs) => match Nat.beq h' hv, tcast (a := .slice e') (.slice e) xs with
      | true, some xs => grd (in3 h m (len xs)) (k ⟨.val (.one (.row j tk)), [], [(j, .row tk e (ltake (toN h) xs))]⟩)
      | _, _ => none
    | _ => none
  | _, _, _, _, _ => none

/-- what a slice or a string of bytes holds -/
def srcOf (ob : Obs) (e : Ty) (c : Cell) : Option (List e.den) := match c with
  | .v .str s => tcast (a := .slice .u8) (.slice e) s
  | c => content ob e c
/-- the row that a slice is a part of -/
def tokOf : Cell → Option Nat
  | .row j _ => some j
  | .cut j _ _ _ => some j
  | _ => none
def tokNe : Option Nat → Nat → Bool
  | none, _ => true
  | some i, j => !Nat.beq i j

def bytesT : Ty → Nat
  | .int .i8 | .int .u8 | .u8 | .bool => 1
  | .int .i16 | .int .u16 => 2
  | .int .i32 | .int .u32 => 4
  | .int _ | .nptr => 8
  | .str => 16
  | .slice _ => 24
  | _ => 0
def appendC (E : Env) (ob : Obs) (tk : Nat) (t : TypeId) (x y : Cell) (bytes : Nat) (k : Out → Option α) : Option α :=
  match E.t t with
  | some (.slice e) => match srcOf ob e y with
    | none => none
    | some ys => match x with
      | .nils => grd (room (len ys) bytes) (k ⟨.val (.one (.row tk tk)), [.row tk e ys], []⟩)
      | .row j hv => match ob j with
        | some (.row h e' xs) => match Nat.beq h hv && tokNe (tokOf y) j, tcast (a := .slice e') (.slice e) xs with
          | true, some xs => grd (room (iadd (len xs) (len ys)) bytes) (k ⟨.val (.one (.row j tk)), [], [(j, .row tk e (lapp xs ys))]⟩)
          | _, _ => none
        | _ => none
      | .cut j hv 0 n => match ob j with
        | some (.row h e' xs) => match Nat.beq h hv && tokNe (tokOf y) j, tcast (a := .slice e') (.slice e) xs with
          | true, some xs => grd (room (iadd (ofN n) (len ys)) bytes) (k ⟨.val (.one (.row j tk)), [], [(j, .row tk e (lapp (ltake n xs) ys))]⟩)
          | _, _ => none
        | _ => none
      | _ => none
  | _ => none

def copyC (E : Env) (ob : Obs) (t : TypeId) (x y : Cell) (k : Out → Option α) : Option α :=
  match E.t t with
  | some (.slice e) => match srcOf ob e y with
    | none => none
    | some ys => match x with
      | .row j hv => match ob j with
        | some (.row h e' xs) => match Nat.beq h hv, tcast (a := .slice e') (.slice e) xs with
          | true, some xs => k ⟨.val (.one (.v (.int .i64) (imin (len ys) (len xs)))), [], [(j, .row h e (putl xs 0 (ltake (nlen xs) ys)))]⟩
          | _, _ => none
        | _ => none
      | .cut j hv lo n => match ob j with
        | some (.row h e' xs) => match Nat.beq h hv, tcast (a := .slice e') (.slice e) xs with
          | true, some xs => k ⟨.val (.one (.v (.int .i64) (imin (len ys) (ofN n)))), [], [(j, .row h e (putl xs lo (ltake n ys)))]⟩
          | _, _ => none
        | _ => none
      | _ => none
  | _ => none

/-- slices of bytes of the one type; others are known for good from the start -/
def ubS (E : Env) (t : TypeId) : Bool := match E.t t with
  | some (.slice .u8) => match (E.P.underlying t : Option TypeDesc) with
    | some (.slice e) => Nat.beq e ub
    | _ => false
  | _ => true
def convC (E : Env) (ob : Obs) (tk : Nat) (src dst : TypeId) (x : Cell) (k : Out → Option α) : Option α :=
  match E.t src with
  | none => none
  | some S => match E.t dst with
    | some (.int kd) => match ival x with
      | some (_, n) => k (out1 (mkW kd n))
      | none => none
    | some .u8 => match ival x with
      | some (_, n) => k (out1 (mkW .u8 n))
      | none => none
    | some .str => match x with
      | .v .str s => k (out1 (.v .str s))
      | x => match ival x with
        | some (_, n) => k (out1 (.v .str (enc n)))
        | none => match S with
          | .slice .u8 => match content ob .u8 x with
            | some bs => k (out1 (.v .str bs))
            | none => none
          | _ => none
    | some (.slice .u8) => match x with
      | .v .str s => bsel (ubS E dst) (grd (catOk (len s)) (k ⟨.val (.one (.row tk tk)), [.row tk .u8 s], []⟩)) none
      | .row j hv => match Nat.beq src dst, ob j with
        | true, some (.row h .u8 xs) => match Nat.beq h hv with
          | true => grd (ilt 0 (len xs)) (k ⟨.val (.one (.row j hv)), [], [(j, .row h .u8 xs)]⟩)
          | false => none
        | _, _ => none
      | _ => none
    | _ => none

/-- the place of a field -/
def fieldOf : Ty → Nat → Option (Nat × Ty)
  | .st t, f => fieldAt t f
  | _, _ => none
def fieldAddrC (E : Env) (ob : Obs) (t : TypeId) (x : Cell) (f : Nat) (k : Cell → Option α) : Option α :=
  match E.t t with
  | some (.st T) => match fieldAt T f with
    | some (off, ft) => match Nat.beq ft.size 0 with
      | true => none
      | false => match x with
        | .ptr j o => k (.ptr j (o + off))
        | .el j hv i o => match ob j with
          | some (.row h _ _) => bsel (Nat.beq h hv) (k (.el j hv i (o + off))) none
          | _ => none
        | .kp t' x => match tcast (a := t') (.st T) x with
          | some y => match fieldVal T y f with
            | some ⟨ft, z⟩ => k (.kp ft z)
            | none => none
          | none => none
        | _ => none
    | none => none
  | _ => none
def fieldC (E : Env) (t : TypeId) (cs : List Cell) (f : Nat) (k : Val → Option α) : Option α :=
  match E.t t with
  | some (.st T) => match fieldAt T f with
    | some (off, ft) => match ft.agg, tke ft.size (drp off cs) with
      | true, ds => bsel (Nat.beq (lng ds) ft.size) (k (.agg ds)) none
      | false, c :: _ => k (.one c)
      | false, [] => none
    | none => none
  | _ => none

/-- the parts of a composite literal -/
def fillS (T : Ty) : List (Nat × Val) → List Cell → Option (List Cell)
  | [], cs => some cs
  | (f, v) :: r, cs => match fieldAt T f with
    | some (off, ft) => bsel (Nat.beq (lng v.cells) ft.size && Nat.ble (off + ft.size) (lng cs)) (fillS T r (setC off v.cells cs)) none
    | none => none
def fillA (n : Nat) : List (Nat × Val) → List Cell → Option (List Cell)
  | [], cs => some cs
  | (i, v) :: r, cs => bsel (Nat.beq (lng v.cells) n && Nat.ble (i * n + n) (lng cs)) (fillA n r (setC (i * n) v.cells cs)) none

def vals (g : Operand → SV) : List (Nat × Operand) → Option (List (Nat × Val))
  | [] => some []
  | (i, x) :: r => match g x, vals g r with
    | .val v, some l => match v.ok with
      | true => some ((i, v) :: l)
      | false => none
    | _, _ => none
def cellsL : List (Nat × Val) → List Cell
  | [] => []
  | (_, v) :: r => app v.cells (cellsL r)
def buildC (E : Env) (t : TypeId) (ps : List (Nat × Val)) (k : Val → Option α) : Option α :=
  match E.t t with
  | some (.st T) => match fillS T ps (zcells (.st T)) with
    | some cs => k (.agg cs)
    | none => none
  | some (.arr n e) => match fillA e.size ps (zcells (.arr n e)) with
    | some cs => k (.agg cs)
    | none => none
  | _ => none
def buildSliceC (E : Env) (ob : Obs) (tk : Nat) (t : TypeId) (n : Nat) (ps : List (Nat × Val)) (k : Out → Option α) : Option α :=
  match E.t t with
  | some (.slice e) => match Nat.ble (n * e.size) 16777216, fillA e.size ps (cellsOf (.arr n e) (Ty.zero (.arr n e))) with
    | true, some cs => match bldN (bld ob e) n cs with
      | some (xs, []) => k ⟨.val (.one (.row tk tk)), [bsel (ubS E t) (.row tk e xs) (.frz tk e xs)], rowsIn ob (cellsL ps)⟩
      | _ => none
    | _, _ => none
  | _ => none

/-! ### maps -/
def keyEq : (K : Ty) → Option (K.den → K.den → Bool)
  | .int .u8 => none
  | .int _ => some ieq
  | .str => some seq
  | _ => none
def valTy : Ty → Bool
  | .int .u8 => false
  | .int _ | .bool => true
  | _ => false
/-- the types of the keys and of the values of a map -/
def mapTy (E : Env) (t : TypeId) : Option (Ty × Ty) := match (E.P.underlying t : Option TypeDesc) with
  | some (.map kt vt) => match E.t kt, E.t vt with
    | some K, some V => bsel (valTy V) (some (K, V)) none
    | _, _ => none
  | _ => none
def mapIs (E : Env) (t : TypeId) (K V : Ty) : Bool := match mapTy E t with
  | some (K', V') => K'.same K && V'.same V
  | none => false
def makeMapC (E : Env) (tk : Nat) (t : TypeId) (k : Out → Option α) : Option α := match mapTy E t with
  | some (K, V) => match keyEq K with
    | some _ => k ⟨.val (.one (.mp tk)), [.map K V []], []⟩
    | none => none
  | none => none
def mapUpC (E : Env) (ob : Obs) (t : TypeId) (m : Cell) (x y : Val) (k : Out → Option α) : Option α := match m with
  | .mp j => match ob j with
    | some (.map K V es) => match mapIs E t K V, keyEq K, typed ob K x, typed ob V y with
      | true, some e, some kx, some vy => k ⟨.val (.one .undef), [], [(j, .map K V (mput e es kx vy))]⟩
      | _, _, _, _ => none
    | _ => none
  | _ => none
def lookC (E : Env) (ob : Obs) (t : TypeId) (m : Cell) (x : Val) (ok : Bool) (k : Out → Option α) : Option α := match m with
  | .mp j => match ob j with
    | some (.map K V es) => match mapIs E t K V, keyEq K, typed ob K x with
      | true, some e, some kx => match ok with
        | true => k ⟨.tup [.one (.v V (mget e V.dflt es kx)), .one (.v .bool (mhas e es kx))], [], []⟩
        | false => k (out1 (.v V (mget e V.dflt es kx)))
      | _, _, _ => none
    | _ => none
  | _ => none

/-! ### calls -/
/-- what is handed over -/
def argS : List PK → List SV → Option (List Src)
  | [], [] => some []
  | .k (.v _ _) :: l, .val v :: as => match argS l as with
    | some ss => some (.val v :: ss)
    | none => none
  | .k (.b _ _ _) :: l, .val (.one (.ptr j 0)) :: as => match argS l as with
    | some ss => some (.tok j :: ss)
    | none => none
  | .k (.m _ _) :: l, .val (.one (.mp j)) :: as => match argS l as with
    | some ss => some (.tok j :: ss)
    | none => none
  | .k (.r h _) :: l, .val (.one (.row j hv)) :: as => match Nat.beq hv h, argS l as with
    | true, some ss => some (.tok j :: ss)
    | _, _ => none
  | .fn f :: l, .val (.one (.fn f')) :: as => bsel (Nat.beq f f') (argS l as) none
  | _, _ => none
/-- the variables that come back -/
def tokB : List Src → List Nat
  | [] => []
  | .tok j :: l => j :: tokB l
  | .val _ :: l => tokB l
def valsP : List Kd → List Piece → List Val
  | .v _ _ :: l, .val v :: ps => v :: valsP l ps
  | _, _ => []
/-- what comes back into the variables -/
def backU : List Nat → List Piece → Upd
  | j :: l, .ob o :: ps => (j, o) :: backU l ps
  | [], _ => []
  | l, .val _ :: ps => backU l ps
  | _, [] => []
def oneV : List Val → SV
  | [v] => .val v
  | l => .tup l
def onlyV : List Kd → Bool
  | [] => true
  | .v _ _ :: l => onlyV l
  | _ => false
def callK (ob : Obs) (tk : Nat) (c : Con) (as : List SV) (k : Out → Option α) : Option α :=
  match argS c.ps as with
  | none => none
  | some ss => match packG ob (kdP c.ps) ss with
    | some (x, u) => match tokOk u && onlyV c.rs with
      | true => bnd (c.fn x) fun r => match unpackG tk (app c.rs (kdB c.ps)) 0 r with
        | (ps, new) => k ⟨oneV (valsP c.rs ps), new, app u (backU (tokB ss) ps)⟩
      | false => none
    | none => none
def fits : List PK → List SV → Bool
  | [], [] => true
  | .fn f :: r, .val (.one (.fn f')) :: as => Nat.beq f f' && fits r as
  | .fn _ :: _, _ => false
  | .k (.r h _) :: r, .val (.one (.row _ hv)) :: as => Nat.beq hv h && fits r as
  | _ :: r, _ :: as => fits r as
  | _, _ => false
def callC (tab : List Con) (ob : Obs) (tk f : Nat) (as : List SV) (k : Out → Option α) : Option α := match tab with
  | [] => none
  | c :: r => bsel (Nat.beq c.f f && fits c.ps as) (callK ob tk c as k) (callC r ob tk f as k)

def mapG (g : Operand → SV) : List Operand → List SV
  | [] => []
  | x :: r => g x :: mapG g r
/-- the boxes that a function literal captures -/
def ptrsOf : List SV → Option (List Nat)
  | [] => some []
  | .val (.one (.ptr j 0)) :: r => match ptrsOf r with
    | some js => some (j :: js)
    | none => none
  | _ => none
def ptrs : List Nat → List SV
  | [] => []
  | j :: r => .val (.one (.ptr j 0)) :: ptrs r
def optI (g : Operand → SV) : Option Operand → Option (Option (IntKind × Int))
  | none => some none
  | some x => match g x with
    | .val (.one c) => match ival c with
      | some i => some (some i)
      | none => none
    | _ => none
def lenC (ob : Obs) (c : Cell) (k : Cell → Option α) : Option α := match c with
  | .v (.slice _) xs => k (.v (.int .i64) (len xs))
  | .nils => k (.v (.int .i64) 0)
  | .row j hv => match ob j with
    | some (.row h _ xs) | some (.frz h _ xs) => bsel (Nat.beq h hv) (k (.v (.int .i64) (len xs))) none
    | _ => none
  | .cut j hv _ n => match ob j with
    | some (.row h _ _) | some (.frz h _ _) => bsel (Nat.beq h hv) (k (.v (.int .i64) (ofN n))) none
    | _ => none
  | _ => none
/-- the type of what is appended or copied -/
def srcT' (E : Env) (t u : TypeId) : Cell → Bool
  | .v .str _ => match E.t u with
    | some .str => true
    | _ => false
  | _ => Nat.beq t u
def srcT (E : Env) (t u : TypeId) (c : Cell) : Bool := ubS E t && srcT' E t u c
def builtinC (E : Env) (ob : Obs) (tk : Nat) (b : Builtin) (ts : List TypeId) (as : List SV) (k : Out → Option α) : Option α :=
  match b, ts, as with
  | .len, t :: _, .val v :: _ => match E.t t with
    | some (.arr n _) => k (out1 (.v (.int .i64) (ofN n)))
    | some .str => match v with
      | .one (.v .str s) => k (out1 (.v (.int .i64) (len s)))
      | _ => none
    | some (.slice _) => match v with
      | .one c => lenC ob c fun c => k (out1 c)
      | _ => none
    | _ => none
  | .append, [t, u], [.val (.one x), .val (.one y)] => match srcT E t u y, (E.P.underlying t : Option TypeDesc) with
    | true, some (.slice e) => match E.P.info? e with
      | some i => appendC E ob tk t x y i.bytes k
      | none => none
    | _, _ => none
  | .copy, t :: _, [.val (.one x), .val (.one y)] => copyC E ob t x y k
  | .min, _, [.val (.one x), .val (.one y)] => match ival x, ival y with
    | some (kx, a), some (ky, b) => bsel (kSame kx ky) (k (out1 (mkI kx (imin a b)))) none
    | _, _ => none
  | .max, _, [.val (.one x), .val (.one y)] => match ival x, ival y with
    | some (kx, a), some (ky, b) => bsel (kSame kx ky) (k (out1 (mkI kx (imax a b)))) none
    | _, _ => none
  | _, _, _ => none

/-- the text of a Builder: its bytes are frozen -/
def bsIs (E : Env) (f : Nat) : Option Nat := match E.bs with
  | some (z, t) => bsel (Nat.beq f z) (some t) none
  | none => none
def bsC (ob : Obs) (t : Nat) (as : List SV) (k : Out → Option α) : Option α := match as with
  | [.val (.one (.ptr j 0))] => match ob j with
    | some (.box t' [_, c]) => match Nat.beq t' t with
      | true => match c with
        | .nils => k ⟨.val (.one (.v .str [])), [], []⟩
        | .row i hv => match ob i with
          | some (.row h .u8 xs) => bsel (Nat.beq h hv) (k ⟨.val (.one (.v .str xs)), [], [(i, .frz h .u8 xs)]⟩) none
          | _ => none
        | _ => none
      | false => none
    | _ => none
  | _ => none
def opC (E : Env) (tab : List Con) (g : Operand → SV) (ob : Obs) (tk : Nat) (o : Oper) (k : Out → Option α) : Option α :=
  match o.op with
  | .move x | .assign x => k ⟨g x, [], []⟩
  | .pick c a b => match g c with
    | .val (.one (.v .bool e)) => cnd e (k ⟨g a, [], []⟩) (k ⟨g b, [], []⟩)
    | _ => none
  | .alloc t => match E.t t with
    | some (.arr n e) => bsel (Nat.ble 1 n && !e.same .u8) (k ⟨.val (.one (.el tk tk 0 0)), [.row tk e (Ty.zero (.arr n e))], []⟩) none
    | some T => k ⟨.val (.one (.ptr tk 0)), [.box t (zcells T)], []⟩
    | none => none
  | .box t x => match E.t t, g x with
    | some T, .val v => bsel (Nat.beq (lng v.cells) T.size && v.ok) (k ⟨.val (.one (.ptr tk 0)), [.box t v.cells], []⟩) none
    | _, _ => none
  | .build t ps => match vals g ps.toList with
    | some l => buildC E t l fun v => k (outV v)
    | none => none
  | .buildSlice t n ps => match vals g ps.toList with
    | some l => buildSliceC E ob tk t n l k
    | none => none
  | .load t a => match g a with
    | .val (.one c) => loadC E ob t c fun v => k (outV v)
    | _ => none
  | .store t a x => match g a, g x with
    | .val (.one c), .val v => storeC E ob t c v fun u => k ⟨.val (.one .undef), [], u⟩
    | _, _ => none
  | .nilCheck x => match g x with
    | .val (.one (.ptr j o)) => k (out1 (.ptr j o))
    | .val (.one (.el j h i o)) => match ob j with
      | some (.row h' _ _) => bsel (Nat.beq h' h) (k (out1 (.el j h i o))) none
      | _ => none
    | .val (.one (.kp t x)) => k (out1 (.kp t x))
    | .val (.one (.fn f)) => k (out1 (.fn f))
    | .val (.one (.clo f js)) => k (out1 (.clo f js))
    | _ => none
  | .binOp op t x y _ => match g x, g y with
    | .val (.one a), .val (.one b) => match nilCmp (E.t t) a b op with
      | some e => k (out1 (.v .bool e))
      | none => binC op (isBool (E.t t)) a b (isNz y) (isNn y) fun c => k (out1 c)
    | .val (.agg a), .val (.agg b) => match E.t t with
      | some T => match T.canEq && T.agg, typed ob T (.agg a), typed ob T (.agg b), op with
        | true, some x, some y, .eql => k (out1 (.v .bool (T.eqv x y)))
        | true, some x, some y, .neq => k (out1 (.v .bool (bnot (T.eqv x y))))
        | _, _, _, _ => none
      | none => none
    | _, _ => none
  | .unOp op _ x => match g x with
    | .val (.one c) => match op, c with
      | .not, .v .bool b => k (out1 (.v .bool (bnot b)))
      | .neg, c => match ival c with
        | some (kx, a) => k (out1 (mkW kx (isub 0 a)))
        | none => none
      | .xor, c => match ival c with
        | some (kx, a) => k (out1 (mkI kx (bitb .xor kx (if kx.signed then -1 else kx.max) a)))
        | none => none
      | _, _ => none
    | _ => none
  | .convert s d x => match g x with
    | .val (.one c) => convC E ob tk s d c k
    | _ => none
  | .makeFunc (.func f) ⟨[]⟩ ⟨[]⟩ => k (out1 (.fn f))
  | .makeFunc (.func f) ⟨[]⟩ cs => match ptrsOf (mapG g cs.toList) with
    | some js => k (out1 (.clo f js))
    | none => none
  | .makeSlice t l c => match E.t t, g l, g c with
    | some (.slice e), .val (.one l), .val (.one c) => match ival l, ival c, (E.P.underlying t : Option TypeDesc) with
      | some (.i64, l), some (.i64, c), some (.slice ei) => match E.P.info? ei with
        | some i => bsel (ubS E t) (grd (mkOk l c i.bytes) (k ⟨.val (.one (.row tk tk)), [.row tk e (lrep (toN l) e.zero)], []⟩)) none
        | none => none
      | _, _, _ => none
    | _, _, _ => none
  | .slice t x lo hi mx => match g x, optI g lo, optI g hi, optI g mx with
    | .val (.one c), some l, some h, some m => match m with
      | none => sliceC E ob t c l h none fun c => k (out1 c)
      | some m => sliceMaxC E ob tk t c l h (some m) k
    | _, _, _, _ => none
  | .fieldAddr t x f => match g x with
    | .val (.one c) => fieldAddrC E ob t c f fun c => k (out1 c)
    | _ => none
  | .field t x f => match g x with
    | .val (.agg cs) => fieldC E t cs f fun v => k (outV v)
    | _ => none
  | .indexAddr t x i => match g x, g i with
    | .val (.one c), .val (.one i) => indexAddrC E ob t c i fun c => k (out1 c)
    | _, _ => none
  | .index t x i => match g x, g i with
    | .val v, .val (.one i) => indexC E ob t v i fun v => k (outV v)
    | _, _ => none
  | .range t x => match E.t t, g x with
    | some .str, .val (.one (.v .str s)) => k ⟨.val (.one (.it tk)), [.iter s 0], []⟩
    | _, _ => none
  | .next x true => match g x with
    | .val (.one (.it j)) => match ob j with
      | some (.iter s p) => cnd (nlt p (nlen s))
          (k ⟨.tup [.one (.v .bool true), .one (.v (.int .i64) (ofN p)), .one (.v (.int .i32) (decR s p))], [], [(j, .iter s (nadd p (decW s p)))]⟩)
          (k ⟨.tup [.one (.v .bool false)], [], []⟩)
      | _ => none
    | _ => none
  | .makeMap t none => makeMapC E tk t k
  | .mapUpdate t m x y => match g m, g x, g y with
    | .val (.one c), .val vx, .val vy => mapUpC E ob t c vx vy k
    | _, _, _ => none
  | .lookup t m x ok => match g m, g x with
    | .val (.one c), .val vx => lookC E ob t c vx ok k
    | _, _ => none
  | .extract x i => match g x with
    | .tup l => match nth l i with
      | some v => k (outV v)
      | none => none
    | _ => none
  | .call c => match c.callee with
    | .builtin b => builtinC E ob tk b c.argTypes.toList (mapG g c.args.toList) k
    | .value f => match g f with
      | .val (.one (.fn f)) => match bsIs E f with
        | some t => bsC ob t (mapG g c.args.toList) k
        | none => callC tab ob tk f (mapG g c.args.toList) k
      | .val (.one (.clo f js)) => callC tab ob tk f (app (mapG g c.args.toList) (ptrs js)) k
      | _ => none
    | _ => none
  | _ => none

/-! ### operations whose result is not known -/
inductive AnyK where
  /-- a comparison with nil of so many elements: is it '!='? -/
  | nilc (n : Int) (ne : Bool)
  /-- so many bytes, whatever they are -/
  | noz (n : Int)
def mayNil (ob : Obs) : Cell → Option Int
  | .v (.slice t) xs => bsel (Nat.ble 1 t.size) (some (len xs)) none
  | .row j hv => match ob j with
    | some (.row h _ xs) | some (.frz h _ xs) => bsel (Nat.beq h hv) (some (len xs)) none
    | _ => none
  | .cut j hv _ n => match ob j with
    | some (.row h _ _) | some (.frz h _ _) => bsel (Nat.beq h hv) (some (ofN n)) none
    | _ => none
  | _ => none
def isEq : BinOp → Option Bool
  | .eql => some false
  | .neq => some true
  | _ => none
def anyOf (E : Env) (g : Operand → SV) (ob : Obs) (o : Oper) : Option AnyK := match o.op with
  | .binOp op t x y _ => match isEq op with
    | some ne => match E.t t with
      | some (.slice _) => match g x, g y with
        | .val (.one c), .val (.one .nils) => match mayNil ob c with
          | some n => some (.nilc n ne)
          | none => none
        | _, _ => none
      | _ => none
    | none => none
  | .call c => match E.nz with
    | some z => match c.callee with
      | .value f => match g f with
        | .val (.one (.fn f)) => match Nat.beq f z with
          | true => match mapG g c.args.toList with
            | [.val (.one a)] => match ival a with
              | some (.i64, n) => some (.noz n)
              | _ => none
            | _ => none
          | false => none
        | _ => none
      | _ => none
    | none => none
  | _ => none
noncomputable def opD (E : Env) (tab : List Con) (g : Operand → SV) (ob : Obs) (tk : Nat) (o : Oper) (k : Out → Option α) : Option α :=
  match anyOf E g ob o with
  | some (.nilc n ne) => cnd (ine n 0) (k (out1 (.v .bool ne))) (univ fun b => k (out1 (.v .bool b)))
  | some (.noz n) => grd (mkOk n n 1) (univL (toN n) fun l => k ⟨.val (.one (.row tk tk)), [.row tk .u8 l], []⟩)
  | none => opC E tab g ob tk o k

/-! ### the state -/
structure ASt where
  tm : Nat
  sl : List (Nat × Nat × SV)
  ob : List (Nat × Nat × Ob)
def lk {β : Type} : List (Nat × Nat × β) → Nat → Option (Nat × β)
  | [], _ => none
  | (x, e) :: r, y => bsel (Nat.beq x y) (some e) (lk r y)
def put {β : Type} (x v : Nat) (b : β) : List (Nat × Nat × β) → List (Nat × Nat × β)
  | [] => [(x, v, b)]
  | (y, e) :: r => bsel (Nat.beq y x) ((x, v, b) :: r) ((y, e) :: put x v b r)
/-- only what is there is changed -/
def setE {β : Type} (x v : Nat) (b : β) : List (Nat × Nat × β) → List (Nat × Nat × β)
  | [] => []
  | (y, e) :: r => bsel (Nat.beq y x) ((x, v, b) :: r) ((y, e) :: setE x v b r)
def getS (E : Env) (s : ASt) : Operand → SV
  | .tmp t => match lk s.sl t with
    | some (_, v) => v
    | none => .val (.one .undef)
  | .const v => svV v
  | .global g => match lkG E.gl g with
    | some ⟨t, x⟩ => .val (.one (.kp t x))
    | none => .val (.one .undef)
  | .func f => .val (.one (.fn f))
def obs (s : ASt) : Obs := fun j => match lk s.ob j with
  | some (_, o) => some o
  | none => none
def updO (v : Nat) : Upd → List (Nat × Nat × Ob) → List (Nat × Nat × Ob)
  | [], l => l
  | (j, o) :: r, l => updO v r (setE j v o l)
def newO (v : Nat) : Nat → List Ob → List (Nat × Nat × Ob)
  | _, [] => []
  | j, o :: r => (j, v, o) :: newO v (j + 1) r
def apply (s : ASt) (o : Oper) (out : Out) : ASt :=
  ⟨s.tm + (lng out.new).succ, match o.dst with
    | some d => put d s.tm out.sv s.sl
    | none => s.sl, app (updO s.tm out.upd s.ob) (newO s.tm s.tm out.new)⟩
def skipO (s : ASt) (o : Oper) : ASt := apply s o ⟨.tup [], [], []⟩
def setS (s : ASt) (g : Nat) (b : Bool) : ASt := ⟨s.tm.succ, put g s.tm (.val (.one (.v .bool b))) s.sl, s.ob⟩

/-! ### what is computed at once -/
section
variable {β : Type}
def fN (n : Nat) (k : Nat → β) : β := match n with
  | 0 => k 0
  | m + 1 => k (m + 1)
def fJs (l : List Nat) (k : List Nat → β) : β := match l with
  | [] => k []
  | n :: r => fN n fun n => fJs r fun r => k (n :: r)
def fC (c : Cell) (k : Cell → β) : β := match c with
  | .v t x => k (.v t x)
  | .row j h => fN j fun j => fN h fun h => k (.row j h)
  | .cut j h a b => fN j fun j => fN h fun h => k (.cut j h a b)
  | .ptr j o => fN j fun j => fN o fun o => k (.ptr j o)
  | .el j h i o => fN j fun j => fN h fun h => fN o fun o => k (.el j h i o)
  | .kp t x => k (.kp t x)
  | .fn f => k (.fn f)
  | .clo f js => fJs js fun js => k (.clo f js)
  | .it j => fN j fun j => k (.it j)
  | .mp j => fN j fun j => k (.mp j)
  | .nils => k .nils
  | .nilp => k .nilp
  | .undef => k .undef
def fCs (cs : List Cell) (k : List Cell → β) : β := match cs with
  | [] => k []
  | c :: r => fC c fun c => fCs r fun r => k (c :: r)
def fV (v : Val) (k : Val → β) : β := match v with
  | .one c => fC c fun c => k (.one c)
  | .agg cs => fCs cs fun cs => k (.agg cs)
def fVs (cs : List Val) (k : List Val → β) : β := match cs with
  | [] => k []
  | c :: r => fV c fun c => fVs r fun r => k (c :: r)
def fSV (v : SV) (k : SV → β) : β := match v with
  | .val v => fV v fun v => k (.val v)
  | .tup l => fVs l fun l => k (.tup l)
def fOb (o : Ob) (k : Ob → β) : β := match o with
  | .box ti cs => fN ti fun ti => fCs cs fun cs => k (.box ti cs)
  | .row h t xs => fN h fun h => k (.row h t xs)
  | .frz h t xs => fN h fun h => k (.frz h t xs)
  | .iter s p => k (.iter s p)
  | .map kt vt es => k (.map kt vt es)
  | .gone => k .gone
def fSl (l : List (Nat × Nat × SV)) (k : List (Nat × Nat × SV) → β) : β := match l with
  | [] => k []
  | (x, v, e) :: r => fN x fun x => fN v fun v => fSV e fun e => fSl r fun r => k ((x, v, e) :: r)
def fObs (l : List (Nat × Nat × Ob)) (k : List (Nat × Nat × Ob) → β) : β := match l with
  | [] => k []
  | (x, v, e) :: r => fN x fun x => fN v fun v => fOb e fun e => fObs r fun r => k ((x, v, e) :: r)
def fSt (s : ASt) (k : ASt → β) : β := match s with
  | ⟨t, sl, ob⟩ => fN t fun t => fSl sl fun sl => fObs ob fun ob => k ⟨t, sl, ob⟩
end

def dstsOk (n : Nat) : List Oper → Bool
  | [] => true
  | o :: r => match o.dst with
    | some d => bsel (Nat.blt d n) (dstsOk n r) false
    | none => dstsOk n r
def codeOk (n : Nat) : Code → Bool
  | .region _ ops _ => dstsOk n ops.toList
  | .seq a b => bsel (codeOk n a) (codeOk n b) false
  | .cond _ a b => bsel (codeOk n a) (codeOk n b) false
  | .block _ a => codeOk n a
  | .loop a => codeOk n a
  | .scope a => codeOk n a
  | _ => true
def dstAt (ops : List Oper) (j : Nat) : Option Nat := match nth ops j with
  | some o => o.dst
  | none => none
noncomputable def regC (E : Env) (tab : List Con) (ops : List Oper) : List Oper → ASt → (ASt → Option α) → Option α
  | [], s, k => k s
  | o :: r, s, k => match o.guard with
    | none => opD E tab (getS E s) (obs s) s.tm o fun out => fSt (apply s o out) fun s => regC E tab ops r s k
    | some (j, b) => match dstAt ops j with
      | none => none
      | some g => match getS E s (.tmp g) with
        | .val (.one (.v .bool e)) => match b with
          | true => cnd e (fSt (setS s g true) fun s => opD E tab (getS E s) (obs s) s.tm o fun out => fSt (apply s o out) fun s => regC E tab ops r s k) (fSt (skipO (setS s g false) o) fun s => regC E tab ops r s k)
          | false => cnd e (fSt (skipO (setS s g true) o) fun s => regC E tab ops r s k) (fSt (setS s g false) fun s => opD E tab (getS E s) (obs s) s.tm o fun out => fSt (apply s o out) fun s => regC E tab ops r s k)
        | .tup [] => fSt (skipO s o) fun s => regC E tab ops r s k
        | _ => none

/-! ### drawn regions: the operations in their order, each with what it looks at alone -/
def ctok : Cell → List Nat
  | .row j _ => [j]
  | .cut j _ _ _ => [j]
  | .ptr j _ => [j]
  | .el j _ _ _ => [j]
  | .it j => [j]
  | .mp j => [j]
  | .clo _ js => js
  | _ => []
def ctoks : List Cell → List Nat
  | [] => []
  | c :: r => app (ctok c) (ctoks r)
def vstoks : List Val → List Nat
  | [] => []
  | v :: r => app (ctoks v.cells) (vstoks r)
def svtoks : SV → List Nat
  | .val v => ctoks v.cells
  | .tup l => vstoks l
def gtoks (g : Operand → SV) : List Operand → List Nat
  | [] => []
  | x :: r => app (svtoks (g x)) (gtoks g r)
def btoks (ob : Obs) : List Nat → List Nat
  | [] => []
  | j :: r => app (match ob j with
    | some (.box _ cs) => ctoks cs
    | _ => []) (btoks ob r)
def opToks (g : Operand → SV) (ob : Obs) (o : Oper) : List Nat := match o.op with
  | .move _ => []
  | _ => match gtoks g o.op.operands.toList with
    | t => app t (btoks ob t)
def resO (T : List Nat) (ob : Obs) : Obs := fun j => bsel (memN j T) (ob j) none
def seqN : Nat → Nat → List Nat
  | _, 0 => []
  | n, m + 1 => n :: seqN n.succ m
def fstsU : Upd → List Nat
  | [] => []
  | (j, _) :: r => j :: fstsU r
/-- what an operation changes or makes -/
def wtoks (tk : Nat) (out : Out) : List Nat := app (fstsU out.upd) (seqN tk (lng out.new))
def fNs {β : Type} (l : List Nat) (k : List Nat → β) : β := match l with
  | [] => k []
  | n :: r => fN n fun n => fNs r fun r => k (n :: r)
structure Lg where
  T : List Nat
  W : List Nat
def disj : List Nat → List Nat → Bool
  | [], _ => true
  | x :: r, l => bsel (memN x l) false (disj r l)
/-- the operations that must come ahead -/
def edgesOf : List Edge → List Nat
  | [] => []
  | e :: r => bsel (Region.binds .any e) (e.on :: edgesOf r) (edgesOf r)
/-- both lists, what stands in the second one not twice -/
def uni : List Nat → List Nat → List Nat
  | [], l => l
  | x :: r, l => bsel (memN x l) (uni r l) (uni r (x :: l))
def gather (ps : List (List Nat)) : List Nat → List Nat → List Nat
  | [], acc => acc
  | j :: r, acc => bsel (memN j acc) (gather ps r acc) (fNs (uni (match nth ps j with
    | some l => l
    | none => []) (j :: acc)) fun acc => gather ps r acc)
def predsOf : List Oper → List (List Nat) → List (List Nat)
  | [], acc => acc
  | o :: r, acc => fNs (gather acc (edgesOf o.after.toList) []) fun p => predsOf r (app acc [p])
/-- the slots that an operation looks at -/
def tmpsOf : List Operand → List Nat
  | [] => []
  | .tmp t :: r => t :: tmpsOf r
  | _ :: r => tmpsOf r
def readsOf (ops : List Oper) (o : Oper) : List Nat := match o.guard with
  | none => tmpsOf o.op.operands.toList
  | some (j, _) => match dstAt ops j with
    | some d => d :: tmpsOf o.op.operands.toList
    | none => tmpsOf o.op.operands.toList
def dstL (o : Oper) : List Nat := match o.dst with
  | some d => [d]
  | none => []
/-- two operations that may come in either order -/
def freeOf (ops : List Oper) (x y : Oper) (a b : Lg) : Bool :=
  disj (dstL x) (readsOf ops y) && disj (dstL y) (readsOf ops x) && disj (dstL x) (dstL y) && disj a.W b.T && disj b.W a.T && disj a.W b.W
/-- an operation against all that stand ahead of it: i the number of the first of them -/
def againstAll (ops : List Oper) (p : List Nat) (o : Oper) (l : Lg) : Nat → List Oper → List Lg → Bool
  | _, [], [] => true
  | i, x :: xs, a :: as => bsel (memN i p || freeOf ops x o a l) (againstAll ops p o l i.succ xs as) false
  | _, _, _ => false
def logOk (ops : List Oper) (ps : List (List Nat)) : List Oper → List Lg → List Oper → List Lg → Bool
  | o :: r, l :: ls, done, dl => match nth ps (lng done) with
    | some p => bsel (againstAll ops p o l 0 done dl) (logOk ops ps r ls (app done [o]) (app dl [l])) false
    | none => false
  | [], [], _, _ => true
  | _, _, _, _ => false
/-- only what is there is changed -/
def updIn (ob : Obs) : Upd → Bool
  | [] => true
  | (j, _) :: r => match ob j with
    | some .gone => false
    | some _ => updIn ob r
    | none => false
def allLt (n : Nat) : List Nat → Bool
  | [] => true
  | i :: r => bsel (Nat.blt i n) (allLt n r) false
/-- what must come ahead stands ahead -/
def backOk : Nat → List Oper → Bool
  | _, [] => true
  | n, o :: r => bsel (allLt n (edgesOf o.after.toList)) (backOk n.succ r) false
def chkD (ops : List Oper) (log : List Lg) : Bool := bsel (backOk 0 ops) (logOk ops (predsOf ops []) ops log [] []) false
def runD (E : Env) (tab : List Con) (s : ASt) (o : Oper) (k : ASt → Lg → Option α) : Option α :=
  fNs (opToks (getS E s) (obs s) o) fun T => opC E tab (getS E s) (resO T (obs s)) s.tm o fun out => bsel (updIn (obs s) out.upd) (fNs (wtoks s.tm out) fun W => fSt (apply s o out) fun s => k s ⟨T, W⟩) none
def skipD (s : ASt) (o : Oper) (k : ASt → Lg → Option α) : Option α := fSt (skipO s o) fun s => k s ⟨[], []⟩
def drawC (E : Env) (tab : List Con) (ops : List Oper) : List Oper → ASt → List Lg → (ASt → Option α) → Option α
  | [], s, log, k => bsel (chkD ops log) (k s) none
  | o :: r, s, log, k => match o.guard with
    | none => runD E tab s o fun s l => drawC E tab ops r s (app log [l]) k
    | some (j, b) => match dstAt ops j with
      | none => none
      | some g => match getS E s (.tmp g) with
        | .val (.one (.v .bool e)) => match b with
          | true => cnd e (fSt (setS s g true) fun s => runD E tab s o fun s l => drawC E tab ops r s (app log [l]) k) (fSt (setS s g false) fun s => skipD s o fun s l => drawC E tab ops r s (app log [l]) k)
          | false => cnd e (fSt (setS s g true) fun s => skipD s o fun s l => drawC E tab ops r s (app log [l]) k) (fSt (setS s g false) fun s => runD E tab s o fun s l => drawC E tab ops r s (app log [l]) k)
        | .tup [] => skipD s o fun s l => drawC E tab ops r s (app log [l]) k
        | _ => none

/-! ### borders inside a function -/
inductive Tgt where
  | s (x : Nat)
  | o (j : Nat)
structure Shape where
  ks : List Nat
  ko : List Nat
  ts : List Tgt
  kd : List Kd
def srcsOf (s : ASt) : List Tgt → List Src
  | [] => []
  | .s x :: l => (match lk s.sl x with
    | some (_, .val v) => .val v
    | _ => .val (.one .undef)) :: srcsOf s l
  | .o j :: l => .tok j :: srcsOf s l
def placeT (tk : Nat) : List Tgt → List Piece → List (Nat × Nat × SV) × List (Nat × Nat × Ob)
  | .s x :: l, .val v :: ps => match placeT tk l ps with
    | (sl, ob) => ((x, tk, .val v) :: sl, ob)
  | .o j :: l, .ob o :: ps => match placeT tk l ps with
    | (sl, ob) => (sl, (j, tk, o) :: ob)
  | _, _ => ([], [])
def fitT (n : Nat) : List Tgt → List Kd → Bool
  | [], [] => true
  | .s _ :: l, .v _ _ :: k => fitT n l k
  | .o j :: l, .b _ _ _ :: k => bsel (Nat.blt j n) (fitT n l k) false
  | .o j :: l, .r h _ :: k => bsel (Nat.blt j n && Nat.blt h n) (fitT n l k) false
  | .o j :: l, .i :: k => bsel (Nat.blt j n) (fitT n l k) false
  | .o j :: l, .m _ _ :: k => bsel (Nat.blt j n) (fitT n l k) false
  | _, _ => false
def sameV {β : Type} (l l' : List (Nat × Nat × β)) : List Nat → Bool
  | [] => true
  | x :: r => (match lk l x, lk l' x with
    | some (v, _), some (v', _) => Nat.beq v v'
    | _, _ => false) && sameV l l' r
def noneIn (ko : List Nat) : Upd → Bool
  | [] => true
  | (j, _) :: r => match memN j ko with
    | true => false
    | false => noneIn ko r
def pack (sh : Shape) (s s' : ASt) : Option (Vec (kTys sh.kd)) :=
  match sameV s.sl s'.sl sh.ks && sameV s.ob s'.ob sh.ko && fitT s.tm sh.ts sh.kd, packG (obs s') sh.kd (srcsOf s' sh.ts) with
  | true, some (x, u) => bsel (tokOk u && noneIn sh.ko u) (some x) none
  | _, _ => none
def pickV {β : Type} (l : List (Nat × Nat × β)) : List Nat → List (Nat × Nat × β)
  | [] => []
  | x :: r => match lk l x with
    | some e => (x, e) :: pickV l r
    | none => pickV l r
def unpack (sh : Shape) (s : ASt) (v : Vec (kTys sh.kd)) : ASt :=
  match unpackG s.tm sh.kd 0 v with
  | (ps, new) => match placeT s.tm sh.ts ps with
    | (sl, ob) => ⟨s.tm + (lng new).succ, app sl (pickV s.sl sh.ks), app ob (app (pickV s.ob sh.ko) (newO s.tm s.tm new))⟩

/-! ### code -/
inductive Ex where
  | nrm | brk (id : Nat) | ret | go (l : Nat)
/-- a label stands in this code, as a jump finds it -/
def hasL : Code → Nat → Bool
  | .seq a b, l => bsel (hasL a l) true (hasL b l)
  | .label l', l => Nat.beq l' l
  | _, _ => false
inductive Ann where
  | lf
  | sq (a b : Ann)
  | jn (sh : Shape) (a b : Ann)
  | lp (sh : Shape) (a : Ann)
  /-- all ways through this block end in one -/
  | jk (sh : Shape) (a : Ann)
def Ann.l : Ann → Ann
  | .sq a _ => a
  | .jn _ a _ => a
  | .lp _ a => a
  | .jk _ a => a
  | .lf => .lf
def Ann.r : Ann → Ann
  | .sq _ b => b
  | .jn _ _ b => b
  | _ => .lf
noncomputable def exec (E : Env) (tab : List Con) (N : Nat) : Code → Option Nat → Ann → ASt → (Ex → ASt → Option α) → Option α
  | .skip, none, _, s, k => k .nrm s
  | .region _ ops d, none, _, s, k => match d with
    | false => regC E tab ops.toList ops.toList s (k .nrm)
    | true => drawC E tab ops.toList ops.toList s [] (k .nrm)
  | .seq a b, none, an, s, k => match an with
    | .jn sh x y => W.jn (fun v => fSt (unpack sh s v) fun s => exec E tab N b none y s k) fun jk => exec E tab N a none x s fun e s' => match e with
      | .nrm => match pack sh s s' with
        | some v => jk v
        | none => none
      | .brk i => k (.brk i) s'
      | .ret => k .ret s'
      | .go l => k (.go l) s'
    | an => exec E tab N a none an.l s fun e s' => match e with
      | .nrm => exec E tab N b none an.r s' k
      | .brk i => k (.brk i) s'
      | .ret => k .ret s'
      | .go l => k (.go l) s'
  | .seq a b, some l, an, s, k => match hasL a l with
    | true => exec E tab N a (some l) an.l s fun e s' => match e with
      | .nrm => exec E tab N b none an.r s' k
      | .brk i => k (.brk i) s'
      | .ret => k .ret s'
      | .go l => k (.go l) s'
    | false => exec E tab N b (some l) an.r s k
  | .cond x a b, none, an, s, k => match getS E s x with
    | .val (.one (.v .bool e)) => match an with
      | .jk sh y => W.jn (fun v => fSt (unpack sh s v) fun s => k .nrm s) fun jk => cnd e (exec E tab N a none y.l s fun e s' => match e with
          | .nrm => match pack sh s s' with
            | some v => jk v
            | none => none
          | .brk i => k (.brk i) s'
          | .ret => k .ret s'
          | .go l => k (.go l) s') (exec E tab N b none y.r s fun e s' => match e with
          | .nrm => match pack sh s s' with
            | some v => jk v
            | none => none
          | .brk i => k (.brk i) s'
          | .ret => k .ret s'
          | .go l => k (.go l) s')
      | an => cnd e (exec E tab N a none an.l s k) (exec E tab N b none an.r s k)
    | _ => none
  | .block id a, none, an, s, k => match an with
    | .jk sh y => W.jn (fun v => fSt (unpack sh s v) fun s => k .nrm s) fun jk => exec E tab N a none y s fun e s' => match e with
      | .nrm => match pack sh s s' with
        | some v => jk v
        | none => none
      | .brk i => bsel (Nat.beq i id) (match pack sh s s' with
        | some v => jk v
        | none => none) (k (.brk i) s')
      | .ret => k .ret s'
      | .go l => k (.go l) s'
    | an => exec E tab N a none an s fun e s' => match e with
      | .nrm => k .nrm s'
      | .brk i => bsel (Nat.beq i id) (k .nrm s') (k (.brk i) s')
      | .ret => k .ret s'
      | .go l => k (.go l) s'
  | .loop a, none, an, s, k => match an with
    | .lp sh x => match pack sh s s with
      | some v0 => fixN (fun self v => fSt (unpack sh s v) fun s1 => exec E tab N a none x s1 fun e s' => match e with
          | .nrm => match pack sh s s' with
            | some v => self v
            | none => none
          | .brk i => k (.brk i) s'
          | .ret => k .ret s'
          | .go l => k (.go l) s') N v0
      | none => none
    | _ => none
  | .scope a, none, an, s, k => exec E tab N a none an.l s fun e s' => match e with
    | .go l => match hasL a l with
      | true => exec E tab N a (some l) an.r s' fun e s'' => match e with
        | .go m => bsel (hasL a m) none (k (.go m) s'')
        | .nrm => k .nrm s''
        | .brk i => k (.brk i) s''
        | .ret => k .ret s''
      | false => k (.go l) s'
    | .nrm => k .nrm s'
    | .brk i => k (.brk i) s'
    | .ret => k .ret s'
  | .label _, none, _, s, k => k .nrm s
  | .label l', some l, _, s, k => bsel (Nat.beq l' l) (k .nrm s) none
  | .goto l, none, _, s, k => k (.go l) s
  | .exit id, none, _, s, k => k (.brk id) s
  | .ret, none, _, s, k => k .ret s
  | _, _, _, _, _ => none

/-! ### functions -/
/-- slots and variables of the parameters: i the slot, b the token of the next variable -/
def Kd.cell : Kd → Nat → Cell
  | .m _ _, q => .mp q
  | .r h _, q => .row q h
  | _, q => .ptr q 0
/-- the versions of rows that are handed over -/
def hvP : List PK → Nat
  | [] => 0
  | .k (.r h _) :: l => h + hvP l
  | _ :: l => hvP l
def inP : List PK → List Piece → Nat → Nat → List (Nat × Nat × SV) × List Ob
  | .k _ :: l, .val v :: ps, i, b => match inP l ps (i + 1) b with
    | (sl, os) => ((i, 0, .val v) :: sl, os)
  | .k k :: l, .ob o :: ps, i, b => match inP l ps (i + 1) (b + 1) with
    | (sl, os) => ((i, 0, .val (.one (k.cell b))) :: sl, o :: os)
  | .fn f :: l, ps, i, b => match inP l ps (i + 1) b with
    | (sl, os) => ((i, 0, .val (.one (.fn f))) :: sl, os)
  | _, _, _, _ => ([], [])
def start (ps : List PK) (x : Vec (kTys (kdP ps))) : ASt := match unpackG 1 (kdP ps) 0 x with
  | (pc, new) => match inP ps pc 0 (1 + lng new) with
    | (sl, bs) => ⟨(hvP ps + (lng new + lng bs)).succ.succ, sl, newO 0 1 (app new bs)⟩
def resV (E : Env) (s : ASt) : Kd → ResultVar → Option Src
  | _, .tmp t => match lk s.sl t with
    | some (_, .val v) => some (.val v)
    | _ => none
  | k, .cell t ty => match lk s.sl t with
    | some (_, .val (.one (.ptr j 0))) => match lk s.ob j, E.t ty with
      | some (_, .box _ cs), some T => bsel (T.same k.t && Nat.beq (lng cs) T.size && solids cs) (some (.val (boxV k.t cs))) none
      | _, _ => none
    | _ => none
def outR (E : Env) (s : ASt) : List Kd → List ResultVar → Option (List Src)
  | [], [] => some []
  | k :: l, x :: xs => match resV E s k x, outR E s l xs with
    | some r, some rs => some (r :: rs)
    | _, _ => none
  | _, _ => none
/-- the variables that are handed back: their tokens, as 'inP' lays them -/
def outB : List PK → Nat → List Src
  | .k (.b _ _ _) :: l, b => .tok b :: outB l (b + 1)
  | .k (.m _ _) :: l, b => .tok b :: outB l (b + 1)
  | .k (.r _ _) :: l, b => .tok b :: outB l (b + 1)
  | .k .i :: l, b => outB l (b + 1)
  | _ :: l, b => outB l b
  | [], _ => []
def noR : List PK → Bool
  | [] => true
  | .k .i :: _ => false
  | _ :: l => noR l
noncomputable def execF (E : Env) (tab : List Con) (N : Nat) (fn : Func) (an : Ann) (ps : List PK) (rs : List Kd) (x : Vec (kTys (kdP ps))) : Option (Vec (kTys (app rs (kdB ps)))) :=
  match fn.body with
  | none => none
  | some c => bsel (codeOk fn.ntmps c && Nat.ble (lng ps) fn.ntmps && noR ps && onlyV rs) (fSt (start ps x) fun s0 => exec E tab N c none an s0 fun e s => match e with
    | .brk _ => none
    | .go _ => none
    | _ => match outR E s rs fn.results.toList with
      | some ss => match packG (obs s) (app rs (kdB ps)) (app ss (outB ps (1 + lng (unpackG 1 (kdP ps) 0 x).2))) with
        | some (y, u) => bsel (tokOk u) (some y) none
        | none => none
      | none => none) none

end Go.W
end

section
/-
  What the machine on plain values says of the memory: representation, and how it is kept. No program in it.
-/
namespace Go.W
open Go Go.RowKit

/-! ### memory that is known for good -/
abbrev Kn := Nat → Nat → Option Value
def Kn.le (K K' : Kn) : Prop := ∀ b o v, K b o = some v → K' b o = some v
theorem Kn.le.refl (K : Kn) : K.le K := fun _ _ _ h => h
theorem Kn.le.trans {K K' K'' : Kn} (h : K.le K') (h' : K'.le K'') : K.le K'' := fun b o v x => h' b o v (h b o v x)

def RepL {α : Type} (R : α → List Value → Prop) : List α → List Value → Prop
  | [], cs => cs = []
  | x :: r, cs => ∃ c1 c2, cs = c1 ++ c2 ∧ R x c1 ∧ RepL R r c2
/-- what is known of a block: a cell; or, said by a mark at its end, how many cells it has -/
def Kw (cs : Array Value) (o : Nat) (v : Value) : Prop := (v.oneCell' = true → cs[o]? = some v) ∧ (v = .tuple #[] → o = cs.size)
def KOk (K : Kn) (w : World) : Prop := ∀ b o v, K b o = some v → ∃ cs e fz, w.heap[b]? = some (.cells cs e fz) ∧ Kw cs o v
/-- the cells that begin at A are cs -/
def At (K : Kn) (A : Option Addr) (cs : List Value) : Prop :=
  cs = [] ∨ ∃ ad, A = some ad ∧ ad.spot = none ∧ ∀ j v, cs[j]? = some v → K ad.block (ad.off + j) = some v

def RepC (K : Kn) : (t : Ty) → t.den → List Value → Prop
  | .int k, x, cs => cs = [.int k (x : Int)]
  | .u8, x, cs => cs = [.int .u8 (n8 x)]
  | .bool, x, cs => cs = [.bool (x : Bool)]
  | .nif, _, cs => cs = [.nilIface]
  | .str, x, cs => cs = [.string (bst x)]
  | .slice t, xs, cs => ∃ A c, cs = [.slice A (List.length xs) c] ∧ List.length xs ≤ c ∧ c ≤ maxLen ∧ ∃ es, RepL (RepC K t) xs es ∧ At K A es
  | .arr n t, xs, cs => List.length xs = n ∧ RepL (RepC K t) xs cs
  | .unit, _, cs => cs = []
  | .pair a b, x, cs => ∃ c1 c2, cs = c1 ++ c2 ∧ RepC K a x.1 c1 ∧ RepC K b x.2 c2
  | .st t, x, cs => RepC K t x cs
  | .nptr, _, cs => cs = [.pointer none]

section
variable {α : Type} {R R' : α → List Value → Prop} {n : Nat}
theorem RepL_len (h : ∀ x cs, R x cs → cs.length = n) : ∀ {xs : List α} {cs : List Value}, RepL R xs cs → cs.length = xs.length * n
  | [], cs, hr => by cases hr; simp
  | x :: r, cs, ⟨c1, c2, e, h1, h2⟩ => by
    subst e; rw [List.length_append, h _ _ h1, RepL_len h h2, List.length_cons, Nat.add_mul]; omega
theorem RepL_mono (h : ∀ x cs, R x cs → R' x cs) : ∀ {xs : List α} {cs : List Value}, RepL R xs cs → RepL R' xs cs
  | [], _, hr => hr
  | _ :: _, _, ⟨c1, c2, e, h1, h2⟩ => ⟨c1, c2, e, h _ _ h1, RepL_mono h h2⟩
theorem RepL_app : ∀ {xs ys : List α} {c1 c2 : List Value}, RepL R xs c1 → RepL R ys c2 → RepL R (xs ++ ys) (c1 ++ c2)
  | [], _, _, _, h1, h2 => by cases h1; exact h2
  | _ :: _, _, _, _, ⟨d1, d2, e, h1, h2⟩, h3 => by subst e; exact ⟨d1, d2 ++ _, by simp, h1, RepL_app h2 h3⟩
theorem RepL_all (P : Value → Prop) (h : ∀ x cs, R x cs → ∀ v ∈ cs, P v) : ∀ {xs : List α} {cs : List Value}, RepL R xs cs → ∀ v ∈ cs, P v
  | [], _, hr, v, hv => by cases hr; cases hv
  | _ :: _, _, ⟨c1, c2, e, h1, h2⟩, v, hv => by
    subst e
    rcases List.mem_append.1 hv with hv | hv
    · exact h _ _ h1 v hv
    · exact RepL_all P h h2 v hv
theorem RepL_get (h : ∀ x cs, R x cs → cs.length = n) (d : α) : ∀ {xs : List α} {cs : List Value} (i : Nat), RepL R xs cs → i < xs.length → R (xs.getD i d) ((cs.drop (i * n)).take n)
  | [], _, i, _, hi => by simp at hi
  | x :: r, cs, 0, ⟨c1, c2, e, h1, h2⟩, _ => by
    subst e
    have := h _ _ h1
    simp [List.take_left' this, h1]
  | x :: r, cs, i + 1, ⟨c1, c2, e, h1, h2⟩, hi => by
    subst e
    have hl := h _ _ h1
    have := RepL_get h d i h2 (by simpa using hi)
    rw [Nat.add_mul, Nat.one_mul, Nat.add_comm (i * n) n, ← List.drop_drop, List.drop_left' hl]
    simpa using this
theorem RepL_drop (h : ∀ x cs, R x cs → cs.length = n) : ∀ {xs : List α} {cs : List Value} (i : Nat), RepL R xs cs → RepL R (xs.drop i) (cs.drop (i * n))
  | xs, cs, 0, hr => by simpa using hr
  | [], cs, i + 1, hr => by cases hr; simp [RepL]
  | x :: r, cs, i + 1, ⟨c1, c2, e, h1, h2⟩ => by
    subst e
    have e : (c1 ++ c2).drop ((i + 1) * n) = c2.drop (i * n) := by
      rw [Nat.add_mul, Nat.one_mul, Nat.add_comm (i * n) n, ← List.drop_drop, List.drop_left' (h _ _ h1)]
    rw [e, List.drop_succ_cons]
    exact RepL_drop h i h2
theorem RepL_take (h : ∀ x cs, R x cs → cs.length = n) : ∀ {xs : List α} {cs : List Value} (i : Nat), RepL R xs cs → RepL R (xs.take i) (cs.take (i * n))
  | xs, cs, 0, hr => by simp [RepL]
  | [], cs, i + 1, hr => by cases hr; simp [RepL]
  | x :: r, cs, i + 1, ⟨c1, c2, e, h1, h2⟩ => by
    subst e
    rw [Nat.add_mul, Nat.one_mul, Nat.add_comm (i * n) n]
    refine ⟨c1, c2.take (i * n), ?_, h1, RepL_take h i h2⟩
    rw [List.take_append, h _ _ h1, List.take_of_length_le (by rw [h _ _ h1]; omega)]
    congr 2; omega
theorem RepL_rep {x : α} {c : List Value} (h : R x c) : ∀ m, RepL R (List.replicate m x) (List.replicate m c).flatten
  | 0 => rfl
  | m + 1 => ⟨c, _, by simp [List.replicate_succ], h, RepL_rep h m⟩
theorem RepL_one {x : α} {c : List Value} (h : R x c) : RepL R [x] c := ⟨c, [], by simp, h, rfl⟩
end

theorem RepC_len {K : Kn} : ∀ {t : Ty} {x : t.den} {cs : List Value}, RepC K t x cs → cs.length = t.size
  | .int _, _, _, h => by simp only [RepC] at h; subst h; rfl
  | .u8, _, _, h => by simp only [RepC] at h; subst h; rfl
  | .bool, _, _, h => by simp only [RepC] at h; subst h; rfl
  | .nif, _, _, h => by simp only [RepC] at h; subst h; rfl
  | .str, _, _, h => by simp only [RepC] at h; subst h; rfl
  | .slice _, _, _, ⟨_, _, h, _⟩ => by subst h; rfl
  | .arr n t, _, _, ⟨h1, h2⟩ => by rw [RepL_len (fun x cs h => RepC_len (t := t) h) h2, h1]; rfl
  | .unit, _, _, h => by simp only [RepC] at h; subst h; rfl
  | .pair a b, _, _, ⟨_, _, e, h1, h2⟩ => by subst e; rw [List.length_append, RepC_len h1, RepC_len h2]; rfl
  | .st t, _, _, h => RepC_len (t := t) h
  | .nptr, _, _, h => by simp only [RepC] at h; subst h; rfl
theorem RepC_one {K : Kn} : ∀ {t : Ty} {x : t.den} {cs : List Value}, RepC K t x cs → ∀ v ∈ cs, v.oneCell' = true
  | .int _, _, _, h, v, hv => by simp only [RepC] at h; subst h; simp at hv; subst hv; rfl
  | .u8, _, _, h, v, hv => by simp only [RepC] at h; subst h; simp at hv; subst hv; rfl
  | .bool, _, _, h, v, hv => by simp only [RepC] at h; subst h; simp at hv; subst hv; rfl
  | .nif, _, _, h, v, hv => by simp only [RepC] at h; subst h; simp at hv; subst hv; rfl
  | .str, _, _, h, v, hv => by simp only [RepC] at h; subst h; simp at hv; subst hv; rfl
  | .slice _, _, _, ⟨_, _, h, _⟩, v, hv => by subst h; simp at hv; subst hv; rfl
  | .arr n t, _, _, ⟨h1, h2⟩, v, hv => RepL_all _ (fun x cs h => RepC_one (t := t) h) h2 v hv
  | .unit, _, _, h, v, hv => by simp only [RepC] at h; subst h; cases hv
  | .pair a b, _, _, ⟨_, _, e, h1, h2⟩, v, hv => by
    subst e
    rcases List.mem_append.1 hv with hv | hv
    · exact RepC_one h1 v hv
    · exact RepC_one h2 v hv
  | .st t, _, _, h, v, hv => RepC_one (t := t) h v hv
  | .nptr, _, _, h, v, hv => by simp only [RepC] at h; subst h; simp at hv; subst hv; rfl
theorem At.mono {K K' : Kn} (h : K.le K') {A : Option Addr} {cs : List Value} (ha : At K A cs) : At K' A cs :=
  ha.imp id fun ⟨ad, h1, h2, h3⟩ => ⟨ad, h1, h2, fun j v hv => h _ _ _ (h3 j v hv)⟩
theorem RepC_mono {K K' : Kn} (h : K.le K') : ∀ {t : Ty} {x : t.den} {cs : List Value}, RepC K t x cs → RepC K' t x cs
  | .int _, _, _, h => h
  | .u8, _, _, h => h
  | .bool, _, _, h => h
  | .nif, _, _, h => h
  | .str, _, _, h => h
  | .slice t, _, _, ⟨A, c, e, h1, h2, es, h3, h4⟩ => ⟨A, c, e, h1, h2, es, RepL_mono (fun x cs hx => RepC_mono h (t := t) hx) h3, h4.mono h⟩
  | .arr n t, _, _, ⟨h1, h2⟩ => ⟨h1, RepL_mono (fun x cs hx => RepC_mono h (t := t) hx) h2⟩
  | .unit, _, _, h => h
  | .pair a b, _, _, ⟨c1, c2, e, h1, h2⟩ => ⟨c1, c2, e, RepC_mono h h1, RepC_mono h h2⟩
  | .st t, _, _, hx => RepC_mono h (t := t) hx
  | .nptr, _, _, h => h

/-! ### where the objects lie -/
structure Gh where
  a : Option Addr
  c : Nat
  n : Nat
  sz : Nat
  hv : Nat
abbrev Ghs := Nat → Option Gh
def Ghs.le (γ γ' : Ghs) : Prop := ∀ j g, γ j = some g → ∃ g', γ' j = some g' ∧ g.hv ≤ g'.hv ∧ (g'.hv = g.hv ∨ g.hv = 0 → g' = g)
theorem Ghs.le.refl (γ : Ghs) : γ.le γ := fun _ g h => ⟨g, h, Nat.le_refl _, fun _ => rfl⟩
theorem Ghs.le.trans {γ γ' γ'' : Ghs} (h : γ.le γ') (h' : γ'.le γ'') : γ.le γ'' := fun j g hg => by
  obtain ⟨g', h1, h2, h3⟩ := h j g hg
  obtain ⟨g'', h4, h5, h6⟩ := h' j g' h1
  refine ⟨g'', h4, by omega, fun e => ?_⟩
  rcases e with e | e
  · have e1 : g'.hv = g.hv := by omega
    have := h3 (.inl e1)
    subst this
    exact h6 (.inl (by omega))
  · have := h3 (.inr e)
    subst this
    exact h6 (.inr e)

/-- a value of one cell, no nil pointer -/
def oneP : Value → Bool
  | .pointer none => false
  | v => v.oneCell'
theorem oneP_one {v : Value} (h : oneP v = true) : v.oneCell' = true := by
  unfold oneP at h
  split at h
  · cases h
  · exact h
/-- pointers to boxes -/
def RepPs (γ : Ghs) : List Nat → List Value → Prop
  | [], vs => vs = []
  | j :: js, vs => ∃ g b r, vs = .pointer (some ⟨b, 0, none⟩) :: r ∧ γ j = some g ∧ g.hv = 0 ∧ g.a = some ⟨b, 0, none⟩ ∧ RepPs γ js r
theorem RepPs.mono {γ γ' : Ghs} (hγ : γ.le γ') : ∀ {js : List Nat} {vs : List Value}, RepPs γ js vs → RepPs γ' js vs
  | [], _, h => h
  | j :: js, _, ⟨g, b, r, e, h1, h2, h3, h4⟩ => by
    obtain ⟨g', k1, k2, k3⟩ := hγ j g h1
    have := k3 (.inr h2); subst this
    exact ⟨g', b, r, e, k1, h2, h3, h4.mono hγ⟩
def RepCell (γ : Ghs) (K : Kn) : Cell → Value → Prop
  | .v t x, v => RepC K t x [v]
  | .row j hv, v => oneP v = true ∧ ∃ g, γ j = some g ∧ 0 < hv ∧ hv ≤ g.hv ∧ (g.hv = hv → v = .slice g.a g.n g.c)
  | .cut j hv lo n, v => oneP v = true ∧ ∃ g, γ j = some g ∧ 0 < hv ∧ hv ≤ g.hv ∧ (g.hv = hv → lo + n ≤ g.n ∧ ∃ A c, v = .slice A n c ∧ n ≤ c ∧ c ≤ maxLen ∧ (n = 0 ∨ A = g.a.map (·.add (lo * g.sz))) ∧ (lo = 0 → A = g.a ∧ c = g.c))
  | .ptr j off, v => ∃ g b, γ j = some g ∧ g.hv = 0 ∧ g.a = some ⟨b, 0, none⟩ ∧ v = .pointer (some ⟨b, off, none⟩)
  | .el j hv i off, v => oneP v = true ∧ ∃ g, γ j = some g ∧ 0 < hv ∧ hv ≤ g.hv ∧ (g.hv = hv → i < g.n ∧ ∃ ad, g.a = some ad ∧ v = .pointer (some (ad.add (i * g.sz + off))))
  | .kp t x, v => ∃ ad cs, v = .pointer (some ad) ∧ ad.spot = none ∧ RepC K t x cs ∧ ∀ j u, cs[j]? = some u → K ad.block (ad.off + j) = some u
  | .fn f, v => v = .func (.func f) #[] #[]
  | .clo f js, v => ∃ vs, v = .func (.func f) #[] vs.toArray ∧ RepPs γ js vs
  | .it j, v => ∃ g b, γ j = some g ∧ g.hv = 0 ∧ g.a = some ⟨b, 0, none⟩ ∧ v = .pointer (some ⟨b, 0, none⟩)
  | .mp j, v => ∃ g b, γ j = some g ∧ g.hv = 0 ∧ g.a = some ⟨b, 0, none⟩ ∧ v = .map (some b)
  | .nils, v => v = .slice none 0 0
  | .nilp, v => v = .pointer none
  | .undef, _ => True
theorem RepCell.mono {γ γ' : Ghs} {K K' : Kn} (hγ : γ.le γ') (hK : K.le K') {c : Cell} {v : Value} (h : RepCell γ K c v) : RepCell γ' K' c v := by
  cases c with
  | v t x => exact RepC_mono hK h
  | row j hv =>
    obtain ⟨h0, g, h1, h2, h3, h4⟩ := h
    obtain ⟨g', k1, k2, k3⟩ := hγ j g h1
    refine ⟨h0, g', k1, h2, by omega, fun e => ?_⟩
    have := k3 (.inl (by omega)); subst this; exact h4 e
  | cut j hv lo n =>
    obtain ⟨h0, g, h1, h2, h3, h4⟩ := h
    obtain ⟨g', k1, k2, k3⟩ := hγ j g h1
    refine ⟨h0, g', k1, h2, by omega, fun e => ?_⟩
    have := k3 (.inl (by omega)); subst this; exact h4 e
  | el j hv i off =>
    obtain ⟨h0, g, h1, h2, h3, h4⟩ := h
    obtain ⟨g', k1, k2, k3⟩ := hγ j g h1
    refine ⟨h0, g', k1, h2, by omega, fun e => ?_⟩
    have := k3 (.inl (by omega)); subst this; exact h4 e
  | ptr j off =>
    obtain ⟨g, b, h1, h2, h3, h4⟩ := h
    obtain ⟨g', k1, k2, k3⟩ := hγ j g h1
    have := k3 (.inr h2); subst this
    exact ⟨g', b, k1, h2, h3, h4⟩
  | it j =>
    obtain ⟨g, b, h1, h2, h3, h4⟩ := h
    obtain ⟨g', k1, k2, k3⟩ := hγ j g h1
    have := k3 (.inr h2); subst this
    exact ⟨g', b, k1, h2, h3, h4⟩
  | mp j =>
    obtain ⟨g, b, h1, h2, h3, h4⟩ := h
    obtain ⟨g', k1, k2, k3⟩ := hγ j g h1
    have := k3 (.inr h2); subst this
    exact ⟨g', b, k1, h2, h3, h4⟩
  | kp t x =>
    obtain ⟨ad, cs, h1, h2, h3, h4⟩ := h
    exact ⟨ad, cs, h1, h2, RepC_mono hK h3, fun j u hu => hK _ _ _ (h4 j u hu)⟩
  | fn f => exact h
  | clo f js => obtain ⟨vs, e, h⟩ := h; exact ⟨vs, e, h.mono hγ⟩
  | nils => exact h
  | nilp => exact h
  | undef => trivial

theorem RepCell.one {γ : Ghs} {K : Kn} {c : Cell} {v : Value} (h : RepCell γ K c v) (hc : c ≠ .undef) : v.oneCell' = true := by
  cases c with
  | v t x => exact RepC_one h v (by simp)
  | row j hv => exact oneP_one h.1
  | cut j hv lo n => exact oneP_one h.1
  | el j hv i off => exact oneP_one h.1
  | ptr j off => obtain ⟨g, b, _, _, _, h⟩ := h; subst h; rfl
  | it j => obtain ⟨g, b, _, _, _, h⟩ := h; subst h; rfl
  | mp j => obtain ⟨g, b, _, _, _, h⟩ := h; subst h; rfl
  | kp t x => obtain ⟨ad, cs, h, _⟩ := h; subst h; rfl
  | fn f => simp only [RepCell] at h; subst h; rfl
  | clo f js => obtain ⟨vs, h, _⟩ := h; subst h; rfl
  | nils => simp only [RepCell] at h; subst h; rfl
  | nilp => simp only [RepCell] at h; subst h; rfl
  | undef => exact absurd rfl hc

def RepCs (γ : Ghs) (K : Kn) : List Cell → List Value → Prop
  | [], vs => vs = []
  | c :: cs, vs => ∃ v r, vs = v :: r ∧ RepCell γ K c v ∧ v.oneCell' = true ∧ RepCs γ K cs r
theorem RepCs.mono {γ γ' : Ghs} {K K' : Kn} (hγ : γ.le γ') (hK : K.le K') : ∀ {cs : List Cell} {vs : List Value}, RepCs γ K cs vs → RepCs γ' K' cs vs
  | [], _, h => h
  | _ :: _, _, ⟨v, r, e, h1, h2, h3⟩ => ⟨v, r, e, h1.mono hγ hK, h2, h3.mono hγ hK⟩
def RepV (γ : Ghs) (K : Kn) : Val → Value → Prop
  | .one c, v => RepCell γ K c v
  | .agg cs, v => ∃ vs, v = .agg vs.toArray ∧ RepCs γ K cs vs
theorem RepV.mono {γ γ' : Ghs} {K K' : Kn} (hγ : γ.le γ') (hK : K.le K') {x : Val} {v : Value} (h : RepV γ K x v) : RepV γ' K' x v := by
  cases x with
  | one c => exact RepCell.mono hγ hK h
  | agg cs => obtain ⟨vs, e, h⟩ := h; exact ⟨vs, e, h.mono hγ hK⟩
def RepVs (γ : Ghs) (K : Kn) : List Val → List Value → Prop
  | [], vs => vs = []
  | c :: cs, vs => ∃ v r, vs = v :: r ∧ RepV γ K c v ∧ RepVs γ K cs r
theorem RepVs.mono {γ γ' : Ghs} {K K' : Kn} (hγ : γ.le γ') (hK : K.le K') : ∀ {cs : List Val} {vs : List Value}, RepVs γ K cs vs → RepVs γ' K' cs vs
  | [], _, h => h
  | _ :: _, _, ⟨v, r, e, h1, h3⟩ => ⟨v, r, e, h1.mono hγ hK, h3.mono hγ hK⟩
def RepSV (γ : Ghs) (K : Kn) : SV → Value → Prop
  | .val x, v => RepV γ K x v
  | .tup l, v => ∃ vs, v = .tuple vs.toArray ∧ RepVs γ K l vs
theorem RepSV.mono {γ γ' : Ghs} {K K' : Kn} (hγ : γ.le γ') (hK : K.le K') {x : SV} {v : Value} (h : RepSV γ K x v) : RepSV γ' K' x v := by
  cases x with
  | val c => exact RepV.mono hγ hK h
  | tup cs => obtain ⟨vs, e, h⟩ := h; exact ⟨vs, e, h.mono hγ hK⟩

/-! ### objects -/
def okFz (fz : Nat × Nat) (n : Nat) : Prop := fz.1 = fz.2 ∨ n ≤ fz.1
/-- the slice '.slice A n c' of the call's own: its first cells are xs -/
def rowOk (q : TypeId → Prop) (w : World) (A : Option Addr) (c size n : Nat) (xs : List Value) : Prop :=
  xs.length = n * size ∧ ((A = none ∧ c = 0 ∧ n = 0) ∨
    ∃ g cur e fz, A = some ⟨g, 0, none⟩ ∧ w.heap[g]? = some (.cells cur e fz) ∧ okFz fz cur.size ∧ n ≤ c ∧ c ≤ maxLen ∧ c * size ≤ cur.size ∧ cur.toList.take (n * size) = xs ∧ q e)
/-- rows of bytes lie in blocks of bytes -/
def qOf (t : Ty) : TypeId → Prop := fun e => t = .u8 → e = ub
/-- cells of a variable: where a nil pointer is said, a pointer to the variable itself may stand -/
def Slf (b : Nat) (us vs : List Value) : Prop := us.length = vs.length ∧ ∀ (i : Nat) (u v : Value), us[i]? = some u → vs[i]? = some v → u = v ∨ (v = Value.pointer none ∧ u = Value.pointer (some ⟨b, 0, none⟩))
theorem Slf.refl (b : Nat) (vs : List Value) : Slf b vs vs := ⟨rfl, fun i u v h1 h2 => by rw [h1] at h2; injection h2 with h2; exact .inl h2⟩
theorem RepCell.nn {γ : Ghs} {K : Kn} {c : Cell} {v : Value} (h : RepCell γ K c v) (hc : c.solid = true) : v ≠ .pointer none := by
  intro e
  subst e
  cases c with
  | v t x =>
    cases t <;> first | (cases hc; done) | skip
    all_goals first | (simp [RepCell, RepC] at h; done) | skip
  | row j hv => cases h.1
  | cut j hv lo n => cases h.1
  | el j hv i off => cases h.1
  | ptr j off => obtain ⟨g, b, _, _, _, h⟩ := h; cases h
  | it j => obtain ⟨g, b, _, _, _, h⟩ := h; cases h
  | mp j => obtain ⟨g, b, _, _, _, h⟩ := h; cases h
  | kp t x => obtain ⟨ad, cs, h, _⟩ := h; cases h
  | fn f => simp only [RepCell] at h; cases h
  | clo f js => obtain ⟨vs, h, _⟩ := h; cases h
  | nils => simp only [RepCell] at h; cases h
  | nilp => cases hc
  | undef => cases hc
theorem RepCs_at {γ : Ghs} {K : Kn} : ∀ {cs : List Cell} {vs : List Value}, RepCs γ K cs vs → ∀ (i : Nat) (v : Value), vs[i]? = some v → ∃ c, cs[i]? = some c ∧ RepCell γ K c v
  | [], _, h, i, v, hv => by cases h; simp at hv
  | c :: cs, _, ⟨v0, r, e, h1, _, h3⟩, i, v, hv => by
    subst e
    cases i with
    | zero => simp at hv; subst hv; exact ⟨c, rfl, h1⟩
    | succ i => exact RepCs_at h3 i v (by simpa using hv)
theorem solids_at : ∀ {cs : List Cell}, solids cs = true → ∀ (i : Nat) (c : Cell), cs[i]? = some c → c.solid = true
  | [], _, i, c, h => by simp at h
  | d :: cs, h, i, c, hc => by
    simp only [solids] at h
    cases hd : d.solid with
    | false => rw [hd] at h; cases h
    | true =>
      rw [hd] at h
      cases i with
      | zero => simp at hc; subst hc; exact hd
      | succ i => exact solids_at h i c (by simpa using hc)
theorem Slf.cut {b : Nat} {us vs : List Value} (h : Slf b us vs) {γ : Ghs} {K : Kn} {cs : List Cell} (hr : RepCs γ K cs vs) {off n : Nat} (hs : ∀ i c, i < n → cs[off + i]? = some c → c.solid = true) : (us.drop off).take n = (vs.drop off).take n := by
  apply List.ext_getElem?
  intro i
  simp only [List.getElem?_take, List.getElem?_drop]
  split
  · rename_i hi
    cases hv : vs[off + i]? with
    | none =>
      rw [List.getElem?_eq_none_iff] at hv ⊢
      have := h.1
      omega
    | some v =>
      have hl := (List.getElem?_eq_some_iff.1 hv).1
      have hu : off + i < us.length := by have := h.1; omega
      obtain ⟨c, hc, hcr⟩ := RepCs_at hr _ v hv
      rcases h.2 (off + i) us[off + i] v (by simp [hu]) hv with e | ⟨e, _⟩
      · rw [← e]; simp [hu]
      · exact absurd e (hcr.nn (hs i c hi hc))
  · rfl
theorem Slf.all {b : Nat} {us vs : List Value} (h : Slf b us vs) {γ : Ghs} {K : Kn} {cs : List Cell} (hr : RepCs γ K cs vs) (hs : solids cs = true) : us = vs := by
  have := h.cut hr (off := 0) (n := vs.length) fun i c _ hc => solids_at hs _ c hc
  rw [List.drop_zero, List.drop_zero, List.take_of_length_le (by have := h.1; omega), List.take_of_length_le (Nat.le_refl _)] at this
  exact this
/-- a key or a value of a map -/
def valS : (t : Ty) → t.den → Value
  | .int k, x => .int k x
  | .bool, x => .bool x
  | .str, x => .string (bst x)
  | _, _ => .nilFunc
def RepM (kt vt : Ty) : List (kt.den × vt.den) → List MapEntry → Prop
  | [], l => l = []
  | x :: r, l => ∃ e l', l = e :: l' ∧ e.key = valS kt x.1 ∧ e.val = valS vt x.2 ∧ RepM kt vt r l'
def ObOk (γ : Ghs) (K : Kn) (w : World) (g : Gh) : Ob → Prop
  | .box t cs => ∃ b vs, g.hv = 0 ∧ g.a = some ⟨b, 0, none⟩ ∧ (∃ us, w.heap[b]? = some (.cells (List.toArray us) t (0, 0)) ∧ Slf b us vs) ∧ RepCs γ K cs vs ∧ ∀ o, K b o = none
  | .row h t xs => g.hv = h ∧ 0 < h ∧ g.n = xs.length ∧ g.sz = t.size ∧ 0 < t.size ∧ ∃ vs, rowOk (qOf t) w g.a g.c t.size xs.length vs ∧ RepL (RepC K t) xs vs ∧ ∀ ad, g.a = some ad → ∀ o, K ad.block o = none
  | .frz h t xs => g.hv = h ∧ 0 < h ∧ g.n = xs.length ∧ g.sz = t.size ∧ 0 < t.size ∧ xs.length ≤ g.c ∧ g.c ≤ maxLen ∧ ∃ es, RepL (RepC K t) xs es ∧ At K g.a es
  | .iter s p => ∃ b, g.hv = 0 ∧ g.a = some ⟨b, 0, none⟩ ∧ w.heap[b]? = some (.stringIter (bst s) p) ∧ ∀ o, K b o = none
  | .map kt vt es => ∃ b arr clock, g.hv = 0 ∧ g.a = some ⟨b, 0, none⟩ ∧ w.heap[b]? = some (.map (List.toArray arr) clock) ∧ RepM kt vt es arr ∧ (keyEq kt).isSome = true ∧ valTy vt = true ∧ ∀ o, K b o = none
  | .gone => True
def Ob.owns : Ob → Bool
  | .box _ _ | .row _ _ _ | .iter _ _ | .map _ _ _ => true
  | _ => false
theorem ObOk.mono {γ γ' : Ghs} {K K' : Kn} {w w' : World} {g : Gh} (hγ : γ.le γ') (hK : K.le K') {o : Ob} (hw : o.owns = true → ∀ ad, g.a = some ad → w'.heap[ad.block]? = w.heap[ad.block]? ∧ ∀ i, K' ad.block i = K ad.block i) (h : ObOk γ K w g o) : ObOk γ' K' w' g o := by
  cases o with
  | box t cs =>
    obtain ⟨b, vs, h0, h1, h2, h3, h4⟩ := h
    have := hw rfl _ h1
    exact ⟨b, vs, h0, h1, by rw [this.1]; exact h2, h3.mono hγ hK, fun o => by rw [this.2]; exact h4 o⟩
  | row hv t xs =>
    obtain ⟨h0, h1, h2, h3, h4, vs, h5, h6, h7⟩ := h
    refine ⟨h0, h1, h2, h3, h4, vs, ⟨h5.1, ?_⟩, RepL_mono (fun _ _ hx => RepC_mono hK hx) h6, fun ad ha o => by rw [(hw rfl _ ha).2]; exact h7 ad ha o⟩
    rcases h5.2 with h5 | ⟨b, cur, e, fz, k1, k2, k3⟩
    · exact .inl h5
    · exact .inr ⟨b, cur, e, fz, k1, by rw [(hw rfl _ k1).1]; exact k2, k3⟩
  | frz hv t xs =>
    obtain ⟨h0, h1, h2, h3, h4, h5, h6, es, h7, h8⟩ := h
    exact ⟨h0, h1, h2, h3, h4, h5, h6, es, RepL_mono (fun _ _ hx => RepC_mono hK hx) h7, h8.mono hK⟩
  | iter s p =>
    obtain ⟨b, h0, h1, h2, h4⟩ := h
    have := hw rfl _ h1
    exact ⟨b, h0, h1, by rw [this.1]; exact h2, fun o => by rw [this.2]; exact h4 o⟩
  | map kt vt es =>
    obtain ⟨b, arr, clock, h0, h1, h2, h3, h5, h6, h4⟩ := h
    have := hw rfl _ h1
    exact ⟨b, arr, clock, h0, h1, by rw [this.1]; exact h2, h3, h5, h6, fun o => by rw [this.2]; exact h4 o⟩
  | gone => trivial

structure Hp (w0 : World) (K0 : Kn) (H : Nat → Prop) (γ : Ghs) (ob : Obs) (K : Kn) (w : World) : Prop where
  os : w.os = w0.os
  tape : w.tape = w0.tape
  output : w.output = w0.output
  size : w0.heap.size ≤ w.heap.size
  blk : ∀ b, b < w0.heap.size → ¬ H b → w.heap[b]? = w0.heap[b]? ∧ ∀ o, K b o = K0 b o
  mono : K0.le K
  kok : KOk K w
  ok : ∀ j o g, ob j = some o → γ j = some g → ObOk γ K w g o
  own : ∀ j o g, ob j = some o → γ j = some g → o.owns = true → ∀ ad, g.a = some ad → w0.heap.size ≤ ad.block ∨ H ad.block
  sep : ∀ i j p q g g', ob i = some p → ob j = some q → γ i = some g → γ j = some g' → p.owns = true → q.owns = true → i ≠ j → ∀ ad ad', g.a = some ad → g'.a = some ad' → ad.block ≠ ad'.block

def fset {β : Type} (f : Nat → Option β) (j : Nat) (x : β) : Nat → Option β := fun i => if i = j then some x else f i
theorem fset_same {β : Type} (f : Nat → Option β) (j : Nat) (x : β) : fset f j x j = some x := by simp [fset]
theorem fset_ne {β : Type} (f : Nat → Option β) {i j : Nat} (x : β) (h : i ≠ j) : fset f j x i = f i := by simp [fset, h]

section
variable {w0 w w' : World} {K0 K : Kn} {H : Nat → Prop} {γ : Ghs} {ob : Obs}

theorem ObOk.block {g : Gh} {o : Ob} (h : ObOk γ K w g o) (ho : o.owns = true) {ad : Addr} (ha : g.a = some ad) : ad.block < w.heap.size ∧ ad.off = 0 ∧ ad.spot = none := by
  cases o with
  | box t cs =>
    obtain ⟨b, vs, _, h1, ⟨us, h2, _⟩, _⟩ := h
    rw [ha] at h1; injection h1 with h1; subst h1
    exact ⟨(Array.getElem?_eq_some_iff.1 h2).1, rfl, rfl⟩
  | row hv t xs =>
    obtain ⟨_, _, _, _, _, vs, h5, _⟩ := h
    rcases h5.2 with ⟨h5, _⟩ | ⟨b, cur, e, fz, k1, k2, _⟩
    · rw [ha] at h5; cases h5
    · rw [ha] at k1; injection k1 with k1; subst k1
      exact ⟨(Array.getElem?_eq_some_iff.1 k2).1, rfl, rfl⟩
  | iter s p =>
    obtain ⟨b, _, h1, h2, _⟩ := h
    rw [ha] at h1; injection h1 with h1; subst h1
    exact ⟨(Array.getElem?_eq_some_iff.1 h2).1, rfl, rfl⟩
  | map kt vt es =>
    obtain ⟨b, _, _, _, h1, h2, _⟩ := h
    rw [ha] at h1; injection h1 with h1; subst h1
    exact ⟨(Array.getElem?_eq_some_iff.1 h2).1, rfl, rfl⟩
  | frz _ _ _ => cases ho
  | gone => cases ho

/-- an own object knows nothing of its block for good -/
theorem ObOk.none {g : Gh} {o : Ob} (h : ObOk γ K w g o) (ho : o.owns = true) {ad : Addr} (ha : g.a = some ad) : ∀ i, K ad.block i = none := by
  cases o with
  | box t cs =>
    obtain ⟨b, vs, _, h1, h2, _, h4⟩ := h
    rw [ha] at h1; injection h1 with h1; subst h1; exact h4
  | row hv t xs => obtain ⟨_, _, _, _, _, vs, _, _, h7⟩ := h; exact h7 ad ha
  | iter s p =>
    obtain ⟨b, _, h1, h2, h4⟩ := h
    rw [ha] at h1; injection h1 with h1; subst h1; exact h4
  | map kt vt es =>
    obtain ⟨b, _, _, _, h1, h2, _, _, _, h4⟩ := h
    rw [ha] at h1; injection h1 with h1; subst h1; exact h4
  | frz _ _ _ => cases ho
  | gone => cases ho

/-- an object comes, or changes: in its own block, or in a new one -/
theorem Hp.turn (h : Hp w0 K0 H γ ob K w) (j : Nat) (g' : Gh) (o' : Ob) (os : w'.os = w.os) (tape : w'.tape = w.tape) (output : w'.output = w.output) (size : w.heap.size ≤ w'.heap.size)
    (hle : ∀ g, γ j = some g → g.hv ≤ g'.hv ∧ (g'.hv = g.hv ∨ g.hv = 0 → g' = g))
    (hblk : ∀ b, b < w.heap.size → (∀ o g ad, ob j = some o → γ j = some g → o.owns = true → g.a = some ad → b ≠ ad.block) → w'.heap[b]? = w.heap[b]?)
    (hnew : o'.owns = true → ∀ ad', g'.a = some ad' → w.heap.size ≤ ad'.block ∨ ∃ o g ad, ob j = some o ∧ γ j = some g ∧ o.owns = true ∧ g.a = some ad ∧ ad.block = ad'.block)
    (hok : ObOk (fset γ j g') K w' g' o') : Ghs.le γ (fset γ j g') ∧ Hp w0 K0 H (fset γ j g') (fset ob j o') K w' := by
  have hγ : Ghs.le γ (fset γ j g') := fun i g hg => by
    by_cases hij : i = j
    · subst hij; exact ⟨g', fset_same _ _ _, hle g hg⟩
    · exact ⟨g, by rw [fset_ne _ _ hij]; exact hg, Nat.le_refl _, fun _ => rfl⟩
  have keep : ∀ b, b < w.heap.size → (∀ o, K b o = none → True) → (∃ o v, K b o = some v) → w'.heap[b]? = w.heap[b]? := fun b hb _ ⟨o, v, hv⟩ => by
    refine hblk b hb fun p g ad h1 h2 h3 h4 e => ?_
    have := (h.ok j p g h1 h2).none h3 h4 o
    rw [← e, hv] at this; cases this
  have other : ∀ i p g ad, i ≠ j → ob i = some p → γ i = some g → p.owns = true → g.a = some ad → w'.heap[ad.block]? = w.heap[ad.block]? := fun i p g ad hij h1 h2 h3 h4 => by
    refine hblk _ ((h.ok i p g h1 h2).block h3 h4).1 fun q g2 ad2 k1 k2 k3 k4 => ?_
    exact h.sep i j p q g g2 h1 k1 h2 k2 h3 k3 hij ad ad2 h4 k4
  refine ⟨hγ, ?_⟩
  constructor
  · rw [os, h.os]
  · rw [tape, h.tape]
  · rw [output, h.output]
  · exact Nat.le_trans h.size size
  · intro b hb hH
    refine ⟨?_, (h.blk b hb hH).2⟩
    rw [hblk b (Nat.lt_of_lt_of_le hb h.size) fun p g ad h1 h2 h3 h4 e => ?_]
    · exact (h.blk b hb hH).1
    · rcases h.own j p g h1 h2 h3 ad h4 with k | k
      · omega
      · rw [e] at hH; exact hH k
  · exact h.mono
  · intro b o v hv
    obtain ⟨cs, e, fz, h1, h2⟩ := h.kok b o v hv
    exact ⟨cs, e, fz, by rw [keep b (Array.getElem?_eq_some_iff.1 h1).1 (fun _ _ => trivial) ⟨o, v, hv⟩]; exact h1, h2⟩
  · intro i p g h1 h2
    by_cases hij : i = j
    · subst hij
      rw [fset_same] at h1 h2
      injection h1 with h1; injection h2 with h2; subst h1; subst h2
      exact hok
    · rw [fset_ne _ _ hij] at h1 h2
      exact (h.ok i p g h1 h2).mono hγ (Kn.le.refl K) fun ho ad ha => ⟨other i p g ad hij h1 h2 ho ha, fun _ => rfl⟩
  · intro i p g h1 h2 ho ad ha
    by_cases hij : i = j
    · subst hij
      rw [fset_same] at h1 h2
      injection h1 with h1; injection h2 with h2; subst h1; subst h2
      rcases hnew ho ad ha with k | ⟨q, g2, ad2, k1, k2, k3, k4, k5⟩
      · exact .inl (Nat.le_trans h.size k)
      · rw [← k5]; exact h.own i q g2 k1 k2 k3 ad2 k4
    · rw [fset_ne _ _ hij] at h1 h2
      exact h.own i p g h1 h2 ho ad ha
  · have key : ∀ i p g, i ≠ j → ob i = some p → γ i = some g → p.owns = true → o'.owns = true → ∀ ad ad', g.a = some ad → g'.a = some ad' → ad.block ≠ ad'.block := fun i p g hij h1 h2 h3 h4 ad ad' k1 k2 e => by
      rcases hnew h4 ad' k2 with k | ⟨q, g2, ad2, q1, q2, q3, q4, q5⟩
      · have := ((h.ok i p g h1 h2).block h3 k1).1; omega
      · exact h.sep i j p q g g2 h1 q1 h2 q2 h3 q3 hij ad ad2 k1 q4 (by rw [q5]; exact e)
    intro i k p q g g2 h1 h2 h3 h4 h5 h6 hik ad ad' k1 k2
    by_cases hi : i = j
    · subst hi
      rw [fset_same] at h1 h3
      injection h1 with h1; injection h3 with h3; subst h1; subst h3
      rw [fset_ne _ _ (Ne.symm hik)] at h2 h4
      exact fun e => key k q g2 (Ne.symm hik) h2 h4 h6 h5 ad' ad k2 k1 e.symm
    · rw [fset_ne _ _ hi] at h1 h3
      by_cases hk : k = j
      · subst hk
        rw [fset_same] at h2 h4
        injection h2 with h2; injection h4 with h4; subst h2; subst h4
        exact key i p g hi h1 h3 h5 h6 ad ad' k1 k2
      · rw [fset_ne _ _ hk] at h2 h4
        exact h.sep i k p q g g2 h1 h2 h3 h4 h5 h6 hik ad ad' k1 k2

/-- an object is given up -/
theorem Hp.gone (h : Hp w0 K0 H γ ob K w) (j : Nat) : Hp w0 K0 H γ (fset ob j .gone) K w := by
  refine ⟨h.os, h.tape, h.output, h.size, h.blk, h.mono, h.kok, fun i o g h1 h2 => ?_, fun i o g h1 h2 h3 => ?_, fun i k p q g g' h1 h2 h3 h4 h5 h6 => ?_⟩
  · by_cases hij : i = j
    · subst hij; rw [fset_same] at h1; injection h1 with h1; subst h1; trivial
    · rw [fset_ne _ _ hij] at h1; exact h.ok i o g h1 h2
  · by_cases hij : i = j
    · subst hij; rw [fset_same] at h1; injection h1 with h1; subst h1; cases h3
    · rw [fset_ne _ _ hij] at h1; exact h.own i o g h1 h2 h3
  · by_cases hi : i = j
    · subst hi; rw [fset_same] at h1; injection h1 with h1; subst h1; cases h5
    · by_cases hk : k = j
      · subst hk; rw [fset_same] at h2; injection h2 with h2; subst h2; cases h6
      · rw [fset_ne _ _ hi] at h1; rw [fset_ne _ _ hk] at h2; exact h.sep i k p q g g' h1 h2 h3 h4 h5 h6

/-- less is known of the objects -/
theorem Hp.less (h : Hp w0 K0 H γ ob K w) {ob' : Obs} (hl : ∀ j o, ob' j = some o → ob j = some o) : Hp w0 K0 H γ ob' K w :=
  ⟨h.os, h.tape, h.output, h.size, h.blk, h.mono, h.kok, fun i o g h1 h2 => h.ok i o g (hl _ _ h1) h2, fun i o g h1 h2 h3 => h.own i o g (hl _ _ h1) h2 h3, fun i k p q g g' h1 h2 h3 h4 h5 h6 => h.sep i k p q g g' (hl _ _ h1) (hl _ _ h2) h3 h4 h5 h6⟩

/-- more is known for good: cells of the block of the object j, which is now frozen -/
def frzK (K : Kn) (A : Option Addr) (vs : List Value) : Kn := fun b o => match A with
  | none => K b o
  | some ad => if b = ad.block then vs[o]? else K b o
theorem Hp.frz (h : Hp w0 K0 H γ ob K w) (j : Nat) {hv : Nat} {t : Ty} {xs : List t.den} (hj : ob j = some (.row hv t xs) ∨ ob j = some (.frz hv t xs)) :
    ∃ K', K.le K' ∧ Hp w0 K0 H γ (fset ob j (.frz hv t xs)) K' w ∧ (∀ i p g ad, i ≠ j → ob i = some p → γ i = some g → p.owns = true → g.a = some ad → ∀ o, K' ad.block o = K ad.block o) := by
  cases hg : γ j with
  | none =>
    refine ⟨K, Kn.le.refl K, ?_, fun _ _ _ _ _ _ _ _ _ _ => rfl⟩
    refine ⟨h.os, h.tape, h.output, h.size, h.blk, h.mono, h.kok, fun i o g h1 h2 => ?_, fun i o g h1 h2 h3 => ?_, fun i k p q g g' h1 h2 h3 h4 h5 h6 => ?_⟩
    · by_cases hij : i = j
      · subst hij; rw [hg] at h2; cases h2
      · rw [fset_ne _ _ hij] at h1; exact h.ok i o g h1 h2
    · by_cases hij : i = j
      · subst hij; rw [hg] at h2; cases h2
      · rw [fset_ne _ _ hij] at h1; exact h.own i o g h1 h2 h3
    · by_cases hi : i = j
      · subst hi; rw [hg] at h3; cases h3
      · by_cases hk : k = j
        · subst hk; rw [hg] at h4; cases h4
        · rw [fset_ne _ _ hi] at h1; rw [fset_ne _ _ hk] at h2; exact h.sep i k p q g g' h1 h2 h3 h4 h5 h6
  | some g =>
    rcases hj with hj | hj
    · have hok := h.ok j _ g hj hg
      have hok' := hok
      obtain ⟨e0, e1, e2, e3, e4, vs, hr, hL, hN⟩ := hok
      have hKle : K.le (frzK K g.a vs) := fun b o v hv => by
        unfold frzK
        split
        · exact hv
        · rename_i ad ha
          split
          · rename_i hb; rw [hb, hN ad ha o] at hv; cases hv
          · exact hv
      have hoth : ∀ i p g2 ad, i ≠ j → ob i = some p → γ i = some g2 → p.owns = true → g2.a = some ad → ∀ o, frzK K g.a vs ad.block o = K ad.block o := fun i p g2 ad hij h1 h2 h3 h4 o => by
        unfold frzK
        split
        · rfl
        · rename_i ad' ha
          rw [if_neg (h.sep i j p _ g2 g h1 hj h2 hg h3 rfl hij ad ad' h4 ha)]
      refine ⟨frzK K g.a vs, hKle, ?_, hoth⟩
      have hnd : ∀ i p g2, fset ob j (.frz hv t xs) i = some p → p.owns = true → γ i = some g2 → i ≠ j ∧ ob i = some p := fun i p g2 h1 h2 _ => by
        by_cases hij : i = j
        · subst hij; rw [fset_same] at h1; injection h1 with h1; subst h1; cases h2
        · rw [fset_ne _ _ hij] at h1; exact ⟨hij, h1⟩
      refine ⟨h.os, h.tape, h.output, h.size, ?_, h.mono.trans hKle, ?_, ?_, ?_, ?_⟩
      · intro b hb hH
        refine ⟨(h.blk b hb hH).1, fun o => ?_⟩
        rw [← (h.blk b hb hH).2 o]
        unfold frzK
        split
        · rfl
        · rename_i ad ha
          split
          · rename_i hbb
            rcases h.own j _ g hj hg rfl ad ha with k | k
            · omega
            · rw [hbb] at hH; exact absurd k hH
          · rfl
      · intro b o v hv'
        unfold frzK at hv'
        split at hv'
        · exact h.kok b o v hv'
        · rename_i ad ha
          split at hv'
          · rename_i hb
            rcases hr.2 with ⟨h5, _⟩ | ⟨b', cur, e, fz, k1, k2, k3, k4, k5, k6, k7⟩
            · rw [ha] at h5; cases h5
            · rw [ha] at k1; injection k1 with k1
              subst k1
              have h1 : v.oneCell' = true := RepL_all (fun v => v.oneCell' = true) (fun x cs h => RepC_one h) hL v (List.mem_of_getElem? hv')
              refine ⟨cur, e, fz, by rw [hb]; exact k2, fun _ => ?_, fun hm => by subst hm; cases h1⟩
              rw [← k7.1, List.getElem?_take] at hv'
              split at hv'
              · simpa using hv'
              · cases hv'
          · exact h.kok b o v hv'
      · intro i p g2 h1 h2
        by_cases hij : i = j
        · subst hij
          rw [fset_same] at h1; injection h1 with h1; subst h1
          rw [hg] at h2; injection h2 with h2; subst h2
          refine ⟨e0, e1, e2, e3, e4, ?_, ?_, vs, RepL_mono (fun _ _ hx => RepC_mono hKle hx) hL, ?_⟩
          · rcases hr.2 with ⟨_, h6, h7⟩ | ⟨b', cur, e, fz, k1, k2, k3, k4, k5, k6, k7⟩
            · omega
            · exact k4
          · rcases hr.2 with ⟨_, h6, h7⟩ | ⟨b', cur, e, fz, k1, k2, k3, k4, k5, k6, k7⟩
            · rw [h6]; exact Nat.zero_le _
            · exact k5
          · rcases hr.2 with ⟨h5, h6, h7⟩ | ⟨b', cur, e, fz, k1, k2, k3, k4, k5, k6, k7⟩
            · left; exact List.eq_nil_of_length_eq_zero (by rw [hr.1, h7]; simp)
            · right
              refine ⟨_, k1, rfl, fun q v hv' => ?_⟩
              unfold frzK
              rw [k1]
              simpa using hv'
        · rw [fset_ne _ _ hij] at h1
          exact (h.ok i p g2 h1 h2).mono (Ghs.le.refl γ) hKle fun ho ad ha => ⟨rfl, hoth i p g2 ad hij h1 h2 ho ha⟩
      · intro i p g2 h1 h2 h3
        have := hnd i p g2 h1 h3 h2
        exact h.own i p g2 this.2 h2 h3
      · intro i k p q g2 g3 h1 h2 h3 h4 h5 h6
        have a1 := hnd i p g2 h1 h5 h3
        have a2 := hnd k q g3 h2 h6 h4
        exact h.sep i k p q g2 g3 a1.2 a2.2 h3 h4 h5 h6
    · refine ⟨K, Kn.le.refl K, h.less fun i o hi => ?_, fun _ _ _ _ _ _ _ _ _ _ => rfl⟩
      by_cases hij : i = j
      · subst hij; rw [fset_same] at hi; rw [hj]; exact hi
      · rw [fset_ne _ _ hij] at hi; exact hi
end
end Go.W
end

section
/-
  The types' table, and the operations that leave the memory as it is. No program in it.
-/
namespace Go.W
open Go Go.RowKit

/-! ### the table of types -/
def zN (f : List Value → Option (List Value)) : Nat → List Value → Option (List Value)
  | 0, vs => some vs
  | n + 1, vs => match f vs with
    | some r => zN f n r
    | none => none
/-- the cells behind a zero value -/
def zC : Ty → List Value → Option (List Value)
  | .int k, .int k' (.ofNat 0) :: r => bsel (kSame k k') (some r) none
  | .u8, .int .u8 (.ofNat 0) :: r => some r
  | .bool, .bool false :: r => some r
  | .nif, .nilIface :: r => some r
  | .str, .string s :: r => match s.data.toList with
    | [] => some r
    | _ => none
  | .slice _, .slice none 0 0 :: r => some r
  | .arr n t, vs => zN (zC t) n vs
  | .unit, vs => some vs
  | .pair a b, vs => match zC a vs with
    | some r => zC b r
    | none => none
  | .st t, vs => zC t vs
  | .nptr, .pointer none :: r => some r
  | _, _ => none
def Ty.isPair : Ty → Bool
  | .pair _ _ => true
  | _ => false
def tyIs (E : Env) (e : TypeId) (T : Ty) : Bool := match E.t e with
  | some T' => T'.same T
  | none => false
def fldOk (E : Env) : List Field → Nat → Ty → Bool
  | [], _, _ => false
  | [f], off, T => Nat.beq f.offset off && tyIs E f.type T && !T.isPair && (f.name != "_")
  | f :: g :: r, off, .pair a b => Nat.beq f.offset off && tyIs E f.type a && (f.name != "_") && fldOk E (g :: r) (off + a.size) b
  | _, _, _ => false
def zOk (T : Ty) (z : Value) : Bool := match T.agg, z with
  | true, .agg cs => match zC T cs.toList with
    | some [] => true
    | _ => false
  | false, v => match zC T [v] with
    | some [] => true
    | _ => false
  | _, _ => false
def Ty.dep : Ty → Nat
  | .st t => t.dep + 1
  | .pair a b => max a.dep b.dep
  | _ => 0
def chkT (E : Env) (t : TypeId) (T : Ty) : Bool :=
  (match E.P.info? t with
    | some i => Nat.beq i.size T.size && (match i.zero with
      | some z => zOk T z
      | none => false) && Nat.ble 1 T.size && Nat.ble 1 i.bytes && (match T with
      | .u8 => Nat.beq i.bytes 1
      | _ => true)
    | none => false) &&
  match E.P.underlying t, T with
  | some (.int k), .int k' => kSame k k' && !(kSame k .u8)
  | some (.int k), .u8 => kSame k .u8
  | some .bool, .bool => true
  | some (.interface _), .nif => true
  | some .string, .str => true
  | some (.slice e), .slice T' => tyIs E e T'
  | some (.array n e), .arr m T' => Nat.beq n m && tyIs E e T' && Nat.ble 1 n && Nat.ble n 16777216
  | some (.struct fs), .st B => fldOk E fs.toList 0 B && (bsel B.canEq (!E.P.stoodInHeld t && !E.P.eqGuardType E.P.depth t && Nat.ble B.dep 9000) true)
  | some (.pointer _), .nptr => true
  | _, _ => false
def chkAll (E : Env) : Nat → List (Option Ty) → Bool
  | _, [] => true
  | i, none :: r => chkAll E (i + 1) r
  | i, some T :: r => chkT E i T && chkAll E (i + 1) r
/-- what this function does: room for so many bytes, whatever they are -/
def NzOk (P : Program) (z : Nat) : Prop := ∀ (n : Nat) (w : World), n ≤ 140737488355328 → ∃ (bs : List UInt8) (d : Nat),
  (callFunc z #[.int .i64 n]).run P w = .ok (.value (.slice (some ⟨w.heap.size, 0, none⟩) n bs.length)) (World.alloc { w with drawn := d } (.cells (bs.map fun b => Value.int .u8 (b.toNat : Int)).toArray ub)) ∧ n ≤ bs.length ∧ bs.length ≤ maxLen
/-- only the marks of frozen cells in one block are others, and there may be new blocks -/
def SameBut (w w' : World) (A : Option Addr) : Prop := w'.os = w.os ∧ w'.tape = w.tape ∧ w'.output = w.output ∧ w.heap.size ≤ w'.heap.size ∧ (∀ b, b < w.heap.size → (∀ ad, A = some ad → b ≠ ad.block) → w'.heap[b]? = w.heap[b]?) ∧
  ∀ ad, A = some ad → ∀ cs e fz, w.heap[ad.block]? = some (.cells cs e fz) → ∃ fz', w'.heap[ad.block]? = some (.cells cs e fz')
/-- what the text of a Builder is -/
def BsOk (P : Program) (f t : Nat) : Prop := ∀ (w : World) (b : Nat) (p : Value) (A : Option Addr) (c : Nat) (xs : List UInt8), w.heap[b]? = some (.cells #[p, .slice A xs.length c] t (0, 0)) → c ≤ maxLen →
  ((A = none ∧ c = 0 ∧ xs = []) ∨ ∃ g cur fz, A = some ⟨g, 0, none⟩ ∧ w.heap[g]? = some (.cells cur ub fz) ∧ okFz fz cur.size ∧ xs.length ≤ c ∧ c ≤ cur.size ∧ cur.toList.take xs.length = xs.map fun b => Value.int .u8 (b.toNat : Int)) →
  ((callFunc f #[.pointer (some ⟨b, 0, none⟩)]).run P w = .ok (.enter f #[.pointer (some ⟨b, 0, none⟩)]) w) ∧ Calls P f #[.pointer (some ⟨b, 0, none⟩)] w fun e w' => e = .returned (.string (bst xs)) ∧ SameBut w w' A
structure EnvOk (E : Env) : Prop where
  chk : chkAll E 0 E.ty = true
  mixed : E.P.follows .mixedOrders = true
  nzok : ∀ z, E.nz = some z → NzOk E.P z
  bsok : ∀ z t, E.bs = some (z, t) → BsOk E.P z t

theorem nth_eq {α : Type} : ∀ (l : List α) (i : Nat), nth l i = l[i]?
  | [], i => by cases i <;> rfl
  | x :: l, 0 => rfl
  | x :: l, i + 1 => by simp only [nth, nth_eq l i, List.getElem?_cons_succ]
theorem chkAll_ok {E : Env} : ∀ (l : List (Option Ty)) (i : Nat), chkAll E i l = true → ∀ j T, l[j]? = some (some T) → chkT E (i + j) T = true
  | [], _, _, j, T, h => by simp at h
  | none :: r, i, h, 0, T, hj => by simp at hj
  | none :: r, i, h, j + 1, T, hj => by
    have := chkAll_ok r (i + 1) h j T (by simpa using hj)
    rwa [Nat.add_assoc, Nat.add_comm 1 j] at this
  | some S :: r, i, h, 0, T, hj => by
    simp only [chkAll, Bool.and_eq_true] at h
    simp only [List.getElem?_cons_zero, Option.some.injEq] at hj
    subst hj; exact h.1
  | some S :: r, i, h, j + 1, T, hj => by
    simp only [chkAll, Bool.and_eq_true] at h
    have := chkAll_ok r (i + 1) h.2 j T (by simpa using hj)
    rwa [Nat.add_assoc, Nat.add_comm 1 j] at this
theorem EnvOk.t {E : Env} (h : EnvOk E) {t : TypeId} {T : Ty} (ht : E.t t = some T) : chkT E t T = true := by
  unfold Env.t at ht
  split at ht
  · rename_i T' hT
    injection ht with ht; subst ht
    rw [nth_eq] at hT
    have := chkAll_ok E.ty 0 h.chk t T' hT
    rwa [Nat.zero_add] at this
  · cases ht
theorem kSame_eq {a b : IntKind} (h : kSame a b = true) : a = b := by
  unfold kSame at h
  split at h
  · rename_i p _; exact p.down
  · cases h
theorem same_eq {a b : Ty} (h : a.same b = true) : a = b := by
  unfold Ty.same at h
  split at h
  · rename_i p _; exact p.down
  · cases h
theorem tyIs_eq {E : Env} {e : TypeId} {T : Ty} (h : tyIs E e T = true) : E.t e = some T := by
  unfold tyIs at h
  split at h
  · rename_i T' hT; rw [hT, same_eq h]
  · cases h
theorem tcast_eq {a b : Ty} {x : a.den} {y : b.den} (h : tcast (a := a) b x = some y) : ∃ e : a = b, e ▸ x = y := by
  unfold tcast at h
  split at h
  · rename_i p _; injection h with h; exact ⟨p, h⟩
  · cases h

theorem zN_ok {α : Type} {R : α → List Value → Prop} {f : List Value → Option (List Value)} {z : α} (h : ∀ vs r, f vs = some r → ∃ cs, vs = cs ++ r ∧ R z cs) : ∀ (n : Nat) (vs r : List Value), zN f n vs = some r → ∃ cs, vs = cs ++ r ∧ RepL R (List.replicate n z) cs
  | 0, vs, r, h' => by simp only [zN, Option.some.injEq] at h'; subst h'; exact ⟨[], rfl, rfl⟩
  | n + 1, vs, r, h' => by
    simp only [zN] at h'
    split at h'
    · rename_i r1 h1
      obtain ⟨c1, e1, k1⟩ := h vs r1 h1
      obtain ⟨c2, e2, k2⟩ := zN_ok h n r1 r h'
      exact ⟨c1 ++ c2, by rw [e1, e2, List.append_assoc], c1, c2, rfl, k1, k2⟩
    · cases h'
theorem zC_ok (K : Kn) : ∀ (t : Ty) (vs r : List Value), zC t vs = some r → ∃ cs, vs = cs ++ r ∧ RepC K t t.zero cs := by
  intro t
  induction t with
  | int k =>
    intro vs r h
    rcases vs with _ | ⟨v, vs⟩
    · simp [zC] at h
    · cases v with
      | int k' n =>
        cases n with
        | ofNat m =>
          cases m with
          | zero =>
            simp only [zC, bsel] at h
            split at h
            · rename_i hk
              injection h with h; subst h
              have := kSame_eq hk; subst this
              exact ⟨[_], rfl, rfl⟩
            · cases h
          | succ m => exact absurd (show (none : Option (List Value)) = some r from h) (by simp)
        | negSucc m => simp [zC] at h
      | _ => simp [zC] at h
  | u8 =>
    intro vs r h
    unfold zC at h
    split at h <;> first | (rename_i heq; injection heq; done) | (injection h with h; subst h; exact ⟨[_], rfl, rfl⟩) | skip
    all_goals first | contradiction | (cases h; done) | skip
  | bool =>
    intro vs r h
    unfold zC at h
    split at h <;> first | contradiction | (injection h with h; subst h; exact ⟨[_], rfl, rfl⟩) | (cases h; done) | skip
  | nif =>
    intro vs r h
    unfold zC at h
    split at h <;> first | contradiction | (injection h with h; subst h; exact ⟨[_], rfl, rfl⟩) | (cases h; done) | skip
  | str =>
    intro vs r h
    unfold zC at h
    split at h <;> first | contradiction | (cases h; done) | skip
    rename_i s _ _
    split at h
    · rename_i hs
      injection h with h; subst h
      refine ⟨[_], rfl, ?_⟩
      simp only [RepC, Ty.zero, bst]
      cases s with
      | mk d =>
        simp only at hs
        have : d = #[] := by cases d; simp_all
        subst this; rfl
    · cases h
  | slice t _ =>
    intro vs r h
    unfold zC at h
    split at h <;> first | contradiction | (injection h with h; subst h; exact ⟨[_], rfl, none, 0, rfl, Nat.le_refl _, Nat.zero_le _, [], rfl, .inl rfl⟩) | (cases h; done) | skip
  | arr n t ih =>
    intro vs r h
    simp only [zC] at h
    obtain ⟨cs, e, hL⟩ := zN_ok (R := RepC K t) (z := t.zero) ih n vs r h
    exact ⟨cs, e, by simp [Ty.zero, lrep], hL⟩
  | unit => intro vs r h; simp only [zC, Option.some.injEq] at h; subst h; exact ⟨[], rfl, rfl⟩
  | pair a b iha ihb =>
    intro vs r h
    simp only [zC] at h
    split at h
    · rename_i r1 h1
      obtain ⟨c1, e1, k1⟩ := iha vs r1 h1
      obtain ⟨c2, e2, k2⟩ := ihb r1 r h
      exact ⟨c1 ++ c2, by rw [e1, e2, List.append_assoc], c1, c2, rfl, k1, k2⟩
    · cases h
  | st t ih => intro vs r h; exact ih vs r h
  | nptr =>
    intro vs r h
    unfold zC at h
    split at h <;> first | contradiction | (injection h with h; subst h; exact ⟨[_], rfl, rfl⟩) | (cases h; done) | skip

end Go.W
end

section
/-
  Values of a type in the memory: how they are read out of cells, and frozen. No program in it.
-/
namespace Go.W
open Go Go.RowKit

theorem app_eq {α : Type} : ∀ (a b : List α), app a b = a ++ b
  | [], b => rfl
  | x :: a, b => by simp only [app, app_eq a b, List.cons_append]
theorem lng_eq {α : Type} : ∀ (a : List α), lng a = a.length
  | [] => rfl
  | x :: a => by simp only [lng, lng_eq a, List.length_cons, Nat.succ_eq_add_one]
theorem drp_eq {α : Type} : ∀ (n : Nat) (a : List α), drp n a = a.drop n
  | 0, a => by simp [drp]
  | n + 1, [] => by simp [drp]
  | n + 1, x :: a => by simp only [drp, drp_eq n a, List.drop_succ_cons]
theorem tke_eq {α : Type} : ∀ (n : Nat) (a : List α), tke n a = a.take n
  | 0, a => by simp [tke]
  | n + 1, [] => by simp [tke]
  | n + 1, x :: a => by simp only [tke, tke_eq n a, List.take_succ_cons]

/-! ### updates -/
def updF : Upd → Obs → Obs
  | [], ob => ob
  | (j, o) :: r, ob => updF r (fset ob j o)
def newF : Nat → List Ob → Obs → Obs
  | _, [], ob => ob
  | j, o :: r, ob => newF (j + 1) r (fset ob j o)
theorem updF_app : ∀ (u v : Upd) (ob : Obs), updF (u ++ v) ob = updF v (updF u ob)
  | [], _, _ => rfl
  | (j, o) :: u, v, ob => updF_app u v _
/-- all rows of the list become frozen -/
def Frozen (ob : Obs) (u : Upd) : Prop := ∀ p ∈ u, ∃ h t xs, ob p.1 = some (.row h t xs) ∧ p.2 = .frz h t xs
theorem rowsIn_frozen (ob : Obs) : ∀ (cs : List Cell), Frozen ob (rowsIn ob cs)
  | [] => fun p hp => by cases hp
  | c :: cs => fun p hp => by
    have ih := rowsIn_frozen ob cs
    cases c with
    | row j h =>
      simp only [rowsIn] at hp
      split at hp
      · rename_i h t xs hj
        rcases List.mem_cons.1 hp with rfl | hp
        · exact ⟨h, t, xs, hj, rfl⟩
        · exact ih p hp
      · exact ih p hp
    | cut j h a b =>
      simp only [rowsIn] at hp
      split at hp
      · rename_i h t xs hj
        rcases List.mem_cons.1 hp with rfl | hp
        · exact ⟨h, t, xs, hj, rfl⟩
        · exact ih p hp
      · exact ih p hp
    | _ => exact ih p hp
theorem rowsIn_mem (ob : Obs) : ∀ (cs : List Cell) (c : Cell) (j : Nat), c ∈ cs → tokOf c = some j → ∀ h t xs, ob j = some (.row h t xs) → (j, Ob.frz h t xs) ∈ rowsIn ob cs
  | [], c, _, hc, _, _, _, _, _ => by cases hc
  | d :: cs, c, j, hc, hj, h, t, xs, ho => by
    rcases List.mem_cons.1 hc with rfl | hc
    · cases c with
      | row i hv => simp only [tokOf, Option.some.injEq] at hj; subst hj; simp [rowsIn, ho]
      | cut i hv a b => simp only [tokOf, Option.some.injEq] at hj; subst hj; simp [rowsIn, ho]
      | _ => cases hj
    · have ih := rowsIn_mem ob cs c j hc hj h t xs ho
      cases d with
      | row i hv => simp only [rowsIn]; split; exact List.mem_cons_of_mem _ ih; exact ih
      | cut i hv a b => simp only [rowsIn]; split; exact List.mem_cons_of_mem _ ih; exact ih
      | _ => exact ih

section
variable {w0 w : World} {K0 K : Kn} {H : Nat → Prop} {γ : Ghs} {ob : Obs}
/-- rows that are frozen one by one: 'ob0' is what the list speaks of -/
theorem Hp.frzL {ob0 : Obs} : ∀ (u : Upd) {ob : Obs} {K : Kn}, Frozen ob0 u → (∀ j h t xs, ob0 j = some (.row h t xs) → ob j = some (.row h t xs) ∨ ob j = some (.frz h t xs)) → Hp w0 K0 H γ ob K w →
    ∃ K', K.le K' ∧ Hp w0 K0 H γ (updF u ob) K' w ∧ (∀ j, (∃ p ∈ u, p.1 = j ∧ updF u ob j = some p.2) ∨ ((∀ p ∈ u, p.1 ≠ j) ∧ updF u ob j = ob j))
  | [], ob, K, _, _, h => ⟨K, Kn.le.refl K, h, fun j => .inr ⟨fun p hp => (by cases hp), rfl⟩⟩
  | (i, o) :: u, ob, K, hF, hob, h => by
    obtain ⟨hv, t, xs, h1, h2⟩ := hF (i, o) List.mem_cons_self
    simp only at h1 h2
    subst h2
    obtain ⟨K1, hle, hp, _⟩ := h.frz i (hob i hv t xs h1)
    have hob' : ∀ j h t xs, ob0 j = some (.row h t xs) → fset ob i (.frz hv t xs) j = some (.row h t xs) ∨ fset ob i (.frz hv t xs) j = some (.frz h t xs) := fun j h' t' xs' hj => by
      by_cases hij : j = i
      · subst hij; rw [h1] at hj; injection hj with hj; injection hj with e1 e2 e3; subst e1; subst e2; subst e3
        exact .inr (fset_same _ _ _)
      · rw [fset_ne _ _ hij]; exact hob j h' t' xs' hj
    obtain ⟨K2, hle2, hp2, hq⟩ := Hp.frzL (ob0 := ob0) u (fun p hp => hF p (List.mem_cons_of_mem _ hp)) (fun j h' t' xs' hj => by
      by_cases hij : j = i
      · subst hij; rw [h1] at hj; injection hj with hj; injection hj with e1 e2 e3; subst e1; subst e2; have e3 := eq_of_heq e3; subst e3
        exact .inr (fset_same _ _ _)
      · rw [fset_ne _ _ hij]; exact hob j h' t' xs' hj) hp
    refine ⟨K2, hle.trans hle2, hp2, fun j => ?_⟩
    rcases hq j with ⟨p, hpm, e1, e2⟩ | ⟨hno, e⟩
    · exact .inl ⟨p, List.mem_cons_of_mem _ hpm, e1, e2⟩
    · by_cases hij : j = i
      · subst hij
        refine .inl ⟨(j, _), List.mem_cons_self, rfl, ?_⟩
        show updF u (fset ob j (.frz hv t xs)) j = _
        rw [e, fset_same]
      · refine .inr ⟨fun p hp => ?_, ?_⟩
        · rcases List.mem_cons.1 hp with rfl | hp
          · exact Ne.symm hij
          · exact hno p hp
        · show updF u (fset ob i (.frz hv t xs)) j = _
          rw [e, fset_ne _ _ hij]
end

/-- the rows among the cells are frozen in 'ob2' as they stand in 'ob1' -/
def FzIn (ob1 ob2 : Obs) (cs : List Cell) : Prop := ∀ c ∈ cs, ∀ j, tokOf c = some j → ∀ h t xs, (ob1 j = some (.row h t xs) ∨ ob1 j = some (.frz h t xs)) → ob2 j = some (.frz h t xs)

section
variable {w0 w : World} {K0 K : Kn} {H : Nat → Prop} {γ : Ghs} {ob ob2 : Obs}

theorem repL_size {K : Kn} {t : Ty} : ∀ x cs, RepC K t x cs → cs.length = t.size := fun _ _ h => RepC_len h

theorem content_ok {e : Ty} {c : Cell} {xs : List e.den} {v : Value} (h : content ob e c = some xs) (hv : RepCell γ K c v) (hH : Hp w0 K0 H γ ob2 K w) (hF : FzIn ob ob2 [c]) : RepC K (.slice e) xs [v] := by
  have row : ∀ {j hv : Nat} {hh : Nat} {t : Ty} {ys : List t.den}, tokOf c = some j → (ob j = some (.row hh t ys) ∨ ob j = some (.frz hh t ys)) → hh = hv → ∀ g, γ j = some g → ∃ es, g.hv = hv ∧ g.n = ys.length ∧ g.sz = t.size ∧ ys.length ≤ g.c ∧ g.c ≤ maxLen ∧ RepL (RepC K t) ys es ∧ At K g.a es := by
    intro j hv hh t ys ht hj e g hg
    subst e
    have h2 := hF c (by simp) j ht hh t ys hj
    obtain ⟨e0, _, e2, e3, _, e5, e6, es, e7, e8⟩ := hH.ok j _ g h2 hg
    exact ⟨es, e0, e2, e3, e5, e6, e7, e8⟩
  cases c with
  | v t x =>
    cases t <;> simp only [content] at h <;> try (cases h; done)
    obtain ⟨e, hx⟩ := tcast_eq h
    injection e with e; subst e; subst hx
    exact hv
  | nils =>
    simp only [content, Option.some.injEq] at h
    subst h
    simp only [RepCell] at hv
    subst hv
    exact ⟨none, 0, rfl, Nat.le_refl _, Nat.zero_le _, [], rfl, .inl rfl⟩
  | row j hvv =>
    obtain ⟨h0, g, h1, h2, h3, h4⟩ := hv
    simp only [content] at h
    have fin : ∀ {hh : Nat} {t : Ty} {ys : List t.den}, (ob j = some (.row hh t ys) ∨ ob j = some (.frz hh t ys)) → bsel (Nat.beq hh hvv) (tcast (a := .slice t) (.slice e) ys) none = some xs → RepC K (.slice e) xs [v] := by
      intro hh t ys hj hx
      unfold bsel at hx
      split at hx
      · rename_i hb
        have hb := Nat.eq_of_beq_eq_true hb
        obtain ⟨e1, e2⟩ := tcast_eq hx
        injection e1 with e1; subst e1; subst e2
        obtain ⟨es, k1, k2, k3, k4, k5, k6, k7⟩ := row (hv := hvv) rfl hj hb g h1
        refine ⟨g.a, g.c, ?_, k4, k5, es, k6, k7⟩
        rw [h4 k1, k2]
      · cases hx
    split at h
    · rename_i hj; exact fin (.inl hj) h
    · rename_i hj; exact fin (.inr hj) h
    · cases h
  | cut j hvv lo n =>
    obtain ⟨h0, g, h1, h2, h3, h4⟩ := hv
    simp only [content] at h
    have fin : ∀ {hh : Nat} {t : Ty} {ys : List t.den}, (ob j = some (.row hh t ys) ∨ ob j = some (.frz hh t ys)) → bsel (Nat.beq hh hvv) (tcast (a := .slice t) (.slice e) (cutl ys lo n)) none = some xs → RepC K (.slice e) xs [v] := by
      intro hh t ys hj hx
      unfold bsel at hx
      split at hx
      · rename_i hb
        have hb := Nat.eq_of_beq_eq_true hb
        obtain ⟨e1, e2⟩ := tcast_eq hx
        injection e1 with e1; subst e1; subst e2
        obtain ⟨es, k1, k2, k3, k4, k5, k6, k7⟩ := row (hv := hvv) rfl hj hb g h1
        obtain ⟨q1, A, c, q2, q3, q4, q5, _⟩ := h4 k1
        have hl : (cutl ys lo n).length = n := by simp only [cutl, List.length_take, List.length_drop]; omega
        refine ⟨A, c, ?_, ?_, q4, (es.drop (lo * t.size)).take (n * t.size), ?_, ?_⟩
        · show [v] = [Value.slice A (cutl ys lo n).length c]; rw [q2, hl]
        · show (cutl ys lo n).length ≤ c; rw [hl]; exact q3
        · exact RepL_take repL_size n (RepL_drop repL_size lo k6)
        · rcases k7 with k7 | ⟨ad, a1, a2, a3⟩
          · left; subst k7; simp
          · by_cases hn : n = 0
            · left; subst hn; simp
            · right
              rcases q5 with q5 | q5
              · exact absurd q5 hn
              · refine ⟨ad.add (lo * g.sz), by rw [q5, a1]; rfl, by unfold Addr.add; split <;> simp [a2], fun i u hu => ?_⟩
                rw [k3]
                have : (ad.add (lo * t.size)).block = ad.block ∧ (ad.add (lo * t.size)).off = ad.off + lo * t.size := by
                  unfold Addr.add; split
                  · rename_i h0; exact ⟨rfl, by omega⟩
                  · exact ⟨rfl, rfl⟩
                rw [this.1, this.2, Nat.add_assoc]
                refine a3 _ u ?_
                rw [List.getElem?_take] at hu
                split at hu
                · rwa [List.getElem?_drop] at hu
                · cases hu
      · cases hx
    split at h
    · rename_i hj; exact fin (.inl hj) h
    · rename_i hj; exact fin (.inr hj) h
    · cases h
  | _ => simp only [content] at h; cases h

theorem FzIn.sub {cs ds : List Cell} (h : FzIn ob ob2 cs) (hs : ∀ c ∈ ds, c ∈ cs) : FzIn ob ob2 ds := fun c hc => h c (hs c hc)

def BldOk (γ : Ghs) (K : Kn) {α : Type} (R : α → List Value → Prop) (f : List Cell → Option (α × List Cell)) (cs : List Cell) : Prop :=
  ∀ x r vs, f cs = some (x, r) → RepCs γ K cs vs → ∃ v1 v2, vs = v1 ++ v2 ∧ R x v1 ∧ RepCs γ K r v2 ∧ ∃ d, cs = d ++ r
theorem bldN_ok {α : Type} {R : α → List Value → Prop} {f : List Cell → Option (α × List Cell)} {cs0 : List Cell} (hf : ∀ cs, (∀ c ∈ cs, c ∈ cs0) → BldOk γ K R f cs) : ∀ (n : Nat) (cs : List Cell), (∀ c ∈ cs, c ∈ cs0) → BldOk γ K (fun x vs => x.length = n ∧ RepL R x vs) (bldN f n) cs
  | 0, cs, _ => fun x r vs h hv => by
    simp only [bldN, Option.some.injEq, Prod.mk.injEq] at h
    obtain ⟨rfl, rfl⟩ := h
    exact ⟨[], vs, rfl, ⟨rfl, rfl⟩, hv, [], rfl⟩
  | n + 1, cs, hs => fun x r vs h hv => by
    simp only [bldN] at h
    split at h
    · rename_i y r1 h1
      split at h
      · rename_i l r2 h2
        simp only [Option.some.injEq, Prod.mk.injEq] at h
        obtain ⟨rfl, rfl⟩ := h
        obtain ⟨v1, v2, e, k1, k2, d, hd⟩ := hf cs hs y r1 vs h1 hv
        have hs' : ∀ c ∈ r1, c ∈ cs0 := fun c hc => hs c (by rw [hd]; exact List.mem_append_right _ hc)
        obtain ⟨u1, u2, e', q1, q2, d', hd'⟩ := bldN_ok hf n r1 hs' l r2 v2 h2 k2
        refine ⟨v1 ++ u1, u2, by rw [e, e', List.append_assoc], ⟨by simp [q1.1], v1, u1, rfl, k1, q1.2⟩, q2, d ++ d', by rw [hd, hd', List.append_assoc]⟩
      · cases h
    · cases h

theorem bld_ok (hH : Hp w0 K0 H γ ob2 K w) {cs0 : List Cell} (hF : FzIn ob ob2 cs0) : ∀ (t : Ty) (cs : List Cell), (∀ c ∈ cs, c ∈ cs0) → BldOk γ K (RepC K t) (bld ob t) cs := by
  intro t
  have scal : ∀ {t : Ty} {cs : List Cell}, (∀ x r vs, bld ob t cs = some (x, r) → RepCs γ K cs vs → ∃ c v vr, cs = c :: r ∧ vs = v :: vr ∧ RepC K t x [v] ∧ RepCs γ K r vr) → BldOk γ K (RepC K t) (bld ob t) cs := fun {t cs} h x r vs hx hv => by
    obtain ⟨c, v, vr, e1, e2, h1, h2⟩ := h x r vs hx hv
    exact ⟨[v], vr, e2, h1, h2, [c], e1⟩
  induction t with
  | unit => intro cs _ x r vs h hv; simp only [bld, Option.some.injEq, Prod.mk.injEq] at h; obtain ⟨_, rfl⟩ := h; exact ⟨[], vs, rfl, rfl, hv, [], rfl⟩
  | pair a b iha ihb =>
    intro cs hs x r vs h hv
    simp only [bld] at h
    split at h
    · rename_i y r1 h1
      split at h
      · rename_i z r2 h2
        simp only [Option.some.injEq, Prod.mk.injEq] at h
        obtain ⟨rfl, rfl⟩ := h
        obtain ⟨v1, v2, e, k1, k2, d, hd⟩ := iha cs hs y r1 vs h1 hv
        have hs' : ∀ c ∈ r1, c ∈ cs0 := fun c hc => hs c (by rw [hd]; exact List.mem_append_right _ hc)
        obtain ⟨u1, u2, e', q1, q2, d', hd'⟩ := ihb r1 hs' z r2 v2 h2 k2
        exact ⟨v1 ++ u1, u2, by rw [e, e', List.append_assoc], ⟨v1, u1, rfl, k1, q1⟩, q2, d ++ d', by rw [hd, hd', List.append_assoc]⟩
      · cases h
    · cases h
  | st t ih => exact fun cs hs => ih cs hs
  | arr n t ih =>
    intro cs hs x r vs h hv
    obtain ⟨v1, v2, e, k1, k2, d⟩ := bldN_ok (R := RepC K t) ih n cs hs x r vs h hv
    exact ⟨v1, v2, e, k1, k2, d⟩
  | nptr =>
    intro cs hs
    refine scal fun x r vs h hv => ?_
    cases cs with
    | nil => simp [bld] at h
    | cons c cs =>
      cases c <;> simp only [bld] at h <;> try (cases h; done)
      simp only [Option.some.injEq, Prod.mk.injEq] at h
      obtain ⟨_, rfl⟩ := h
      obtain ⟨v, vr, e, h1, _, h3⟩ := hv
      exact ⟨_, v, vr, rfl, e, by simp only [RepCell] at h1; subst h1; rfl, h3⟩
  | slice e _ =>
    intro cs hs
    refine scal fun x r vs h hv => ?_
    cases cs with
    | nil => simp [bld] at h
    | cons c cs =>
      simp only [bld] at h
      split at h
      · rename_i xs hx
        simp only [Option.some.injEq, Prod.mk.injEq] at h
        obtain ⟨rfl, rfl⟩ := h
        obtain ⟨v, vr, e, h1, _, h3⟩ := hv
        exact ⟨c, v, vr, rfl, e, content_ok hx h1 hH (hF.sub fun d hd => hs d (by simp at hd; subst hd; exact List.mem_cons_self)), h3⟩
      · cases h
  | int k =>
    intro cs hs
    refine scal fun x r vs h hv => ?_
    cases cs with
    | nil => simp [bld] at h
    | cons c cs =>
      cases c <;> simp only [bld] at h <;> try (cases h; done)
      split at h
      · rename_i y hy
        simp only [Option.some.injEq, Prod.mk.injEq] at h
        obtain ⟨rfl, rfl⟩ := h
        obtain ⟨v, vr, e, h1, _, h3⟩ := hv
        obtain ⟨e1, e2⟩ := tcast_eq hy
        subst e1; subst e2
        exact ⟨_, v, vr, rfl, e, h1, h3⟩
      · cases h
  | u8 =>
    intro cs hs
    refine scal fun x r vs h hv => ?_
    cases cs with
    | nil => simp [bld] at h
    | cons c cs =>
      cases c <;> simp only [bld] at h <;> try (cases h; done)
      split at h
      · rename_i y hy
        simp only [Option.some.injEq, Prod.mk.injEq] at h
        obtain ⟨rfl, rfl⟩ := h
        obtain ⟨v, vr, e, h1, _, h3⟩ := hv
        obtain ⟨e1, e2⟩ := tcast_eq hy
        subst e1; subst e2
        exact ⟨_, v, vr, rfl, e, h1, h3⟩
      · cases h
  | bool =>
    intro cs hs
    refine scal fun x r vs h hv => ?_
    cases cs with
    | nil => simp [bld] at h
    | cons c cs =>
      cases c <;> simp only [bld] at h <;> try (cases h; done)
      split at h
      · rename_i y hy
        simp only [Option.some.injEq, Prod.mk.injEq] at h
        obtain ⟨rfl, rfl⟩ := h
        obtain ⟨v, vr, e, h1, _, h3⟩ := hv
        obtain ⟨e1, e2⟩ := tcast_eq hy
        subst e1; subst e2
        exact ⟨_, v, vr, rfl, e, h1, h3⟩
      · cases h
  | nif =>
    intro cs hs
    refine scal fun x r vs h hv => ?_
    cases cs with
    | nil => simp [bld] at h
    | cons c cs =>
      cases c <;> simp only [bld] at h <;> try (cases h; done)
      split at h
      · rename_i y hy
        simp only [Option.some.injEq, Prod.mk.injEq] at h
        obtain ⟨_, rfl⟩ := h
        obtain ⟨v, vr, e, h1, _, h3⟩ := hv
        obtain ⟨e1, e2⟩ := tcast_eq hy
        subst e1
        exact ⟨_, v, vr, rfl, e, h1, h3⟩
      · cases h
  | str =>
    intro cs hs
    refine scal fun x r vs h hv => ?_
    cases cs with
    | nil => simp [bld] at h
    | cons c cs =>
      cases c <;> simp only [bld] at h <;> try (cases h; done)
      split at h
      · rename_i y hy
        simp only [Option.some.injEq, Prod.mk.injEq] at h
        obtain ⟨rfl, rfl⟩ := h
        obtain ⟨v, vr, e, h1, _, h3⟩ := hv
        obtain ⟨e1, e2⟩ := tcast_eq hy
        subst e1; subst e2
        exact ⟨_, v, vr, rfl, e, h1, h3⟩
      · cases h

/-- a value of a type -/
def RepT (K : Kn) (T : Ty) (x : T.den) (u : Value) : Prop := match T.agg with
  | true => ∃ vs, u = .agg (List.toArray vs) ∧ RepC K T x vs
  | false => RepC K T x [u]
theorem typed_ok (hH : Hp w0 K0 H γ ob2 K w) {T : Ty} {v : Val} {x : T.den} {u : Value} (h : typed ob T v = some x) (hv : RepV γ K v u) (hF : FzIn ob ob2 v.cells) : RepT K T x u := by
  unfold typed at h
  split at h
  · rename_i cs hT
    split at h
    · rename_i y hb
      injection h with h; subst h
      obtain ⟨vs, e, hv⟩ := hv
      obtain ⟨v1, v2, e1, h1, h2, _⟩ := bld_ok hH (cs0 := cs) hF T cs (fun _ hc => hc) y [] vs hb hv
      have : v2 = [] := h2
      subst this
      simp only [List.append_nil] at e1
      subst e1
      simp only [RepT, hT]
      exact ⟨vs, e, h1⟩
    · cases h
  · cases h
  · rename_i c hc hT
    split at h
    · rename_i y hb
      injection h with h; subst h
      have h1c : u.oneCell' = true := RepCell.one hv hc
      obtain ⟨v1, v2, e1, h1, h2, _⟩ := bld_ok hH (cs0 := [c]) hF T [c] (fun _ hc => hc) y [] [u] hb ⟨u, [], rfl, hv, h1c, rfl⟩
      have : v2 = [] := h2
      subst this
      simp only [List.append_nil] at e1
      subst e1
      simp only [RepT, hT]
      exact h1
    · cases h
  · cases h
end
end Go.W
end

section
/-
  What an operation does is what the machine on plain values says: operations that leave the memory as it is. No program in it.
-/
namespace Go.W
open Go Go.RowKit

def GlobOk (E : Env) (K : Kn) : Prop := (∀ g T x, lkG E.gl g = some ⟨T, x⟩ → ∃ cs, RepC K T x cs ∧ (∀ j u, cs[j]? = some u → K g j = some u) ∧ K g cs.length = some (.tuple #[])) ∧ ∀ g, memN g E.ig = true → ∃ m, K g 0 = some (.int .i64 m)
theorem GlobOk.mono {E : Env} {K K' : Kn} (h : GlobOk E K) (hK : K.le K') : GlobOk E K' := ⟨fun g T x hg => by
  obtain ⟨cs, h1, h2, h3⟩ := h.1 g T x hg
  exact ⟨cs, RepC_mono hK h1, fun j u hu => hK _ _ _ (h2 j u hu), hK _ _ _ h3⟩, fun g hg => by
  obtain ⟨m, hm⟩ := h.2 g hg
  exact ⟨m, hK _ _ _ hm⟩⟩

structure Step (w0 : World) (K0 : Kn) (H : Nat → Prop) (γ : Ghs) (ob : Obs) (K : Kn) (tk : Nat) (out : Out) (v : Value) (γ' : Ghs) (K' : Kn) (w' : World) : Prop where
  gle : γ.le γ'
  kle : K.le K'
  sv : RepSV γ' K' out.sv v
  hp : Hp w0 K0 H γ' (newF tk out.new (updF out.upd ob)) K' w'
  new : ∀ j g', γ' j = some g' → γ j = some g' ∨ (g'.hv ≤ tk ∧ ((∃ g, γ j = some g) ∨ (tk ≤ j ∧ j < tk + out.new.length)))
  made : ∀ i, i < out.new.length → ∃ g, γ' (tk + i) = some g

/-- the operation does what 'out' says, wherever its operands are known -/
def OpOk (E : Env) (g : Operand → SV) (ob : Obs) (tk : Nat) (o : Oper) (out : Out) : Prop :=
  ∀ (w0 : World) (K0 : Kn) (H : Nat → Prop) (γ : Ghs) (ob1 : Obs) (K : Kn) (a : Act) (w : World), (∀ x ∈ o.op.operands.toList, RepSV γ K (g x) (a.eval x)) → (∀ j x, ob j = some x → ob1 j = some x) →
    Hp w0 K0 H γ ob1 K w → GlobOk E K → (∀ i, i < out.new.length → γ (tk + i) = none) → (∀ p ∈ out.upd, ∀ g, γ p.1 = some g → g.hv < tk) → 0 < tk →
    ∀ (next : Act → World → Prop) (Q : Exit → Act → World → Prop), (∀ v γ' K' w', Step w0 K0 H γ ob1 K tk out v γ' K' w' → next (a.put o.dst v) w') → o.wp E.P a w next Q

section
variable {E : Env} {g : Operand → SV} {ob : Obs} {tk : Nat} {o : Oper}

theorem OpOk.still {sv : SV} (h : ∀ (w0 : World) (K0 : Kn) (H : Nat → Prop) (γ : Ghs) (ob1 : Obs) (K : Kn) (a : Act) (w : World), (∀ x ∈ o.op.operands.toList, RepSV γ K (g x) (a.eval x)) → (∀ j x, ob j = some x → ob1 j = some x) →
    Hp w0 K0 H γ ob1 K w → ∃ v, (execOp a.eval o).run E.P w = .ok (.value v) w ∧ RepSV γ K sv v) : OpOk E g ob tk o ⟨sv, [], []⟩ := by
  intro w0 K0 H γ ob1 K a w hr hob hH hG _ _ _ next Q hn
  obtain ⟨v, h1, h2⟩ := h w0 K0 H γ ob1 K a w hr hob hH
  unfold Oper.wp
  rw [h1]
  exact hn v γ K w ⟨Ghs.le.refl γ, Kn.le.refl K, h2, hH, fun j g' hg => .inl hg, fun i hi => absurd hi (Nat.not_lt_zero i)⟩
end

/-! ### numbers -/
section
variable {γ : Ghs} {K : Kn}
theorem wrap_u8 (x : Int) : IntKind.wrap .u8 x = x % 256 := by
  simp [IntKind.wrap, IntKind.signed, IntKind.bits]
theorem b8_val (x : Int) : n8 (b8 x) = x % 256 := by
  unfold b8 n8
  rw [UInt8.toNat_ofNat']
  omega
theorem n8_rng (x : UInt8) : 0 ≤ n8 x ∧ n8 x < 256 := by
  have := x.toNat_lt
  unfold n8
  omega
theorem ival_ok {c : Cell} {k : IntKind} {n : Int} {v : Value} (h : ival c = some (k, n)) (hv : RepCell γ K c v) : v = .int k n ∧ (k = .u8 → 0 ≤ n ∧ n < 256) := by
  unfold ival at h
  split at h
  · cases h
  · rename_i kk x hk
    simp only [Option.some.injEq, Prod.mk.injEq] at h
    obtain ⟨rfl, rfl⟩ := h
    simp only [RepCell, RepC, List.cons.injEq, and_true] at hv
    exact ⟨hv, fun e => absurd e (by intro e; subst e; exact hk rfl)⟩
  · rename_i x
    simp only [Option.some.injEq, Prod.mk.injEq] at h
    obtain ⟨rfl, rfl⟩ := h
    simp only [RepCell, RepC, List.cons.injEq, and_true] at hv
    exact ⟨hv, fun _ => n8_rng x⟩
  · cases h
theorem mkW_ok (k : IntKind) (n : Int) : RepCell γ K (mkW k n) (.int k (k.wrap n)) := by
  cases k <;> simp [mkW, RepCell, RepC, w64, wr, b8_val, wrap_u8]
theorem mkI_ok {k : IntKind} {n : Int} (h : k = .u8 → 0 ≤ n ∧ n < 256) : RepCell γ K (mkI k n) (.int k n) := by
  cases k <;> simp [mkI, RepCell, RepC, b8_val]
  have := h rfl
  omega
theorem bool_rep (b : Bool) : RepCell γ K (.v .bool b) (.bool b) := rfl

theorem run_eqGuard_int (P : Program) (w : World) (op : BinOp) (t : TypeId) (x y : Operand) (k k' : IntKind) (a b : Int) : (eqGuard op t x y (.int k a) (.int k' b)).run P w = .ok () w := by
  unfold eqGuard; cases op <;> rfl
theorem run_eqGuard_str (P : Program) (w : World) (op : BinOp) (t : TypeId) (x y : Operand) (a b : ByteArray) : (eqGuard op t x y (.string a) (.string b)).run P w = .ok () w := by
  unfold eqGuard; cases op <;> rfl
theorem run_eqGuard_bool (P : Program) (w : World) (op : BinOp) (t : TypeId) (x y : Operand) (a b : Bool) : (eqGuard op t x y (.bool a) (.bool b)).run P w = .ok () w := by
  unfold eqGuard; cases op <;> rfl
theorem grd_some {α : Type} {b : Bool} {k : Option α} {r : α} (h : grd b k = some r) : b = true ∧ k = some r := by
  unfold grd at h; cases b
  · cases h
  · exact ⟨rfl, h⟩
theorem grdB_some {α : Type} {b p : Bool} {k : Option α} {r : α} (h : grdB b p k = some r) : (b = true ∨ p = true) ∧ k = some r := by
  unfold grdB at h
  split at h
  · exact ⟨.inl rfl, h⟩
  · have := grd_some h; exact ⟨.inr this.1, this.2⟩
theorem wrap8_rng (x : Int) : 0 ≤ IntKind.wrap .u8 x ∧ IntKind.wrap .u8 x < 256 := by rw [wrap_u8]; omega

theorem binI_ok {α : Type} {op : BinOp} {kx ky : IntKind} {a b : Int} {nz nn : Bool} {k : Cell → Option α} {r : α} (P : Program) (t : TypeId) (h : binI op kx ky a b nz nn k = some r) (ha : kx = .u8 → 0 ≤ a ∧ a < 256) (hb : ky = .u8 → 0 ≤ b ∧ b < 256) (hnz : nz = true → b ≠ 0) (hnn : nn = true → 0 ≤ b) :
    ∃ c v, k c = some r ∧ (∀ γ K, RepCell γ K c v) ∧ ∀ w, (binOp op t (.int kx a) (.int ky b)).run P w = .ok v w := by
  have hz : ∀ {p : Bool}, (nz = true ∨ p = true) → p = ine b 0 → b ≠ 0 := fun h e => by
    rcases h with h | h
    · exact hnz h
    · rw [e] at h; simpa [ine] using h
  have hn : ∀ {p : Bool}, (nn = true ∨ p = true) → p = ile 0 b → 0 ≤ b := fun h e => by
    rcases h with h | h
    · exact hnn h
    · rw [e] at h; simpa [ile] using h
  unfold binI at h
  split at h
  · obtain ⟨h1, h2⟩ := grdB_some h
    have hb0 := hn h1 rfl
    exact ⟨_, _, h2, fun _ _ => mkW_ok kx _, fun w => by simp [binOp, Op.shift, show ¬ b < 0 by omega, shlk]⟩
  · obtain ⟨h1, h2⟩ := grdB_some h
    have hb0 := hn h1 rfl
    refine ⟨_, .int kx (shrk kx a b), h2, fun _ _ => mkI_ok fun e => ?_, fun w => by simp [binOp, Op.shift, show ¬ b < 0 by omega, shrk]⟩
    have := ha e
    unfold shrk
    have h2 : (0 : Int) < 2 ^ (min b.toNat kx.bits) := Int.pow_pos (by decide)
    rw [Int.fdiv_eq_ediv_of_nonneg _ (Int.le_of_lt h2)]
    refine ⟨Int.ediv_nonneg this.1 (Int.le_of_lt h2), ?_⟩
    exact Int.lt_of_le_of_lt (Int.ediv_le_self _ this.1) this.2
  · split at h
    · cases h
    all_goals first | (cases h; done) | skip
    all_goals
      have hkk : kx = ky := kSame_eq (by assumption)
      subst hkk
    · exact ⟨_, _, h, fun _ _ => mkW_ok kx _, fun w => by simp [binOp, Op.intArith, iadd]⟩
    · exact ⟨_, _, h, fun _ _ => mkW_ok kx _, fun w => by simp [binOp, Op.intArith, isub]⟩
    · exact ⟨_, _, h, fun _ _ => mkW_ok kx _, fun w => by simp [binOp, Op.intArith, imul]⟩
    · obtain ⟨h1, h2⟩ := grdB_some h
      exact ⟨_, _, h2, fun _ _ => mkW_ok kx _, fun w => by simp [binOp, Op.intDiv, hz h1 rfl, idiv]⟩
    · obtain ⟨h1, h2⟩ := grdB_some h
      refine ⟨_, .int kx (imod a b), h2, fun _ _ => mkI_ok fun e => ?_, fun w => by simp [binOp, Op.intDiv, hz h1 rfl, imod]⟩
      have h3 := ha e
      have h4 := hb e
      have h5 := hz h1 rfl
      unfold imod
      rw [Int.tmod_eq_emod_of_nonneg h3.1]
      have h6 := Int.emod_nonneg a h5
      have h7 := Int.emod_lt_of_pos a (show 0 < b by omega)
      omega
    · exact ⟨_, .int kx (bitb .and kx a b), h, fun _ _ => mkI_ok fun e => by subst e; exact wrap8_rng _, fun w => by simp [binOp, Op.intBits, bitb]⟩
    · exact ⟨_, .int kx (bitb .or kx a b), h, fun _ _ => mkI_ok fun e => by subst e; exact wrap8_rng _, fun w => by simp [binOp, Op.intBits, bitb]⟩
    · exact ⟨_, .int kx (bitb .xor kx a b), h, fun _ _ => mkI_ok fun e => by subst e; exact wrap8_rng _, fun w => by simp [binOp, Op.intBits, bitb]⟩
    · exact ⟨_, .int kx (bitb .andNot kx a b), h, fun _ _ => mkI_ok fun e => by subst e; exact wrap8_rng _, fun w => by simp [binOp, Op.intBits, bitb]⟩
    · exact ⟨_, _, h, fun _ _ => bool_rep _, fun w => by simp [binOp, Op.intCmp, ieq]⟩
    · exact ⟨_, _, h, fun _ _ => bool_rep _, fun w => by simp [binOp, Op.intCmp, ine]⟩
    · exact ⟨_, _, h, fun _ _ => bool_rep _, fun w => by simp [binOp, Op.intCmp, ilt]⟩
    · exact ⟨_, _, h, fun _ _ => bool_rep _, fun w => by simp [binOp, Op.intCmp, ile]⟩
    · exact ⟨_, _, h, fun _ _ => bool_rep _, fun w => by simp [binOp, Op.intCmp, ilt]⟩
    · exact ⟨_, _, h, fun _ _ => bool_rep _, fun w => by simp [binOp, Op.intCmp, ile]⟩

theorem bst_size (l : List UInt8) : (bst l).size = l.length := by simp [bst, ByteArray.size]
theorem bst_toList (l : List UInt8) : (bst l).toList = l := by rw [ByteArray.toList_eq]; rfl
theorem bst_of (b : ByteArray) : bst b.data.toList = b := by cases b; rfl
theorem bst_app (a b : List UInt8) : bst a ++ bst b = bst (a ++ b) := by
  apply ByteArray.ext
  simp [bst]
theorem bst_cut (a : List UInt8) (lo hi : Nat) : (bst a).extract lo hi = bst ((a.take hi).drop lo) := by
  apply ByteArray.ext
  simp [bst, List.drop_take]

theorem binS_ok {α : Type} {op : BinOp} {a b : List UInt8} {k : Cell → Option α} {r : α} (P : Program) (t : TypeId) (h : binS op a b k = some r) :
    ∃ c v, k c = some r ∧ (∀ γ K, RepCell γ K c v) ∧ ∀ w, (binOp op t (.string (bst a)) (.string (bst b))).run P w = .ok v w := by
  unfold binS at h
  split at h
  · obtain ⟨h1, h2⟩ := grd_some h
    refine ⟨_, .string (bst (lapp a b)), h2, fun _ _ => rfl, fun w => ?_⟩
    have h1 : (a.length : Int) + (b.length : Int) ≤ 9223372036854775807 := of_decide_eq_true h1
    have : ¬ (((bst a).size + (bst b).size : Nat) : Int) > IntKind.i64.max := by
      rw [bst_size, bst_size]
      have : IntKind.i64.max = 9223372036854775807 := rfl
      rw [this]; omega
    simp only [binOp, Op.stringOp, if_neg this, lapp, bst_app, Sem.run_pure]
  · exact ⟨_, _, h, fun _ _ => bool_rep _, fun w => by simp [binOp, Op.stringOp, bst_toList, seq]⟩
  · exact ⟨_, _, h, fun _ _ => bool_rep _, fun w => by simp [binOp, Op.stringOp, bst_toList, sne, bne]⟩
  · exact ⟨_, _, h, fun _ _ => bool_rep _, fun w => by simp [binOp, Op.stringOp, bst_toList, slt]⟩
  · exact ⟨_, _, h, fun _ _ => bool_rep _, fun w => by simp [binOp, Op.stringOp, bst_toList, slt, seq, bor]⟩
  · exact ⟨_, _, h, fun _ _ => bool_rep _, fun w => by simp [binOp, Op.stringOp, bst_toList, slt, seq, bor, bnot]⟩
  · exact ⟨_, _, h, fun _ _ => bool_rep _, fun w => by simp [binOp, Op.stringOp, bst_toList, slt, bnot]⟩
  · cases h
end
end Go.W
end

section
/-
  What an operation does is what the machine on plain values says: the memory is read. No program in it.
-/
namespace Go.W
open Go Go.RowKit

/-! ### types -/
section
variable {E : Env} {t : TypeId} {T : Ty}
theorem EnvOk.info (hE : EnvOk E) (ht : E.t t = some T) : ∃ i z, E.P.info? t = some i ∧ i.size = T.size ∧ i.zero = some z ∧ zOk T z = true ∧ 0 < T.size ∧ 0 < i.bytes := by
  have h := hE.t ht
  simp only [chkT, Bool.and_eq_true] at h
  replace h := h.1
  split at h
  · rename_i i hi
    simp only [Bool.and_eq_true] at h
    obtain ⟨⟨⟨⟨h1, h2⟩, h3⟩, h4⟩, h5⟩ := h
    split at h2
    · rename_i z hz
      exact ⟨i, z, hi, Nat.eq_of_beq_eq_true h1, hz, h2, Nat.le_of_ble_eq_true h3, Nat.le_of_ble_eq_true h4⟩
    · cases h2
  · cases h
theorem EnvOk.byte (hE : EnvOk E) (ht : E.t t = some .u8) : ∃ i, E.P.info? t = some i ∧ i.bytes = 1 := by
  have h := hE.t ht
  simp only [chkT, Bool.and_eq_true] at h
  replace h := h.1
  split at h
  · rename_i i hi
    simp only [Bool.and_eq_true] at h
    exact ⟨i, hi, Nat.eq_of_beq_eq_true h.2⟩
  · cases h
/-- bytes have one type -/
theorem EnvOk.ubOf (_hE : EnvOk E) (hub : ubS E t = true) (ht : E.t t = some (.slice T)) {e : TypeId} (hu : E.P.underlying t = some (.slice e)) : qOf T e := by
  intro hT
  subst hT
  unfold ubS at hub
  rw [ht] at hub
  simp only [hu] at hub
  exact Nat.eq_of_beq_eq_true hub
theorem EnvOk.und (hE : EnvOk E) (ht : E.t t = some T) : match T with
    | .int k => E.P.underlying t = some (.int k) ∧ k ≠ .u8
    | .u8 => E.P.underlying t = some (.int .u8)
    | .bool => E.P.underlying t = some .bool
    | .nif => ∃ ms, E.P.underlying t = some (.interface ms)
    | .str => E.P.underlying t = some .string
    | .slice T' => ∃ e, E.P.underlying t = some (.slice e) ∧ E.t e = some T'
    | .arr n T' => ∃ e, E.P.underlying t = some (.array n e) ∧ E.t e = some T' ∧ 0 < n ∧ n ≤ 16777216
    | .st B => ∃ fs, E.P.underlying t = some (.struct fs) ∧ fldOk E fs.toList 0 B = true ∧ (B.canEq = true → (E.P.stoodInHeld t = false ∧ E.P.eqGuardType E.P.depth t = false) ∧ B.dep ≤ 9000)
    | .nptr => ∃ e, E.P.underlying t = some (.pointer e)
    | _ => False := by
  have h := hE.t ht
  simp only [chkT, Bool.and_eq_true] at h
  replace h := h.2
  split at h
  · rename_i k k' hu
    simp only [Bool.and_eq_true, Bool.not_eq_true'] at h
    have := kSame_eq h.1; subst this
    refine ⟨hu, fun e => ?_⟩
    subst e; exact absurd h.2 (by decide)
  · rename_i k hu; have := kSame_eq h; subst this; exact hu
  · rename_i hu; exact hu
  · rename_i ms hu; exact ⟨ms, hu⟩
  · rename_i hu; exact hu
  · rename_i e T' hu; exact ⟨e, hu, tyIs_eq h⟩
  · rename_i n e m T' hu
    simp only [Bool.and_eq_true] at h
    have := Nat.eq_of_beq_eq_true h.1.1.1; subst this
    exact ⟨e, hu, tyIs_eq h.1.1.2, Nat.le_of_ble_eq_true h.1.2, Nat.le_of_ble_eq_true h.2⟩
  · rename_i fs B hu
    simp only [Bool.and_eq_true] at h
    refine ⟨fs, hu, h.1, fun hc => ?_⟩
    have h2 := h.2
    rw [hc] at h2
    simp only [bsel, Bool.and_eq_true, Bool.not_eq_true'] at h2
    exact ⟨h2.1, Nat.le_of_ble_eq_true h2.2⟩
  · rename_i e hu; exact ⟨e, hu⟩
  · cases h
theorem run_und {P : Program} {d : TypeDesc} (h : P.underlying t = some d) (w : World) : (underlying t).run P w = .ok d w := run_underlying h w
theorem EnvOk.size (hE : EnvOk E) (ht : E.t t = some T) (w : World) : (sizeOf t).run E.P w = .ok T.size w := by
  obtain ⟨i, z, h1, h2, _⟩ := hE.info ht
  simp [sizeOf, typeInfo, h1, h2]
theorem EnvOk.isAgg (hE : EnvOk E) (ht : E.t t = some T) (w : World) : (isAgg t).run E.P w = .ok T.agg w := by
  have := hE.und ht
  cases T with
  | int k => simp [Go.isAgg, run_und this.1, Ty.agg]
  | u8 => simp [Go.isAgg, run_und this, Ty.agg]
  | bool => simp [Go.isAgg, run_und this, Ty.agg]
  | nif => obtain ⟨e, h⟩ := this; simp [Go.isAgg, run_und h, Ty.agg]
  | str => simp [Go.isAgg, run_und this, Ty.agg]
  | slice T' => obtain ⟨e, h, _⟩ := this; simp [Go.isAgg, run_und h, Ty.agg]
  | arr n T' => obtain ⟨e, h, _⟩ := this; simp [Go.isAgg, run_und h, Ty.agg]
  | st B => obtain ⟨e, h, _⟩ := this; simp [Go.isAgg, run_und h, Ty.agg]
  | nptr => obtain ⟨e, h⟩ := this; simp [Go.isAgg, run_und h, Ty.agg]
  | unit => exact this.elim
  | pair a b => exact this.elim
theorem EnvOk.one (hE : EnvOk E) (ht : E.t t = some T) (hA : T.agg = false) : T.size = 1 := by
  have := hE.und ht
  cases T <;> first | rfl | (cases hA; done) | exact this.elim
/-- a value out of its cells -/
def vOf (T : Ty) (vs : List Value) : Value := match T.agg with
  | true => .agg vs.toArray
  | false => vs.headD undef
theorem loadVar_ok (hE : EnvOk E) (ht : E.t t = some T) {w : World} {ad : Addr} {vs : List Value} (hc : ∀ j u, vs[j]? = some u → w.cell? (ad.add j) = some u) (hl : vs.length = T.size) : (loadVar t ad).run E.P w = .ok (vOf T vs) w := by
  have h1 := hE.isAgg ht w
  have h2 := hE.size ht w
  obtain ⟨_, _, _, _, _, _, hpos, _⟩ := hE.info ht
  unfold vOf
  cases hA : T.agg with
  | true =>
    rw [hA] at h1
    have hld := run_loadCells_list (P := E.P) w ad vs hc
    rw [hl] at hld
    simp only [loadVar, Sem.run_bind, h1, Result.andThen_ok, h2, if_true, hld, Sem.run_pure]
  | false =>
    rw [hA] at h1
    cases vs with
    | nil => simp at hl; omega
    | cons v r =>
      have h0 := hc 0 v rfl
      have ha : ad.add 0 = ad := by unfold Addr.add; simp
      rw [ha] at h0
      simp only [loadVar, Sem.run_bind, h1, Result.andThen_ok, Bool.false_eq_true, if_false, load, Sem.run, h0, List.headD_cons]
theorem part_ok (hE : EnvOk E) (ht : E.t t = some T) (w : World) {vs : List Value} {off : Nat} (hl : off + T.size ≤ vs.length) : (part t vs.toArray off).run E.P w = .ok (vOf T ((vs.drop off).take T.size)) w := by
  have h1 := hE.isAgg ht w
  have h2 := hE.size ht w
  obtain ⟨_, _, _, _, _, _, hpos, _⟩ := hE.info ht
  unfold vOf
  cases hA : T.agg with
  | true =>
    rw [hA] at h1
    simp only [part, Sem.run_bind, h1, Result.andThen_ok, h2, if_true, Sem.run_pure]
    congr 2
    apply Array.toList_inj.1
    simp [List.extract_eq_take_drop]
  | false =>
    rw [hA] at h1
    have hlt : off < vs.length := by omega
    have : ((vs.drop off).take T.size).headD undef = vs[off] := by
      rw [List.headD_eq_head?_getD, List.head?_take, if_neg (by omega), List.head?_drop, List.getElem?_eq_getElem hlt]; rfl
    rw [this]
    simp only [part, Sem.run_bind, h1, Result.andThen_ok, Bool.false_eq_true, if_false]
    simp [List.getElem?_eq_getElem hlt]
end

/-! ### cells -/
section
variable {γ : Ghs} {K : Kn}
theorem RepCs_len : ∀ {cs : List Cell} {vs : List Value}, RepCs γ K cs vs → vs.length = cs.length
  | [], _, h => by cases h; rfl
  | _ :: _, _, ⟨v, r, e, _, _, h⟩ => by subst e; simp [RepCs_len h]
theorem RepCs_drop : ∀ {cs : List Cell} {vs : List Value} (n : Nat), RepCs γ K cs vs → RepCs γ K (cs.drop n) (vs.drop n)
  | cs, vs, 0, h => by simpa using h
  | [], _, n + 1, h => by cases h; simp [RepCs]
  | _ :: _, _, n + 1, ⟨v, r, e, _, _, h⟩ => by subst e; simpa using RepCs_drop n h
theorem RepCs_take : ∀ {cs : List Cell} {vs : List Value} (n : Nat), RepCs γ K cs vs → RepCs γ K (cs.take n) (vs.take n)
  | cs, vs, 0, h => by simp [RepCs]
  | [], _, n + 1, h => by cases h; simp [RepCs]
  | _ :: _, _, n + 1, ⟨v, r, e, h1, h2, h⟩ => by subst e; exact ⟨v, r.take n, by simp, h1, h2, RepCs_take n h⟩
theorem RepCs_app : ∀ {cs ds : List Cell} {vs us : List Value}, RepCs γ K cs vs → RepCs γ K ds us → RepCs γ K (cs ++ ds) (vs ++ us)
  | [], _, _, _, h, h' => by cases h; exact h'
  | _ :: _, _, _, _, ⟨v, r, e, h1, h2, h⟩, h' => by subst e; exact ⟨v, r ++ _, by simp, h1, h2, RepCs_app h h'⟩
theorem setC_eq : ∀ (n : Nat) (new old : List Cell), n ≤ old.length → setC n new old = old.take n ++ new ++ old.drop (n + new.length)
  | 0, new, old, _ => by simp [setC, app_eq, drp_eq, lng_eq]
  | n + 1, new, [], h => by simp at h
  | n + 1, new, c :: old, h => by
    simp only [setC, setC_eq n new old (by simpa using h)]
    simp [Nat.add_right_comm]
theorem RepCs_set {off : Nat} {new old : List Cell} {nv ov : List Value} (hn : RepCs γ K new nv) (ho : RepCs γ K old ov) (hl : off ≤ old.length) : RepCs γ K (setC off new old) (ov.take off ++ nv ++ ov.drop (off + nv.length)) := by
  rw [setC_eq _ _ _ hl, RepCs_len hn]
  exact RepCs_app (RepCs_app (RepCs_take _ ho) hn) (RepCs_drop _ ho)
theorem RepV.cells {v : Val} {u : Value} (h : RepV γ K v u) (hu : ∀ c, v = .one c → c ≠ .undef) : ∃ vs, u.cells = vs.toArray ∧ RepCs γ K v.cells vs := by
  cases v with
  | one c =>
    have h1 := RepCell.one h (hu c rfl)
    refine ⟨[u], ?_, u, [], rfl, h, h1, rfl⟩
    cases u <;> first | rfl | cases h1
  | agg cs =>
    obtain ⟨vs, e, h⟩ := h
    subst e
    exact ⟨vs, rfl, h⟩
theorem arrC_ok {t : Ty} {f : Nat → List Cell} : ∀ (n i : Nat) (xs : List t.den) (vs : List Value), (∀ k, k < n → ∀ us, RepC K t (xs.getD k t.zero) us → RepCs γ K (f (i + k)) us) → xs.length = n → RepL (RepC K t) xs vs → RepCs γ K (arrC f n i) vs
  | 0, i, xs, vs, _, hl, h => by
    have := List.eq_nil_of_length_eq_zero hl
    subst this; exact h
  | n + 1, i, [], vs, _, hl, h => by simp at hl
  | n + 1, i, x :: xs, vs, hf, hl, ⟨c1, c2, e, h1, h2⟩ => by
    subst e
    simp only [arrC, app_eq]
    refine RepCs_app (hf 0 (by omega) c1 (by simpa using h1)) (arrC_ok n (i + 1) xs c2 (fun k hk us hu => ?_) (by simpa using hl) h2)
    have := hf (k + 1) (by omega) us (by simpa using hu)
    rwa [show i + (k + 1) = i + 1 + k by omega] at this
theorem cellsOf_rep : ∀ {t : Ty} {x : t.den} {vs : List Value}, RepC K t x vs → RepCs γ K (cellsOf t x) vs
  | .int k, x, vs, h => by simp only [RepC] at h; subst h; exact ⟨_, [], rfl, rfl, rfl, rfl⟩
  | .u8, x, vs, h => by simp only [RepC] at h; subst h; exact ⟨_, [], rfl, rfl, rfl, rfl⟩
  | .bool, x, vs, h => by simp only [RepC] at h; subst h; exact ⟨_, [], rfl, rfl, rfl, rfl⟩
  | .nif, x, vs, h => by simp only [RepC] at h; subst h; exact ⟨_, [], rfl, rfl, rfl, rfl⟩
  | .str, x, vs, h => by simp only [RepC] at h; subst h; exact ⟨_, [], rfl, rfl, rfl, rfl⟩
  | .slice t, x, vs, h => by
    obtain ⟨A, c, e, h'⟩ := id h
    exact ⟨_, [], e, by rw [e] at h; exact h, rfl, rfl⟩
  | .nptr, x, vs, h => by simp only [RepC] at h; subst h; exact ⟨_, [], rfl, rfl, rfl, rfl⟩
  | .unit, x, vs, h => h
  | .pair a b, x, vs, ⟨c1, c2, e, h1, h2⟩ => by
    subst e
    simp only [cellsOf, app_eq]
    exact RepCs_app (cellsOf_rep h1) (cellsOf_rep h2)
  | .st t, x, vs, h => cellsOf_rep (t := t) h
  | .arr n t, xs, vs, ⟨h1, h2⟩ => by
    simp only [cellsOf]
    exact arrC_ok n 0 xs vs (fun k _ us hu => by
      rw [Nat.zero_add]
      exact cellsOf_rep (t := t) hu) h1 h2
theorem vOf_rep {T : Ty} {x : T.den} {vs : List Value} (h : RepC K T x vs) (hp : T.agg = false → T.size = 1) : RepT K T x (vOf T vs) := by
  have hl := RepC_len h
  unfold RepT vOf
  cases hT : T.agg with
  | true => exact ⟨vs, rfl, h⟩
  | false =>
    rw [hp hT] at hl
    match vs, hl, h with
    | [v], _, h => exact h
theorem valOf_rep {T : Ty} {x : T.den} {u : Value} (h : RepT K T x u) : RepV γ K (valOf T x) u := by
  unfold RepT at h
  unfold valOf
  cases hT : T.agg with
  | true =>
    rw [hT] at h
    obtain ⟨vs, e, h⟩ := h
    exact ⟨vs, e, cellsOf_rep h⟩
  | false =>
    rw [hT] at h
    have := cellsOf_rep (γ := γ) h
    cases hc : cellsOf T x with
    | nil => exact True.intro
    | cons c r =>
      rw [hc] at this
      obtain ⟨v, vr, e, h1, _⟩ := this
      injection e with e _; subst e; exact h1
end
end Go.W
end

section
/-
  What an operation does is what the machine on plain values says: the operations that leave the memory as it is. No program in it.
-/
namespace Go.W
open Go Go.RowKit

theorem bsel_some {α : Type} {b : Bool} {x : Option α} {r : α} (h : bsel b x none = some r) : b = true ∧ x = some r := by
  unfold bsel at h; cases b
  · cases h
  · exact ⟨rfl, h⟩
theorem add_lit (b o i : Nat) : (⟨b, o, none⟩ : Addr).add i = ⟨b, o + i, none⟩ := by
  unfold Addr.add; split
  · rename_i h; simp [h]
  · rfl
theorem add_parts {ad : Addr} (h : ad.spot = none) (i : Nat) : ad.add i = ⟨ad.block, ad.off + i, none⟩ := by
  obtain ⟨b, o, s⟩ := ad
  simp only at h
  subst h
  exact add_lit b o i
theorem cell_known {w0 w : World} {K0 K : Kn} {H : Nat → Prop} {γ : Ghs} {ob : Obs} (hH : Hp w0 K0 H γ ob K w) {b o : Nat} {v : Value} (h : K b o = some v) (hv : v.oneCell' = true) : w.cell? ⟨b, o, none⟩ = some v := by
  obtain ⟨cs, e, fz, h1, h2⟩ := hH.kok b o v h
  simp [World.cell?, h1, h2.1 hv]
theorem cell_row {w : World} {b o : Nat} {cs : Array Value} {e : TypeId} {fz : Nat × Nat} (h : w.heap[b]? = some (.cells cs e fz)) : w.cell? ⟨b, o, none⟩ = cs[o]? := by
  simp [World.cell?, h]

section
variable {E : Env} {g : Operand → SV} {ob : Obs} {tk : Nat} {o : Oper} {α : Type} {k : Out → Option α} {r : α}

theorem move_ok {x : Operand} (ho : o.op = .move x ∨ o.op = .assign x) : OpOk E g ob tk o ⟨g x, [], []⟩ := by
  refine OpOk.still fun w0 K0 H γ ob1 K a w hr _ _ => ⟨a.eval x, ?_, hr x ?_⟩
  · rcases ho with ho | ho <;> simp [execOp, ho]
  · rcases ho with ho | ho <;> simp [ho, Op.operands]

theorem pick_ok {c x y : Operand} (ho : o.op = .pick c x y) (h : (match g c with
    | .val (.one (.v .bool e)) => cnd e (k ⟨g x, [], []⟩) (k ⟨g y, [], []⟩)
    | _ => none) = some r) : ∃ out, k out = some r ∧ OpOk E g ob tk o out := by
  split at h
  · rename_i e hc
    cases e with
    | true =>
      refine ⟨_, h, OpOk.still fun w0 K0 H γ ob1 K a w hr _ _ => ⟨a.eval x, ?_, hr x (by simp [ho, Op.operands])⟩⟩
      have := hr c (by simp [ho, Op.operands])
      rw [hc] at this
      have hv : a.eval c = .bool true := by simpa [RepSV, RepV, RepCell, RepC] using this
      simp [execOp, ho, hv, asBool]
    | false =>
      refine ⟨_, h, OpOk.still fun w0 K0 H γ ob1 K a w hr _ _ => ⟨a.eval y, ?_, hr y (by simp [ho, Op.operands])⟩⟩
      have := hr c (by simp [ho, Op.operands])
      rw [hc] at this
      have hv : a.eval c = .bool false := by simpa [RepSV, RepV, RepCell, RepC] using this
      simp [execOp, ho, hv, asBool]
  · cases h

theorem isNz_ok {y : Operand} {a : Act} {k : IntKind} {n : Int} (h : isNz y = true) (hv : a.eval y = .int k n) : n ≠ 0 := by
  unfold isNz at h
  split at h
  · simp only [Act.eval, Value.int.injEq] at hv
    obtain ⟨_, rfl⟩ := hv
    simp; omega
  · simp only [Act.eval, Value.int.injEq] at hv
    obtain ⟨_, rfl⟩ := hv
    simp
  · cases h
theorem isNn_ok {y : Operand} {a : Act} {k : IntKind} {n : Int} (h : isNn y = true) (hv : a.eval y = .int k n) : 0 ≤ n := by
  unfold isNn at h
  split at h
  · simp only [Act.eval, Value.int.injEq] at hv
    obtain ⟨_, rfl⟩ := hv
    simp
  · cases h

theorem binC_ok {op : BinOp} {t yt : TypeId} {x y : Operand} {c d : Cell} {tb : Bool} (ho : o.op = .binOp op t x y yt) (hx : g x = .val (.one c)) (hy : g y = .val (.one d)) (hcy : ∀ k n, y = .const (.int k n) → ∀ k' m, ival d = some (k', m) → m = n) (htb : tb = true → E.P.underlying t = some .bool) (h : binC op tb c d (isNz y) (isNn y) (fun c => k (out1 c)) = some r) : ∃ out, k out = some r ∧ OpOk E g ob tk o out := by
  have key : ∀ {z : Cell}, (∀ (w0 : World) (K0 : Kn) (H : Nat → Prop) (γ : Ghs) (K : Kn) (a : Act) (w : World), RepCell γ K c (a.eval x) → RepCell γ K d (a.eval y) → ∃ v, (do eqGuard op t x y (a.eval x) (a.eval y); binOp op t (a.eval x) (a.eval y) : Sem Value).run E.P w = .ok v w ∧ RepCell γ K z v) → OpOk E g ob tk o (out1 z) := fun {z} hz => by
    refine OpOk.still fun w0 K0 H γ ob1 K a w hr _ _ => ?_
    have h1 := hr x (by simp [ho, Op.operands])
    have h2 := hr y (by simp [ho, Op.operands])
    rw [hx] at h1
    rw [hy] at h2
    obtain ⟨v, e, hv⟩ := hz w0 K0 H γ K a w h1 h2
    refine ⟨v, ?_, hv⟩
    simp only [execOp, ho, Sem.run_bind] at e ⊢
    rw [e]
    rfl
  unfold binC at h
  split at h
  · rename_i kx a0 ky b0 h1 h2
    have hnz : isNz y = true → b0 ≠ 0 := fun hz => by
      unfold isNz at hz
      split at hz
      · rename_i kk n
        rw [hcy _ _ rfl _ _ h2]; simp; omega
      · rename_i kk n
        rw [hcy _ _ rfl _ _ h2]; simp
      · cases hz
    have hnn : isNn y = true → 0 ≤ b0 := fun hz => by
      unfold isNn at hz
      split at hz
      · rename_i kk n
        rw [hcy _ _ rfl _ _ h2]; simp
      · cases hz
    have rng : ∀ {c : Cell} {kx : IntKind} {a0 : Int}, ival c = some (kx, a0) → kx = .u8 → 0 ≤ a0 ∧ a0 < 256 := fun {c kx a0} h e => by
      unfold ival at h
      split at h
      · cases h
      · rename_i kk x hk
        simp only [Option.some.injEq, Prod.mk.injEq] at h
        obtain ⟨rfl, rfl⟩ := h
        subst e; exact absurd rfl hk
      · rename_i x
        simp only [Option.some.injEq, Prod.mk.injEq] at h
        obtain ⟨rfl, rfl⟩ := h
        exact n8_rng x
      · cases h
    obtain ⟨z, v, hk, hz, hrun⟩ := binI_ok E.P t h (rng h1) (rng h2) hnz hnn
    refine ⟨_, hk, key fun w0 K0 H γ K a w q1 q2 => ⟨v, ?_, hz γ K⟩⟩
    rw [(ival_ok h1 q1).1, (ival_ok h2 q2).1]
    simp only [Sem.run_bind, run_eqGuard_int, Result.andThen_ok, hrun]
  · split at h
    · obtain ⟨z, v, hk, hz, hrun⟩ := binS_ok E.P t h
      refine ⟨_, hk, key fun w0 K0 H γ K a w q1 q2 => ⟨v, ?_, hz γ K⟩⟩
      simp only [RepCell, RepC, List.cons.injEq, and_true] at q1 q2
      rw [q1, q2]
      simp only [Sem.run_bind, run_eqGuard_str, Result.andThen_ok, hrun]
    · rename_i a0 b0 _
      have hE : ∀ (op : BinOp) (z : Bool), (∀ w, (binOp op t (.bool a0) (.bool b0)).run E.P w = .ok (.bool z) w) → ∀ (w0 : World) (K0 : Kn) (H : Nat → Prop) (γ : Ghs) (K : Kn) (a : Act) (w : World), RepCell γ K (.v .bool a0) (a.eval x) → RepCell γ K (.v .bool b0) (a.eval y) → ∃ v, (do eqGuard op t x y (a.eval x) (a.eval y); binOp op t (a.eval x) (a.eval y) : Sem Value).run E.P w = .ok v w ∧ RepCell γ K (.v .bool z) v := fun op z hz w0 K0 H γ K a w q1 q2 => by
        simp only [RepCell, RepC, List.cons.injEq, and_true] at q1 q2
        rw [q1, q2]
        exact ⟨.bool z, by simp only [Sem.run_bind, run_eqGuard_bool, Result.andThen_ok, hz], rfl⟩
      split at h
      · refine ⟨_, h, key (hE _ _ fun w => ?_)⟩
        have := run_equalIn_bool' (P := E.P) w 9999 t a0 b0 (htb rfl)
        simp only [binOp, Op.equal, Op.maxDepth, Sem.run_bind]
        rw [this]
        simp [beqb]
      · refine ⟨_, h, key (hE _ _ fun w => ?_)⟩
        have := run_equalIn_bool' (P := E.P) w 9999 t a0 b0 (htb rfl)
        simp only [binOp, Op.equal, Op.maxDepth, Sem.run_bind]
        rw [this]
        simp [bneb, bne]
      · cases h
    · cases h

theorem nilCheck_ok {x : Operand} (ho : o.op = .nilCheck x) (h : (match g x with
    | .val (.one (.ptr j o)) => k (out1 (.ptr j o))
    | .val (.one (.el j h i o)) => match ob j with
      | some (.row h' _ _) => bsel (Nat.beq h' h) (k (out1 (.el j h i o))) none
      | _ => none
    | .val (.one (.kp t x)) => k (out1 (.kp t x))
    | .val (.one (.fn f)) => k (out1 (.fn f))
    | .val (.one (.clo f js)) => k (out1 (.clo f js))
    | _ => none) = some r) : ∃ out, k out = some r ∧ OpOk E g ob tk o out := by
  split at h
  · rename_i j off hx
    refine ⟨_, h, OpOk.still fun w0 K0 H γ ob1 K a w hr _ _ => ?_⟩
    have := hr x (by simp [ho, Op.operands])
    rw [hx] at this
    obtain ⟨g', b, h1, h2, h3, h4⟩ := id this
    refine ⟨a.eval x, ?_, this⟩
    simp [execOp, ho, h4]
  · rename_i j hh i off hx
    split at h
    · rename_i h' t xs hob
      obtain ⟨hb, h⟩ := bsel_some h
      have hb := Nat.eq_of_beq_eq_true hb
      refine ⟨_, h, OpOk.still fun w0 K0 H γ ob1 K a w hr hle hH => ?_⟩
      have := hr x (by simp [ho, Op.operands])
      rw [hx] at this
      obtain ⟨h0, g', h1, h2, h3, h4⟩ := id this
      have hok := hH.ok j _ g' (hle _ _ hob) h1
      obtain ⟨h5, ad, h6, h7⟩ := h4 (hok.1.trans hb)
      refine ⟨a.eval x, ?_, this⟩
      simp [execOp, ho, h7]
    · cases h
  · rename_i t z hx
    refine ⟨_, h, OpOk.still fun w0 K0 H γ ob1 K a w hr _ _ => ?_⟩
    have := hr x (by simp [ho, Op.operands])
    rw [hx] at this
    obtain ⟨ad, cs, h1, _⟩ := id this
    refine ⟨a.eval x, ?_, this⟩
    simp [execOp, ho, h1]
  · rename_i f hx
    refine ⟨_, h, OpOk.still fun w0 K0 H γ ob1 K a w hr _ _ => ?_⟩
    have := hr x (by simp [ho, Op.operands])
    rw [hx] at this
    have h1 : a.eval x = .func (.func f) #[] #[] := this
    refine ⟨a.eval x, ?_, this⟩
    simp [execOp, ho, h1]
  · rename_i f js hx
    refine ⟨_, h, OpOk.still fun w0 K0 H γ ob1 K a w hr _ _ => ?_⟩
    have := hr x (by simp [ho, Op.operands])
    rw [hx] at this
    obtain ⟨vs, h1, _⟩ := id this
    refine ⟨a.eval x, ?_, this⟩
    simp [execOp, ho, h1]
  · cases h

theorem extract_ok {x : Operand} {i : Nat} (ho : o.op = .extract x i) (h : (match g x with
    | .tup l => match nth l i with
      | some v => k (outV v)
      | none => none
    | _ => none) = some r) : ∃ out, k out = some r ∧ OpOk E g ob tk o out := by
  split at h
  · rename_i l hx
    split at h
    · rename_i v hv
      refine ⟨_, h, OpOk.still fun w0 K0 H γ ob1 K a w hr _ _ => ?_⟩
      have := hr x (by simp [ho, Op.operands])
      rw [hx] at this
      obtain ⟨vs, e, hvs⟩ := this
      rw [nth_eq] at hv
      have key : ∀ (l : List Val) (vs : List Value) (i : Nat), RepVs γ K l vs → l[i]? = some v → ∃ u, vs[i]? = some u ∧ RepV γ K v u := by
        intro l
        induction l with
        | nil => intro vs i _ h; simp at h
        | cons c l ih =>
          intro vs i ⟨u, r, e, h1, h2⟩ hi
          subst e
          cases i with
          | zero => simp at hi; subst hi; exact ⟨u, rfl, h1⟩
          | succ i => exact ih r i h2 (by simpa using hi)
      obtain ⟨u, h1, h2⟩ := key l vs i hvs hv
      exact ⟨u, by simp [execOp, ho, e, Instr.extract, h1], h2⟩
    · cases h
  · cases h

/-! ### equality of structs -/
theorem eqv_ok {K : Kn} (hE : EnvOk E) (w : World) : ∀ (T : Ty),
    (∀ (t : TypeId) (d : Nat) (u v : Value) (x y : T.den), E.t t = some T → T.canEq = true → RepT K T x u → RepT K T y v → T.dep ≤ d → (Op.equalIn (d + 1) t u v).run E.P w = .ok (T.eqv x y) w) ∧
    (∀ (fs : List Field) (off d : Nat) (xs ys : List Value) (x y : T.den), fldOk E fs off T = true → T.canEq = true → off + T.size ≤ xs.length → off + T.size ≤ ys.length → RepC K T x ((xs.drop off).take T.size) → RepC K T y ((ys.drop off).take T.size) → T.dep ≤ d →
      (Op.eqFields (d + 1) xs.toArray ys.toArray fs).run E.P w = .ok (T.eqv x y) w) := by
  -- one field
  have fld : ∀ {T : Ty}, (∀ (t : TypeId) (d : Nat) (u v : Value) (x y : T.den), E.t t = some T → T.canEq = true → RepT K T x u → RepT K T y v → T.dep ≤ d → (Op.equalIn (d + 1) t u v).run E.P w = .ok (T.eqv x y) w) →
      ∀ (f : Field) (fs : List Field) (off d : Nat) (xs ys : List Value) (x y : T.den) (b : Bool), E.t f.type = some T → f.offset = off → f.name ≠ "_" → T.canEq = true → off + T.size ≤ xs.length → off + T.size ≤ ys.length → RepC K T x ((xs.drop off).take T.size) → RepC K T y ((ys.drop off).take T.size) → T.dep ≤ d →
      (T.eqv x y = true → (Op.eqFields (d + 1) xs.toArray ys.toArray fs).run E.P w = .ok b w) → (Op.eqFields (d + 1) xs.toArray ys.toArray (f :: fs)).run E.P w = .ok (T.eqv x y && b) w := by
    intro T hS f fs off d xs ys x y b ht ho hn hc hx hy rx ry hd hrest
    have p1 := part_ok hE ht w (vs := xs) (off := f.offset) (by omega)
    have p2 := part_ok hE ht w (vs := ys) (off := f.offset) (by omega)
    rw [ho] at p1 p2
    have q1 := vOf_rep rx (hE.one ht)
    have q2 := vOf_rep ry (hE.one ht)
    have heq := hS f.type d _ _ x y ht hc q1 q2 hd
    rw [ho.symm] at p1 p2 heq
    simp only [Op.eqFields, ne_eq, hn, not_false_eq_true, if_true, Sem.run_bind, p1, p2, heq, Result.andThen_ok, Sem.run_ite]
    cases hb : T.eqv x y
    · simp
    · simpa using hrest hb
  have single : ∀ {T : Ty}, T.isPair = false → (∀ (t : TypeId) (d : Nat) (u v : Value) (x y : T.den), E.t t = some T → T.canEq = true → RepT K T x u → RepT K T y v → T.dep ≤ d → (Op.equalIn (d + 1) t u v).run E.P w = .ok (T.eqv x y) w) →
      ∀ (fs : List Field) (off d : Nat) (xs ys : List Value) (x y : T.den), fldOk E fs off T = true → T.canEq = true → off + T.size ≤ xs.length → off + T.size ≤ ys.length → RepC K T x ((xs.drop off).take T.size) → RepC K T y ((ys.drop off).take T.size) → T.dep ≤ d →
      (Op.eqFields (d + 1) xs.toArray ys.toArray fs).run E.P w = .ok (T.eqv x y) w := by
    intro T hp hS fs off d xs ys x y hf hc hx hy rx ry hd
    match fs, hf with
    | [f], hf =>
      simp only [fldOk, Bool.and_eq_true, bne_iff_ne] at hf
      have := fld hS f [] off d xs ys x y true (tyIs_eq hf.1.1.2) (Nat.eq_of_beq_eq_true hf.1.1.1) hf.2 hc hx hy rx ry hd (fun _ => by simp [Op.eqFields])
      rwa [Bool.and_true] at this
    | f :: g :: r, hf => cases T <;> first | (cases hp; done) | (simp [fldOk] at hf; done)
  intro T
  induction T with
  | int k =>
    have hS : ∀ (t : TypeId) (d : Nat) (u v : Value) (x y : Int), E.t t = some (.int k) → Ty.canEq (.int k) = true → RepT K (.int k) x u → RepT K (.int k) y v → Ty.dep (.int k) ≤ d → (Op.equalIn (d + 1) t u v).run E.P w = .ok (Ty.eqv (.int k) x y) w := fun t d u v x y ht _ hu hv _ => by
      simp only [RepT, Ty.agg, RepC, List.cons.injEq, and_true] at hu hv
      subst hu; subst hv
      exact run_equalIn_int w d t k k x y (hE.und ht).1
    exact ⟨hS, single rfl hS⟩
  | u8 =>
    have hS : ∀ (t : TypeId) (d : Nat) (u v : Value) (x y : UInt8), E.t t = some .u8 → Ty.canEq .u8 = true → RepT K .u8 x u → RepT K .u8 y v → Ty.dep .u8 ≤ d → (Op.equalIn (d + 1) t u v).run E.P w = .ok (Ty.eqv .u8 x y) w := fun t d u v x y ht _ hu hv _ => by
      simp only [RepT, Ty.agg, RepC, List.cons.injEq, and_true] at hu hv
      subst hu; subst hv
      exact run_equalIn_int w d t .u8 .u8 (n8 x) (n8 y) (hE.und ht)
    exact ⟨hS, single rfl hS⟩
  | bool =>
    have hS : ∀ (t : TypeId) (d : Nat) (u v : Value) (x y : Bool), E.t t = some .bool → Ty.canEq .bool = true → RepT K .bool x u → RepT K .bool y v → Ty.dep .bool ≤ d → (Op.equalIn (d + 1) t u v).run E.P w = .ok (Ty.eqv .bool x y) w := fun t d u v x y ht _ hu hv _ => by
      simp only [RepT, Ty.agg, RepC, List.cons.injEq, and_true] at hu hv
      subst hu; subst hv
      exact run_equalIn_bool' w d t x y (hE.und ht)
    exact ⟨hS, single rfl hS⟩
  | str =>
    have hS : ∀ (t : TypeId) (d : Nat) (u v : Value) (x y : List UInt8), E.t t = some .str → Ty.canEq .str = true → RepT K .str x u → RepT K .str y v → Ty.dep .str ≤ d → (Op.equalIn (d + 1) t u v).run E.P w = .ok (Ty.eqv .str x y) w := fun t d u v x y ht _ hu hv _ => by
      simp only [RepT, Ty.agg, RepC, List.cons.injEq, and_true] at hu hv
      subst hu; subst hv
      rw [run_equalIn_string w d t _ _ (hE.und ht), bst_toList, bst_toList]
      rfl
    exact ⟨hS, single rfl hS⟩
  | st B ih =>
    have hS : ∀ (t : TypeId) (d : Nat) (u v : Value) (x y : B.den), E.t t = some (.st B) → Ty.canEq (.st B) = true → RepT K (.st B) x u → RepT K (.st B) y v → Ty.dep (.st B) ≤ d → (Op.equalIn (d + 1) t u v).run E.P w = .ok (Ty.eqv (.st B) x y) w := fun t d u v x y ht hc hu hv hd => by
      simp only [RepT, Ty.agg] at hu hv
      obtain ⟨us, rfl, hu⟩ := hu
      obtain ⟨vs, rfl, hv⟩ := hv
      obtain ⟨fs, h1, h2, h3⟩ := hE.und ht
      have hfo : E.P.fieldsOf t = fs := by simp [Program.fieldsOf, h1]
      rw [run_equalIn_agg w d t _ _ (by rw [hfo]; exact h1) (h3 hc).1.1, hfo]
      obtain ⟨d', rfl⟩ : ∃ d', d = d' + 1 := ⟨d - 1, by simp only [Ty.dep] at hd; omega⟩
      have l1 := RepC_len hu
      have l2 := RepC_len hv
      simp only [Ty.size] at l1 l2
      exact ih.2 fs.toList 0 d' us vs x y h2 hc (by omega) (by omega) (by rw [List.drop_zero, List.take_of_length_le (by omega)]; exact hu) (by rw [List.drop_zero, List.take_of_length_le (by omega)]; exact hv) (by simp only [Ty.dep] at hd; omega)
    exact ⟨hS, single rfl hS⟩
  | pair a b iha ihb =>
    refine ⟨fun t d u v x y ht => (hE.und ht).elim, fun fs off d xs ys x y hf hc hx hy rx ry hd => ?_⟩
    match fs, hf with
    | [f], hf => simp [fldOk, Ty.isPair] at hf
    | f :: g :: r, hf =>
      simp only [fldOk, Bool.and_eq_true, bne_iff_ne] at hf
      simp only [Ty.canEq, Bool.and_eq_true] at hc
      simp only [Ty.size] at hx hy rx ry
      simp only [Ty.dep] at hd
      obtain ⟨c1, c2, e, r1, r2⟩ := rx
      obtain ⟨d1, d2, e', s1, s2⟩ := ry
      have l1 := RepC_len r1
      have l2 := RepC_len r2
      have l3 := RepC_len s1
      have l4 := RepC_len s2
      have cut : ∀ {xs c1 c2 : List Value}, (xs.drop off).take (a.size + b.size) = c1 ++ c2 → c1.length = a.size → c2.length = b.size → (xs.drop off).take a.size = c1 ∧ (xs.drop (off + a.size)).take b.size = c2 := by
        intro xs c1 c2 e l1 l2
        constructor
        · have := congrArg (List.take a.size) e
          rw [List.take_take, List.take_left' l1] at this
          rwa [Nat.min_eq_left (by omega)] at this
        · have := congrArg (List.drop a.size) e
          rw [List.drop_left' l1, List.drop_take, List.drop_drop] at this
          rwa [show a.size + b.size - a.size = b.size by omega] at this
      obtain ⟨k1, k2⟩ := cut e l1 l2
      obtain ⟨k3, k4⟩ := cut e' l3 l4
      refine fld iha.1 f (g :: r) off d xs ys x.1 y.1 _ (tyIs_eq hf.1.1.2) (Nat.eq_of_beq_eq_true hf.1.1.1) hf.1.2 hc.1 (by omega) (by omega) (by rw [k1]; exact r1) (by rw [k3]; exact s1) (by omega) fun _ => ?_
      exact ihb.2 (g :: r) (off + a.size) d xs ys x.2 y.2 hf.2 hc.2 (by omega) (by omega) (by rw [k2]; exact r2) (by rw [k4]; exact s2) (by omega)
  | slice t _ => exact ⟨fun _ _ _ _ _ _ _ h => (by cases h), fun _ _ _ _ _ _ _ _ h => (by cases h)⟩
  | arr n t _ => exact ⟨fun _ _ _ _ _ _ _ h => (by cases h), fun _ _ _ _ _ _ _ _ h => (by cases h)⟩
  | unit => exact ⟨fun _ _ _ _ _ _ _ h => (by cases h), fun _ _ _ _ _ _ _ _ h => (by cases h)⟩
  | nptr => exact ⟨fun _ _ _ _ _ _ _ h => (by cases h), fun _ _ _ _ _ _ _ _ h => (by cases h)⟩
  | nif => exact ⟨fun _ _ _ _ _ _ _ h => (by cases h), fun _ _ _ _ _ _ _ _ h => (by cases h)⟩

end
end Go.W
end

section
/-
  What an operation does is what the machine on plain values says: fields, elements, parts, loads. No program in it.
-/
namespace Go.W
open Go Go.RowKit

section
variable {E : Env} {g : Operand → SV} {ob : Obs} {tk : Nat} {o : Oper} {α : Type} {k : Out → Option α} {r : α}

theorem eqS_ok (hE : EnvOk E) {op : BinOp} {t yt : TypeId} {x y : Operand} {a b : List Cell} (h : (match E.t t with
      | some T => match T.canEq && T.agg, typed ob T (.agg a), typed ob T (.agg b), op with
        | true, some x, some y, .eql => k (out1 (.v .bool (T.eqv x y)))
        | true, some x, some y, .neq => k (out1 (.v .bool (bnot (T.eqv x y))))
        | _, _, _, _ => none
      | none => none) = some r) (ho : o.op = .binOp op t x y yt) (hx : g x = .val (.agg a)) (hy : g y = .val (.agg b)) : ∃ out, k out = some r ∧ OpOk E g ob tk o out := by
  have noRows : ∀ {T : Ty} {cs : List Cell} {ob2 : Obs} {x : T.den} {rr : List Cell}, T.canEq = true → bld ob T cs = some (x, rr) → bld ob2 T cs = some (x, rr) := by
    intro T
    induction T with
    | pair a b iha ihb =>
      intro cs ob2 x rr hc h
      simp only [Ty.canEq, Bool.and_eq_true] at hc
      simp only [bld] at h ⊢
      split at h
      · rename_i y r1 h1
        rw [iha (ob2 := ob2) hc.1 h1]
        simp only
        split at h
        · rename_i z r2 h2
          rw [ihb (ob2 := ob2) hc.2 h2]
          exact h
        · cases h
      · cases h
    | st t ih => intro cs ob2 x rr hc h; exact ih hc h
    | int k =>
      intro cs ob2 x rr hc h
      cases cs with
      | nil => simp [bld] at h
      | cons c cs => cases c <;> simp only [bld] at h ⊢ <;> exact h
    | u8 =>
      intro cs ob2 x rr hc h
      cases cs with
      | nil => simp [bld] at h
      | cons c cs => cases c <;> simp only [bld] at h ⊢ <;> exact h
    | bool =>
      intro cs ob2 x rr hc h
      cases cs with
      | nil => simp [bld] at h
      | cons c cs => cases c <;> simp only [bld] at h ⊢ <;> exact h
    | str =>
      intro cs ob2 x rr hc h
      cases cs with
      | nil => simp [bld] at h
      | cons c cs => cases c <;> simp only [bld] at h ⊢ <;> exact h
    | slice _ _ => intro cs ob2 x rr hc; cases hc
    | arr _ _ _ => intro cs ob2 x rr hc; cases hc
    | unit => intro cs ob2 x rr hc; cases hc
    | nptr => intro cs ob2 x rr hc; cases hc
    | nif => intro cs ob2 x rr hc; cases hc
  have tyd : ∀ {T : Ty} {cs : List Cell} {x : T.den}, T.canEq = true → T.agg = true → typed ob T (.agg cs) = some x → typed (fun _ => none) T (.agg cs) = some x := by
    intro T cs x hc hA h
    unfold typed at h ⊢
    rw [hA] at h ⊢
    simp only at h ⊢
    split at h
    · rename_i z hz
      rw [noRows (ob2 := fun _ => none) hc hz]
      exact h
    · cases h
  split at h
  · rename_i T ht
    have main : ∀ {u v : T.den} {neg : Bool} {z : Bool}, T.canEq = true → T.agg = true → typed ob T (.agg a) = some u → typed ob T (.agg b) = some v → (op = .eql ∧ z = T.eqv u v ∨ op = .neq ∧ z = !T.eqv u v) → OpOk E g ob tk o (out1 (.v .bool z)) := by
      intro u v neg z hc hA h1 h2 hop
      refine OpOk.still fun w0 K0 H γ ob1 K act w hr _ hH => ?_
      have r1 := hr x (by simp [ho, Op.operands])
      have r2 := hr y (by simp [ho, Op.operands])
      rw [hx] at r1
      rw [hy] at r2
      have t1 := typed_ok (ob := fun _ => none) hH (tyd hc hA h1) r1 (fun c _ j _ h t xs hh => by rcases hh with hh | hh <;> cases hh)
      have t2 := typed_ok (ob := fun _ => none) hH (tyd hc hA h2) r2 (fun c _ j _ h t xs hh => by rcases hh with hh | hh <;> cases hh)
      have q := (eqv_ok (K := K) hE w T).1 t 9999 _ _ u v ht hc t1 t2
      have hdep : T.dep ≤ 9999 := by
        have := hE.und ht
        cases T with
        | st B => obtain ⟨fs, _, _, h3⟩ := this; have := (h3 hc).2; simp only [Ty.dep]; omega
        | arr n T' => cases hc
        | _ => cases hA
      have q := q hdep
      simp only [RepT, hA] at t1 t2
      obtain ⟨us, e1, t1⟩ := t1
      obtain ⟨vs, e2, t2⟩ := t2
      rw [e1, e2] at q
      have hg : E.P.eqGuardType E.P.depth t = false := by
        have := hE.und ht
        cases T with
        | st B => obtain ⟨fs, _, _, h3⟩ := this; exact (h3 hc).1.2
        | arr n T' => cases hc
        | _ => cases hA
      rcases hop with ⟨rfl, rfl⟩ | ⟨rfl, rfl⟩
      · refine ⟨.bool (T.eqv u v), ?_, rfl⟩
        simp only [execOp, ho, e1, e2, Sem.run_bind, run_eqGuard_agg w _ t _ _ _ _ hg, Result.andThen_ok, run_eql_struct, q, Sem.run_pure]
      · refine ⟨.bool (!T.eqv u v), ?_, rfl⟩
        simp only [execOp, ho, e1, e2, Sem.run_bind, run_eqGuard_agg w _ t _ _ _ _ hg, Result.andThen_ok, run_neq_struct, q, Sem.run_pure]
    cases hq : (T.canEq && T.agg) with
    | false => rw [hq] at h; cases h
    | true =>
      cases h1 : typed ob T (.agg a) with
      | none => rw [hq, h1] at h; cases h
      | some u =>
        cases h2 : typed ob T (.agg b) with
        | none => rw [hq, h1, h2] at h; cases h
        | some v =>
          rw [hq, h1, h2] at h
          have hc := hq
          simp only [Bool.and_eq_true] at hc
          cases op with
          | eql => exact ⟨_, h, main (neg := false) hc.1 hc.2 h1 h2 (.inl ⟨rfl, rfl⟩)⟩
          | neq => exact ⟨_, h, main (neg := true) hc.1 hc.2 h1 h2 (.inr ⟨rfl, rfl⟩)⟩
          | _ => cases h
  · cases h

theorem unOp_ok {op : UnOp} {t : TypeId} {x : Operand} (h : (match g x with
    | .val (.one c) => match op, c with
      | .not, .v .bool b => k (out1 (.v .bool (bnot b)))
      | .neg, c => match ival c with
        | some (kx, a) => k (out1 (mkW kx (isub 0 a)))
        | none => none
      | .xor, c => match ival c with
        | some (kx, a) => k (out1 (mkI kx (bitb .xor kx (if kx.signed then -1 else kx.max) a)))
        | none => none
      | _, _ => none
    | _ => none) = some r) (ho : o.op = .unOp op t x) : ∃ out, k out = some r ∧ OpOk E g ob tk o out := by
  split at h
  · rename_i c hx
    cases op with
    | plus => cases h
    | not =>
      cases c with
      | v t b =>
        cases t with
        | bool =>
          refine ⟨_, h, OpOk.still fun w0 K0 H γ ob1 K a w hr _ _ => ?_⟩
          have := hr x (by simp [ho, Op.operands])
          rw [hx] at this
          have hv : a.eval x = .bool b := by simpa [RepSV, RepV, RepCell, RepC] using this
          exact ⟨.bool (!b), by simp [execOp, ho, hv, Op.unary], rfl⟩
        | _ => cases h
      | _ => cases h
    | neg =>
      simp only at h
      split at h
      · rename_i kx n hi
        refine ⟨_, h, OpOk.still fun w0 K0 H γ ob1 K a w hr _ _ => ?_⟩
        have := hr x (by simp [ho, Op.operands])
        rw [hx] at this
        have hv := (ival_ok hi this).1
        exact ⟨.int kx (kx.wrap (isub 0 n)), by simp [execOp, ho, hv, Op.unary, Op.intArith, isub], mkW_ok kx (isub 0 n)⟩
      · cases h
    | xor =>
      simp only at h
      split at h
      · rename_i kx n hi
        refine ⟨_, h, OpOk.still fun w0 K0 H γ ob1 K a w hr _ _ => ?_⟩
        have := hr x (by simp [ho, Op.operands])
        rw [hx] at this
        have hv := (ival_ok hi this).1
        refine ⟨.int kx (bitb .xor kx (if kx.signed then -1 else kx.max) n), ?_, mkI_ok fun e => by subst e; exact wrap8_rng _⟩
        simp [execOp, ho, hv, Op.unary, Op.intBits, bitb]
      · cases h
  · cases h

theorem fld_at (hE : EnvOk E) : ∀ (fs : List Field) (off : Nat) (B : Ty) (f o : Nat) (ft : Ty), fldOk E fs off B = true → fieldAt B f = some (o, ft) → ∃ fd, fs[f]? = some fd ∧ fd.offset = off + o ∧ E.t fd.type = some ft ∧ o + ft.size ≤ B.size
  | [], off, B, f, o, ft, h, _ => by simp [fldOk] at h
  | [fd], off, B, f, o, ft, h, hf => by
    simp only [fldOk, Bool.and_eq_true, Bool.not_eq_true'] at h
    have hf' : f = 0 ∧ o = 0 ∧ ft = B := by
      unfold fieldAt at hf
      split at hf
      · simp [Ty.isPair] at h
      · simp [Ty.isPair] at h
      · simp only [Option.some.injEq, Prod.mk.injEq] at hf; exact ⟨rfl, hf.1.symm, hf.2.symm⟩
      · cases hf
    obtain ⟨rfl, rfl, rfl⟩ := hf'
    exact ⟨fd, rfl, Nat.eq_of_beq_eq_true h.1.1.1, tyIs_eq h.1.1.2, by omega⟩
  | fd :: fe :: fs, off, B, f, o, ft, h, hf => by
    cases B with
    | pair a b =>
      simp only [fldOk, Bool.and_eq_true] at h
      cases f with
      | zero =>
        simp only [fieldAt, Option.some.injEq, Prod.mk.injEq] at hf
        obtain ⟨rfl, rfl⟩ := hf
        exact ⟨fd, rfl, Nat.eq_of_beq_eq_true h.1.1.1, tyIs_eq h.1.1.2, by simp [Ty.size]⟩
      | succ f =>
        simp only [fieldAt] at hf
        split at hf
        · rename_i o' t' hf'
          simp only [Option.some.injEq, Prod.mk.injEq] at hf
          obtain ⟨rfl, rfl⟩ := hf
          obtain ⟨fd', h1, h2, h3, h4⟩ := fld_at hE (fe :: fs) (off + a.size) b f o' t' h.2 hf'
          exact ⟨fd', by simpa using h1, by omega, h3, by simp only [Ty.size]; omega⟩
        · cases hf
    | _ => simp [fldOk] at h

theorem fieldC_ok (hE : EnvOk E) {t : TypeId} {x : Operand} {f : Nat} {cs : List Cell} (ho : o.op = .field t x f) (hx : g x = .val (.agg cs)) (h : fieldC E t cs f (fun v => k (outV v)) = some r) : ∃ out, k out = some r ∧ OpOk E g ob tk o out := by
  unfold fieldC at h
  split at h
  · rename_i B ht
    split at h
    · rename_i off ft hf
      obtain ⟨fs, hu, hfs, _⟩ := hE.und ht
      obtain ⟨fd, h1, h2, h3, h4⟩ := fld_at hE fs.toList 0 B f off ft hfs hf
      rw [Nat.zero_add] at h2
      have main : ∀ {v : Val}, (∀ (γ : Ghs) (K : Kn) (vs : List Value), RepCs γ K cs vs → off + ft.size ≤ vs.length ∧ RepV γ K v (vOf ft ((vs.drop off).take ft.size))) → OpOk E g ob tk o (outV v) := fun {v} hv => by
        refine OpOk.still fun w0 K0 H γ ob1 K a w hr _ _ => ?_
        have := hr x (by simp [ho, Op.operands])
        rw [hx] at this
        obtain ⟨vs, e, hvs⟩ := this
        obtain ⟨hl, hv⟩ := hv γ K vs hvs
        refine ⟨_, ?_, hv⟩
        have hp := part_ok hE h3 w hl
        have h1' : fs[f]? = some fd := by rw [← Array.getElem?_toList]; exact h1
        simp only [execOp, ho, e, Instr.field, Sem.run_bind, run_und hu, Result.andThen_ok, h1', asAgg, Sem.run_pure, h2, hp]
      split at h
      · rename_i hA
        obtain ⟨hb, h⟩ := bsel_some h
        have hb := Nat.eq_of_beq_eq_true hb
        rw [lng_eq, tke_eq, drp_eq] at hb
        refine ⟨_, h, main fun γ K vs hvs => ?_⟩
        have hl := RepCs_len hvs
        simp only [List.length_take, List.length_drop] at hb
        have hp : 0 < ft.size := by obtain ⟨_, _, _, _, _, _, hpos, _⟩ := hE.info h3; exact hpos
        refine ⟨by omega, ?_⟩
        unfold vOf; rw [hA]
        refine ⟨_, rfl, ?_⟩
        rw [tke_eq, drp_eq]
        exact RepCs_take _ (RepCs_drop _ hvs)
      · rename_i c rr hA hc
        refine ⟨_, h, main fun γ K vs hvs => ?_⟩
        have h1 := hE.one h3 hA
        rw [tke_eq, drp_eq] at hc
        have := RepCs_take ft.size (RepCs_drop off hvs)
        rw [hc] at this
        obtain ⟨u, ur, e, hu, _, _⟩ := this
        have hl : 0 < ((vs.drop off).take ft.size).length := by rw [e]; simp
        simp only [List.length_take, List.length_drop] at hl
        refine ⟨by omega, ?_⟩
        unfold vOf; rw [hA, e]
        exact hu
      · cases h
    · cases h
  · cases h

theorem indexC_ok (hE : EnvOk E) {t : TypeId} {x ix : Operand} {v : Val} {c : Cell} (ho : o.op = .index t x ix) (hx : g x = .val v) (hi : g ix = .val (.one c)) (h : indexC E ob t v c (fun v => k (outV v)) = some r) : ∃ out, k out = some r ∧ OpOk E g ob tk o out := by
  unfold indexC at h
  split at h
  · rename_i kk i ht hiv
    split at h
    · rename_i s
      obtain ⟨hb, h⟩ := grd_some h
      have hb : 0 ≤ i ∧ i < (s.length : Int) := of_decide_eq_true hb
      refine ⟨_, h, OpOk.still fun w0 K0 H γ ob1 K a w hr _ _ => ?_⟩
      have r1 := hr x (by simp [ho, Op.operands])
      have r2 := hr ix (by simp [ho, Op.operands])
      rw [hx] at r1
      rw [hi] at r2
      have h1 : a.eval x = .string (bst s) := by simpa [RepSV, RepV, RepCell, RepC] using r1
      have h2 := (ival_ok hiv r2).1
      have hlt : i.toNat < s.length := by omega
      refine ⟨.int .u8 (n8 (lget s (toN i) 0)), ?_, rfl⟩
      have hget : (bst s)[i.toNat]? = some s[i.toNat] := by
        have : i.toNat < (bst s).size := by rw [bst_size]; exact hlt
        rw [getElem?_pos (bst s) i.toNat this]
        simp [bst]
        rfl
      simp only [execOp, ho, h1, h2, Instr.index, asIntOf, Sem.run_bind, Sem.run_pure, Result.andThen_ok, run_und (hE.und ht), hb.1, if_true, hget]
      simp [lget, toN, n8, List.getD_eq_getElem?_getD, List.getElem?_eq_getElem hlt]
    · cases h
  · rename_i n e kk i ht hiv
    split at h
    · rename_i xs hxs hrows
      obtain ⟨hb, h⟩ := grd_some h
      have hb : 0 ≤ i ∧ i < (n : Int) := of_decide_eq_true hb
      refine ⟨_, h, OpOk.still fun w0 K0 H γ ob1 K a w hr hle hH => ?_⟩
      have r1 := hr x (by simp [ho, Op.operands])
      have r2 := hr ix (by simp [ho, Op.operands])
      rw [hx] at r1
      rw [hi] at r2
      have h2 := (ival_ok hiv r2).1
      have t1 := typed_ok hH hxs r1 (fun c hc j hj hh tt ys hob => by
        rcases hob with hob | hob
        · have := rowsIn_mem ob v.cells c j hc hj hh tt ys hob
          rw [hrows] at this; cases this
        · exact hle _ _ hob)
      simp only [RepT, Ty.agg] at t1
      obtain ⟨vs, ev, hl, hL⟩ := t1
      obtain ⟨ei, hu, he, hn⟩ := hE.und ht
      have hlt : i.toNat < xs.length := by omega
      have hget := RepL_get repL_size (e.zero) i.toNat hL hlt
      have hlen := RepL_len repL_size hL
      have hp := part_ok hE he w (vs := vs) (off := i.toNat * e.size) (by
        rw [hlen, hl]
        have : (i.toNat + 1) * e.size ≤ n * e.size := Nat.mul_le_mul_right _ (by omega)
        rw [Nat.add_mul, Nat.one_mul] at this
        exact this)
      refine ⟨vOf e ((vs.drop (i.toNat * e.size)).take e.size), ?_, valOf_rep (vOf_rep hget (hE.one he))⟩
      simp only [execOp, ho, ev, h2, Instr.index, asIntOf, Sem.run_bind, Sem.run_pure, Result.andThen_ok, run_und hu, hb, and_self, if_true, hE.size he w, hp]
    · cases h
  · cases h
end
end Go.W
end

section
/-
  What an operation does is what the machine on plain values says: addresses, parts of slices, loads, literals. No program in it.
-/
namespace Go.W
open Go Go.RowKit

section
variable {E : Env} {g : Operand → SV} {ob : Obs} {tk : Nat} {o : Oper} {α : Type} {k : Out → Option α} {r : α}

theorem fieldVal_ok {K : Kn} : ∀ (T : Ty) (y : T.den) (f off : Nat) (ft : Ty), fieldAt T f = some (off, ft) → ∃ z, fieldVal T y f = some ⟨ft, z⟩ ∧ ∀ cs, RepC K T y cs → RepC K ft z ((cs.drop off).take ft.size) := by
  intro T
  induction T with
  | pair a b _ ihb =>
    intro y f off ft h
    cases f with
    | zero =>
      simp only [fieldAt, Option.some.injEq, Prod.mk.injEq] at h
      obtain ⟨rfl, rfl⟩ := h
      refine ⟨y.1, rfl, fun cs ⟨c1, c2, e, h1, h2⟩ => ?_⟩
      subst e
      rw [List.drop_zero, List.take_left' (RepC_len h1)]
      exact h1
    | succ f =>
      simp only [fieldAt] at h
      split at h
      · rename_i o' t' hf
        simp only [Option.some.injEq, Prod.mk.injEq] at h
        obtain ⟨rfl, rfl⟩ := h
        obtain ⟨z, h1, h2⟩ := ihb y.2 f o' t' hf
        refine ⟨z, h1, fun cs ⟨c1, c2, e, k1, k2⟩ => ?_⟩
        subst e
        rw [← List.drop_drop, List.drop_left' (RepC_len k1)]
        exact h2 c2 k2
      · cases h
  | _ =>
    intro y f off ft h
    cases f with
    | zero =>
      simp only [fieldAt, Option.some.injEq, Prod.mk.injEq] at h
      obtain ⟨rfl, rfl⟩ := h
      refine ⟨y, rfl, fun cs hc => ?_⟩
      rw [List.drop_zero, List.take_of_length_le (by rw [RepC_len hc]; exact Nat.le_refl _)]
      exact hc
    | succ f => simp [fieldAt] at h

theorem fieldAddrC_ok (hE : EnvOk E) {t : TypeId} {x : Operand} {f : Nat} {c : Cell} (ho : o.op = .fieldAddr t x f) (hx : g x = .val (.one c)) (h : fieldAddrC E ob t c f (fun c => k (out1 c)) = some r) : ∃ out, k out = some r ∧ OpOk E g ob tk o out := by
  unfold fieldAddrC at h
  split at h
  · rename_i B ht
    split at h
    · rename_i off ft hf
      obtain ⟨fs, hu, hfs, _⟩ := hE.und ht
      obtain ⟨fd, h1, h2, h3, h4⟩ := fld_at hE fs.toList 0 B f off ft hfs hf
      rw [Nat.zero_add] at h2
      have h1' : fs[f]? = some fd := by rw [← Array.getElem?_toList]; exact h1
      have hpos : 0 < ft.size := by obtain ⟨_, _, _, _, _, _, hpos, _⟩ := hE.info h3; exact hpos
      have main : ∀ {d : Cell}, (∀ (w0 : World) (K0 : Kn) (H : Nat → Prop) (γ : Ghs) (ob1 : Obs) (K : Kn) (w : World) (v : Value), RepCell γ K c v → (∀ j x, ob j = some x → ob1 j = some x) → Hp w0 K0 H γ ob1 K w → ∃ ad, v = .pointer (some ad) ∧ RepCell γ K d (.pointer (some (ad.add off)))) → OpOk E g ob tk o (out1 d) := fun {d} hd => by
        refine OpOk.still fun w0 K0 H γ ob1 K a w hr hle hH => ?_
        have := hr x (by simp [ho, Op.operands])
        rw [hx] at this
        obtain ⟨ad, e, hd⟩ := hd w0 K0 H γ ob1 K w _ this hle hH
        refine ⟨_, ?_, hd⟩
        have hs := hE.size h3 w
        simp only [execOp, ho, e, Instr.fieldAt, Sem.run_bind, run_und hu, Result.andThen_ok, h1', Instr.sureAddr, Sem.run_pure, fieldPlace, hs, show ft.size ≠ 0 by omega, if_false, h2]
      split at h
      · cases h
      · split at h
        · rename_i j o'
          refine ⟨_, h, main fun w0 K0 H γ ob1 K w v hv _ _ => ?_⟩
          obtain ⟨g', b, k1, k2, k3, k4⟩ := hv
          exact ⟨_, k4, g', b, k1, k2, k3, by rw [add_lit]⟩
        · rename_i j hv' i o'
          split at h
          · rename_i hh tt xs hob
            obtain ⟨hb, h⟩ := bsel_some h
            have hb := Nat.eq_of_beq_eq_true hb
            refine ⟨_, h, main fun w0 K0 H γ ob1 K w v hv hle hH => ?_⟩
            obtain ⟨k0, g', k1, k2, k3, k4⟩ := hv
            have hok := hH.ok j _ g' (hle _ _ hob) k1
            obtain ⟨k5, ad, k6, k7⟩ := k4 (hok.1.trans hb)
            refine ⟨_, k7, rfl, g', k1, k2, k3, fun _ => ⟨k5, ad, k6, ?_⟩⟩
            have hsp := (hok.block rfl k6).2.2
            rw [add_parts hsp, add_lit, add_parts hsp]
            simp [Nat.add_assoc]
          · cases h
        · rename_i t' z
          split at h
          · rename_i y hy
            obtain ⟨z', hz1, hz2⟩ := fieldVal_ok (K := fun _ _ => none) B y f off ft hf
            split at h
            · rename_i ft' zz hzz
              rw [hz1] at hzz
              injection hzz with hzz
              injection hzz with e1 e2
              subst e1
              have e2 := eq_of_heq e2
              subst e2
              refine ⟨_, h, main fun w0 K0 H γ ob1 K w v hv _ _ => ?_⟩
              obtain ⟨ad, cs, q1, q2, q3, q4⟩ := hv
              obtain ⟨e1, e2⟩ := tcast_eq hy
              subst e1
              subst e2
              obtain ⟨z2, hy1, hy2⟩ := fieldVal_ok (K := K) B z f off ft hf
              rw [hz1] at hy1
              injection hy1 with hy1
              injection hy1 with _ e2
              subst e2
              refine ⟨ad, q1, ad.add off, (cs.drop off).take ft.size, rfl, by rw [add_parts q2], hy2 cs q3, fun j u hu => ?_⟩
              rw [add_parts q2]
              simp only
              rw [Nat.add_assoc]
              refine q4 _ u ?_
              rw [List.getElem?_take] at hu
              split at hu
              · rwa [List.getElem?_drop] at hu
              · cases hu
            · cases h
          · cases h
        · cases h
    · cases h
  · cases h

/-- an element of memory that is known for good -/
theorem at_elem {K : Kn} {e : Ty} {xs : List e.den} {es : List Value} {A : Option Addr} {i : Nat} (hL : RepL (RepC K e) xs es) (hA : At K A es) (hi : i < xs.length) (hp : 0 < e.size) :
    ∃ ad cs, A = some ad ∧ ad.spot = none ∧ RepC K e (xs.getD i e.dflt) cs ∧ ∀ j u, cs[j]? = some u → K (ad.add (i * e.size)).block ((ad.add (i * e.size)).off + j) = some u := by
  have hget := RepL_get repL_size e.dflt i hL hi
  have hlen := RepL_len repL_size hL
  rcases hA with hA | ⟨ad, h1, h2, h3⟩
  · subst hA
    have hx := RepC_len hget
    simp at hx
    omega
  · refine ⟨ad, _, h1, h2, hget, fun j u hu => ?_⟩
    rw [add_parts h2]
    simp only
    rw [Nat.add_assoc]
    refine h3 _ u ?_
    rw [List.getElem?_take] at hu
    split at hu
    · rwa [List.getElem?_drop] at hu
    · cases hu

theorem run_indexAt_slice {P : Program} {t e : TypeId} {n : Nat} (hu : P.underlying t = some (.slice e)) (w : World) (hs : (sizeOf e).run P w = .ok n w) {ad : Addr} {len c : Nat} {kk : IntKind} {i : Int} (hi : 0 ≤ i ∧ i < (len : Int)) :
    (Instr.indexAt t (.slice (some ad) len c) (.int kk i)).run P w = .ok (.pointer (some (ad.add (i.toNat * n)))) w := by
  simp only [Instr.indexAt, asIntOf, Sem.run_bind, Sem.run_pure, Result.andThen_ok, run_und hu]
  simp [hi.1, hi.2, hs]
theorem run_indexAt_arr {P : Program} {t e : TypeId} {n m : Nat} (hu : P.underlying t = some (.array m e)) (w : World) (hs : (sizeOf e).run P w = .ok n w) {ad : Addr} {kk : IntKind} {i : Int} (hi : 0 ≤ i ∧ i < (m : Int)) :
    (Instr.indexAt t (.pointer (some ad)) (.int kk i)).run P w = .ok (.pointer (some (ad.add (i.toNat * n)))) w := by
  simp only [Instr.indexAt, asIntOf, Sem.run_bind, Sem.run_pure, Result.andThen_ok, run_und hu, Instr.sureAddr]
  simp [hi.1, hi.2, hs]

theorem indexAddrC_ok (hE : EnvOk E) {t : TypeId} {x ix : Operand} {c d : Cell} (ho : o.op = .indexAddr t x ix) (hx : g x = .val (.one c)) (hix : g ix = .val (.one d)) (h : indexAddrC E ob t c d (fun c => k (out1 c)) = some r) : ∃ out, k out = some r ∧ OpOk E g ob tk o out := by
  have main : ∀ {z : Cell} {kk : IntKind} {i : Int}, ival d = some (kk, i) → (∀ (w0 : World) (K0 : Kn) (H : Nat → Prop) (γ : Ghs) (ob1 : Obs) (K : Kn) (w : World) (v : Value), RepCell γ K c v → (∀ j x, ob j = some x → ob1 j = some x) → Hp w0 K0 H γ ob1 K w → ∃ p, (Instr.indexAt t v (.int kk i)).run E.P w = .ok p w ∧ RepCell γ K z p) → OpOk E g ob tk o (out1 z) := fun {z kk i} hi hz => by
    refine OpOk.still fun w0 K0 H γ ob1 K a w hr hle hH => ?_
    have r1 := hr x (by simp [ho, Op.operands])
    have r2 := hr ix (by simp [ho, Op.operands])
    rw [hx] at r1
    rw [hix] at r2
    obtain ⟨p, h1, h2⟩ := hz w0 K0 H γ ob1 K w _ r1 hle hH
    refine ⟨p, ?_, h2⟩
    simp only [execOp, ho, (ival_ok hi r2).1, Sem.run_bind, h1, Result.andThen_ok, Sem.run_pure]
  unfold indexAddrC at h
  split at h
  · rename_i e kk i ht hi
    obtain ⟨ei, hu, he⟩ := hE.und ht
    have hpos : 0 < e.size := by obtain ⟨_, _, _, _, _, _, hpos, _⟩ := hE.info he; exact hpos
    -- memory known for good
    have kn : ∀ {γ : Ghs} {K : Kn} {w : World} {v : Value} {xs : List e.den}, RepC K (.slice e) xs [v] → 0 ≤ i ∧ i < (xs.length : Int) → ∃ p, (Instr.indexAt t v (.int kk i)).run E.P w = .ok p w ∧ RepCell γ K (.kp e (lget xs (toN i) e.dflt)) p := by
      intro γ K w v xs hv hb
      obtain ⟨A, c, ev, h1, h2, es, h3, h4⟩ := hv
      injection ev with ev _
      subst ev
      obtain ⟨ad, cs, q1, q2, q3, q4⟩ := at_elem h3 h4 (i := i.toNat) (by omega) hpos
      subst q1
      refine ⟨_, run_indexAt_slice hu w (hE.size he w) hb, _, cs, rfl, by rw [add_parts q2], q3, q4⟩
    split at h
    · rename_i e' xs
      split at h
      · rename_i ys hy
        obtain ⟨hb, h⟩ := grd_some h
        have hb : 0 ≤ i ∧ i < (ys.length : Int) := of_decide_eq_true hb
        obtain ⟨e1, e2⟩ := tcast_eq hy
        injection e1 with e1
        subst e1
        subst e2
        exact ⟨_, h, main hi fun w0 K0 H γ ob1 K w v hv _ _ => kn hv hb⟩
      · cases h
    · rename_i j hv
      split at h
      · rename_i hh e' xs hob
        split at h
        · rename_i hc
          simp only [Bool.and_eq_true] at hc
          have hb2 := Nat.eq_of_beq_eq_true hc.1
          have hs := same_eq hc.2
          subst hs
          obtain ⟨hb, h⟩ := grd_some h
          have hb : 0 ≤ i ∧ i < (xs.length : Int) := of_decide_eq_true hb
          refine ⟨_, h, main hi fun w0 K0 H γ ob1 K w v hv hle hH => ?_⟩
          obtain ⟨k0, g', k1, k2, k3, k4⟩ := hv
          have hok := hH.ok j _ g' (hle _ _ hob) k1
          obtain ⟨q1, q2, q3, q4, q5, vs, q6, q7, q8⟩ := id hok
          have hvv := k4 (q1.trans hb2)
          cases ha : g'.a with
          | none =>
            rcases q6.2 with ⟨_, _, h0⟩ | ⟨b, cur, ee, fz, h0, _⟩
            · rw [h0] at hb; omega
            · rw [ha] at h0; cases h0
          | some ad =>
            rw [hvv, ha]
            refine ⟨_, run_indexAt_slice hu w (hE.size he w) (by rw [q3]; exact hb), rfl, g', k1, k2, k3, fun _ => ⟨by rw [q3]; simp only [toN]; omega, ad, ha, ?_⟩⟩
            rw [q4]; rfl
        · cases h
      · rename_i hh e' xs hob
        split at h
        · rename_i ys hb2 hy
          have hb2 := Nat.eq_of_beq_eq_true hb2
          obtain ⟨hb, h⟩ := grd_some h
          have hb : 0 ≤ i ∧ i < (ys.length : Int) := of_decide_eq_true hb
          have hcont : content ob e (.row j hv) = some ys := by
            simp only [content, hob]
            simp [bsel, hb2, hy]
          refine ⟨_, h, main hi fun w0 K0 H γ ob1 K w v hvv hle hH => ?_⟩
          exact kn (content_ok hcont hvv hH (fun c hc j' hj' h' t' xs' hob' => by
            simp at hc; subst hc
            simp only [tokOf, Option.some.injEq] at hj'
            subst hj'
            rcases hob' with hob' | hob'
            · rw [hob] at hob'; cases hob'
            · exact hle _ _ hob')) hb
        · cases h
      · cases h
    · rename_i j hv lo n
      split at h
      · rename_i hh e' xs hob
        split at h
        · rename_i hc
          simp only [Bool.and_eq_true] at hc
          have hb2 := Nat.eq_of_beq_eq_true hc.1
          have hs := same_eq hc.2
          subst hs
          obtain ⟨hb, h⟩ := grd_some h
          have hb : 0 ≤ i ∧ i < (n : Int) := of_decide_eq_true hb
          refine ⟨_, h, main hi fun w0 K0 H γ ob1 K w v hv hle hH => ?_⟩
          obtain ⟨k0, g', k1, k2, k3, k4⟩ := hv
          have hok := hH.ok j _ g' (hle _ _ hob) k1
          obtain ⟨q1, q2, q3, q4, q5, vs, q6, q7, q8⟩ := id hok
          obtain ⟨p1, A, cc, p2, p3, p4, p5, _⟩ := k4 (q1.trans hb2)
          cases ha : g'.a with
          | none =>
            rcases q6.2 with ⟨_, _, h0⟩ | ⟨b, cur, ee, fz, h0, _⟩
            · omega
            · rw [ha] at h0; cases h0
          | some ad =>
            have hsp := (hok.block rfl ha).2.2
            rcases p5 with p5 | p5
            · omega
            · rw [ha] at p5
              simp only [Option.map_some] at p5
              rw [p2, p5]
              refine ⟨_, run_indexAt_slice hu w (hE.size he w) hb, rfl, g', k1, k2, k3, fun _ => ⟨by simp only [nadd, toN]; omega, ad, ha, ?_⟩⟩
              rw [add_parts hsp, add_lit, add_parts hsp, q4]
              simp only [nadd, toN, Nat.add_zero, Nat.add_mul, Nat.add_assoc]
        · cases h
      · rename_i hh e' xs hob
        split at h
        · rename_i ys hb2 hy
          have hb2 := Nat.eq_of_beq_eq_true hb2
          obtain ⟨hb, h⟩ := grd_some h
          have hb : 0 ≤ i ∧ i < (n : Int) := of_decide_eq_true hb
          refine ⟨_, h, main hi fun w0 K0 H γ ob1 K w v hv hle hH => ?_⟩
          obtain ⟨e1, e2⟩ := tcast_eq hy
          injection e1 with e1
          subst e1
          subst e2
          obtain ⟨k0, g', k1, k2, k3, k4⟩ := id hv
          have hok := hH.ok j _ g' (hle _ _ hob) k1
          obtain ⟨p1, _⟩ := k4 (hok.1.trans hb2)
          have hn : g'.n = xs.length := hok.2.2.1
          have hcont : content ob e' (.cut j hh lo n) = some (cutl xs lo n) := by
            simp only [content, hob]
            have : tcast (a := .slice e') (.slice e') (cutl xs lo n) = some (cutl xs lo n) := by
              unfold tcast at hy ⊢
              split at hy
              · rename_i p hp; rfl
              · cases hy
            simp [bsel, this]
          have hl : (cutl xs lo n).length = n := by simp only [cutl, List.length_take, List.length_drop]; omega
          have hrep := content_ok hcont (by rw [hb2]; exact hv) hH (fun c hc j' hj' h' t' xs' hob' => by
            simp at hc; subst hc
            simp only [tokOf, Option.some.injEq] at hj'
            subst hj'
            rcases hob' with hob' | hob'
            · rw [hob] at hob'; cases hob'
            · exact hle _ _ hob')
          obtain ⟨p, hp1, hp2⟩ := kn (γ := γ) (w := w) hrep (by rw [hl]; exact hb)
          refine ⟨p, hp1, ?_⟩
          have : lget (cutl xs lo n) (toN i) e'.dflt = lget xs (nadd lo (toN i)) e'.dflt := by
            simp only [lget, cutl, toN, nadd, List.getD_eq_getElem?_getD, List.getElem?_take, List.getElem?_drop]
            rw [if_pos (by omega)]
          rw [← this]; exact hp2
        · cases h
      · cases h
    · cases h
  · rename_i n e kk i ht hi
    obtain ⟨ei, hu, he, hn⟩ := hE.und ht
    have hpos : 0 < e.size := by obtain ⟨_, _, _, _, _, _, hpos, _⟩ := hE.info he; exact hpos
    split at h
    · rename_i m e' xs
      split at h
      · rename_i ys hnm hy
        have hnm := Nat.eq_of_beq_eq_true hnm
        split at h
        · obtain ⟨hb, h⟩ := grd_some h
          have hb : 0 ≤ i ∧ i < (n : Int) := of_decide_eq_true hb
          refine ⟨_, h, main hi fun w0 K0 H γ ob1 K w v hv _ _ => ?_⟩
          obtain ⟨e1, e2⟩ := tcast_eq hy
          injection e1 with e1
          subst e1
          subst e2
          obtain ⟨ad, cs, q1, q2, ⟨q3, q4⟩, q5⟩ := hv
          subst q1
          subst hnm
          obtain ⟨ad', cs', z1, z2, z3, z4⟩ := at_elem q4 (A := some ad) (.inr ⟨ad, rfl, q2, q5⟩) (i := i.toNat) (by omega) hpos
          injection z1 with z1
          subst z1
          exact ⟨_, run_indexAt_arr hu w (hE.size he w) hb, _, cs', rfl, by rw [add_parts q2], z3, z4⟩
        · cases h
      · cases h
    · rename_i j hv
      split at h
      · rename_i hh e' xs hob
        split at h
        · rename_i hc
          simp only [Bool.and_eq_true] at hc
          have hb2 := Nat.eq_of_beq_eq_true hc.1
          have hs := same_eq hc.2
          subst hs
          obtain ⟨hb, h⟩ := grd_some h
          have hb : 0 ≤ i ∧ i < (n : Int) := of_decide_eq_true hb
          obtain ⟨hb3, h⟩ := grd_some h
          have hb3 : i < (xs.length : Int) := of_decide_eq_true hb3
          refine ⟨_, h, main hi fun w0 K0 H γ ob1 K w v hv hle hH => ?_⟩
          obtain ⟨k0, g', k1, k2, k3, k4⟩ := hv
          have hok := hH.ok j _ g' (hle _ _ hob) k1
          obtain ⟨q1, q2, q3, q4, q5, vs, q6, q7, q8⟩ := id hok
          obtain ⟨p1, ad, ha, hvv⟩ := k4 (q1.trans hb2)
          have hsp := (hok.block rfl ha).2.2
          rw [hvv]
          refine ⟨_, run_indexAt_arr hu w (hE.size he w) hb, rfl, g', k1, k2, k3, fun _ => ⟨by rw [q3]; simp only [toN]; omega, ad, ha, ?_⟩⟩
          rw [add_parts hsp, add_lit, add_parts hsp, q4]
          simp [toN]
        · cases h
      · cases h
    · cases h
  · cases h
end
end Go.W
end

section
/-
  What an operation does is what the machine on plain values says: parts of slices and strings, loads, literals, lengths, conversions. No program in it.
-/
namespace Go.W
open Go Go.RowKit

section
variable {E : Env} {g : Operand → SV} {ob : Obs} {tk : Nat} {o : Oper} {α : Type} {k : Out → Option α} {r : α}

def ivv (p : IntKind × Int) : Value := .int p.1 p.2
theorem optI_ok {γ : Ghs} {K : Kn} {a : Act} {x : Option Operand} {i : Option (IntKind × Int)} (h : optI g x = some i) (hr : ∀ y, x = some y → RepSV γ K (g y) (a.eval y)) : x.map a.eval = i.map ivv := by
  unfold optI at h
  split at h
  · injection h with h; subst h; rfl
  · rename_i y
    split at h
    · rename_i c hc
      split at h
      · rename_i p hp
        injection h with h; subst h
        have := hr y rfl
        rw [hc] at this
        obtain ⟨kk, n⟩ := p
        simp only [Option.map_some, ivv]
        rw [(ival_ok hp this).1]
      · cases h
    · cases h

theorem run_bound {P : Program} {w : World} {kk : IntKind} {i : Int} {y : Nat} {code : BoundsCode} (h : 0 ≤ i ∧ i ≤ (y : Int)) : (Instr.sliceBound (.int kk i) y code).run P w = .ok i.toNat w := by
  simp only [Instr.sliceBound, asIntOf, Sem.run_bind, Sem.run_pure, Result.andThen_ok, Sem.run_ite]
  rw [if_pos h]
def loOf (lo : Option (IntKind × Int)) : Nat := match lo with
  | none => 0
  | some (_, l) => l.toNat
def hiOf (hi : Option (IntKind × Int)) (n : Nat) : Nat := match hi with
  | none => n
  | some (_, h) => h.toNat
def bdsOk (lo hi : Option (IntKind × Int)) (n : Nat) : Prop :=
  (∀ kk l, lo = some (kk, l) → 0 ≤ l) ∧ (∀ kk h, hi = some (kk, h) → 0 ≤ h) ∧ loOf lo ≤ hiOf hi n ∧ hiOf hi n ≤ n
theorem run_bounds {P : Program} {w : World} {b : Bool} {n c : Nat} {lo hi : Option (IntKind × Int)} (h : bdsOk lo hi n) (hn : n ≤ c) : (Instr.sliceBounds b n c (lo.map ivv) (hi.map ivv) none).run P w = .ok (loOf lo, hiOf hi n, c) w := by
  obtain ⟨h1, h2, h3, h4⟩ := h
  cases hi with
  | none =>
    cases lo with
    | none => simp [Instr.sliceBounds, loOf, hiOf]
    | some l =>
      obtain ⟨kk, l⟩ := l
      have hl := h1 kk l rfl
      simp only [loOf, hiOf] at h3
      simp only [Instr.sliceBounds, Option.map_none, Option.map_some, ivv, Sem.run_bind, Sem.run_pure, Result.andThen_ok, Option.isSome_none, Bool.false_eq_true, if_false]
      rw [run_bound ⟨hl, by omega⟩]
      rfl
  | some hh =>
    obtain ⟨kh, hh⟩ := hh
    have hh0 := h2 kh hh rfl
    simp only [hiOf] at h3 h4
    cases lo with
    | none =>
      simp only [Instr.sliceBounds, Option.map_none, Option.map_some, ivv, Sem.run_bind, Sem.run_pure, Result.andThen_ok]
      rw [run_bound ⟨hh0, by omega⟩]
      rfl
    | some l =>
      obtain ⟨kk, l⟩ := l
      have hl := h1 kk l rfl
      simp only [loOf] at h3
      simp only [Instr.sliceBounds, Option.map_some, ivv, Sem.run_bind, Sem.run_pure, Result.andThen_ok, Option.isSome_none, Bool.false_eq_true, if_false]
      rw [run_bound ⟨hh0, by omega⟩]
      simp only [Result.andThen_ok]
      rw [run_bound ⟨hl, by omega⟩]
      rfl

theorem bds_nn (n : Nat) : bdsOk none none n := ⟨fun _ _ h => (by cases h), fun _ _ h => (by cases h), Nat.zero_le _, Nat.le_refl _⟩
theorem bds_sn {n : Nat} {kk : IntKind} {l : Int} (h : 0 ≤ l ∧ l ≤ (n : Int)) : bdsOk (some (kk, l)) none n := ⟨fun _ _ e => (by injection e with e; injection e with _ e; subst e; exact h.1), fun _ _ h => (by cases h), by simp only [loOf, hiOf]; omega, Nat.le_refl _⟩
theorem bds_ns {n : Nat} {kk : IntKind} {hh : Int} (h : 0 ≤ hh ∧ hh ≤ (n : Int)) : bdsOk none (some (kk, hh)) n := ⟨fun _ _ h => (by cases h), fun _ _ e => (by injection e with e; injection e with _ e; subst e; exact h.1), Nat.zero_le _, by simp only [hiOf]; omega⟩
theorem bds_ss {n : Nat} {kk kh : IntKind} {l hh : Int} (h : 0 ≤ l ∧ l ≤ hh ∧ hh ≤ (n : Int)) : bdsOk (some (kk, l)) (some (kh, hh)) n := ⟨fun _ _ e => (by injection e with e; injection e with _ e; subst e; exact h.1), fun _ _ e => (by injection e with e; injection e with _ e; subst e; omega), by simp only [loOf, hiOf]; omega, by simp only [hiOf]; omega⟩

def cutA (A : Option Addr) (c lo size : Nat) : Option Addr := if c = lo then A else A.map (·.add (lo * size))
theorem slice_rep {K : Kn} {e : Ty} {xs : List e.den} {A : Option Addr} {n c l h : Nat} (hr : RepC K (.slice e) xs [.slice A n c]) (h1 : l ≤ h) (h2 : h ≤ xs.length) : RepC K (.slice e) ((xs.take h).drop l) [.slice (cutA A c l e.size) (h - l) (c - l)] := by
  obtain ⟨A', c', ev, q1, q2, es, q3, q4⟩ := hr
  injection ev with ev _
  injection ev with e1 e2 e3
  subst e1; subst e2; subst e3
  have hl : ((xs.take h).drop l).length = h - l := by simp; omega
  refine ⟨cutA A c l e.size, c - l, ?_, ?_, by omega, (es.take (h * e.size)).drop (l * e.size), RepL_drop repL_size l (RepL_take repL_size h q3), ?_⟩
  · show [Value.slice _ (h - l) (c - l)] = [Value.slice _ ((xs.take h).drop l).length (c - l)]
    rw [hl]
  · show ((xs.take h).drop l).length ≤ c - l
    rw [hl]; omega
  · rcases q4 with q4 | ⟨ad, a1, a2, a3⟩
    · left; subst q4; simp
    · by_cases hc : c = l
      · left
        apply List.eq_nil_of_length_eq_zero
        have := RepL_len repL_size (RepL_drop repL_size l (RepL_take repL_size h q3))
        rw [this, hl]
        have : h - l = 0 := by omega
        rw [this, Nat.zero_mul]
      · right
        refine ⟨ad.add (l * e.size), by unfold cutA; rw [if_neg hc, a1]; rfl, by rw [add_parts a2], fun j u hu => ?_⟩
        rw [add_parts a2]
        simp only
        rw [Nat.add_assoc]
        refine a3 _ u ?_
        rw [List.getElem?_drop, List.getElem?_take] at hu
        split at hu
        · exact hu
        · cases hu

theorem run_sliceAt_str {P : Program} {t : TypeId} (hu : P.underlying t = some .string) (w : World) {s : List UInt8} {lo hi : Option (IntKind × Int)} (h : bdsOk lo hi s.length) : (Instr.sliceAt t (.string (bst s)) (lo.map ivv) (hi.map ivv) none).run P w = .ok (.string (bst ((s.take (hiOf hi s.length)).drop (loOf lo)))) w := by
  have hb := run_bounds (P := P) (w := w) (b := false) (c := s.length) h (Nat.le_refl _)
  simp only [Instr.sliceAt, Sem.run_bind, run_und hu, Result.andThen_ok, Instr.slice, Option.isSome_none, Bool.false_eq_true, if_false, Sem.run_pure, bst_size, hb, bst_cut]
theorem run_sliceAt_slice {P : Program} {t e : TypeId} {sz : Nat} (hu : P.underlying t = some (.slice e)) (w : World) (hs : (sizeOf e).run P w = .ok sz w) {A : Option Addr} {n c : Nat} {lo hi : Option (IntKind × Int)} (h : bdsOk lo hi n) (hn : n ≤ c) : (Instr.sliceAt t (.slice A n c) (lo.map ivv) (hi.map ivv) none).run P w = .ok (.slice (cutA A c (loOf lo) sz) (hiOf hi n - loOf lo) (c - loOf lo)) w := by
  have hb := run_bounds (P := P) (w := w) (b := true) (c := c) h hn
  simp only [Instr.sliceAt, Sem.run_bind, run_und hu, Result.andThen_ok, Instr.slice, hb, hs, Sem.run_pure, cutA]

theorem sliceC_ok (hE : EnvOk E) {t : TypeId} {x : Operand} {lo hi mx : Option Operand} {c : Cell} {l h m : Option (IntKind × Int)} (ho : o.op = .slice t x lo hi mx) (hx : g x = .val (.one c)) (hl : optI g lo = some l) (hh : optI g hi = some h) (hm : optI g mx = some m)
    (hk : sliceC E ob t c l h m (fun c => k (out1 c)) = some r) : ∃ out, k out = some r ∧ OpOk E g ob tk o out := by
  have main : ∀ {z : Cell}, m = none → (∀ (w0 : World) (K0 : Kn) (H : Nat → Prop) (γ : Ghs) (ob1 : Obs) (K : Kn) (w : World) (v : Value), RepCell γ K c v → (∀ j x, ob j = some x → ob1 j = some x) → Hp w0 K0 H γ ob1 K w → ∃ p, (Instr.sliceAt t v (l.map ivv) (h.map ivv) none).run E.P w = .ok p w ∧ RepCell γ K z p) → OpOk E g ob tk o (out1 z) := fun {z} hmn hz => by
    refine OpOk.still fun w0 K0 H γ ob1 K a w hr hle hH => ?_
    have r1 := hr x (by simp [ho, Op.operands])
    rw [hx] at r1
    obtain ⟨p, h1, h2⟩ := hz w0 K0 H γ ob1 K w _ r1 hle hH
    refine ⟨p, ?_, h2⟩
    have e1 := optI_ok (γ := γ) (K := K) (a := a) hl (fun y hy => hr y (by subst hy; simp [ho, Op.operands]))
    have e2 := optI_ok (γ := γ) (K := K) (a := a) hh (fun y hy => hr y (by subst hy; simp [ho, Op.operands]))
    have e3 := optI_ok (γ := γ) (K := K) (a := a) hm (fun y hy => hr y (by subst hy; simp [ho, Op.operands]))
    rw [hmn] at e3
    simp only [execOp, ho, e1, e2, e3, Option.map_none, Sem.run_bind, h1, Result.andThen_ok, Sem.run_pure]
  unfold sliceC at hk
  split at hk
  · rename_i ht
    have hu := hE.und ht
    split at hk
    · rename_i s
      have str : ∀ {z : List UInt8}, bdsOk l h s.length → (s.take (hiOf h s.length)).drop (loOf l) = z → OpOk E g ob tk o (out1 (.v .str z)) := fun {z} hb hz => main rfl fun w0 K0 H γ ob1 K w v hv _ _ => by
        have hv : v = .string (bst s) := by simpa [RepCell, RepC] using hv
        rw [hv]
        exact ⟨_, run_sliceAt_str hu w hb, by rw [hz]; rfl⟩
      split at hk
      · exact ⟨_, hk, str (bds_nn _) (by simp [hiOf, loOf])⟩
      · rename_i kk l'
        obtain ⟨hb, hk⟩ := grd_some hk
        exact ⟨_, hk, str (bds_sn (of_decide_eq_true hb)) (by simp [hiOf, loOf, ldrop, toN])⟩
      · rename_i kk h'
        obtain ⟨hb, hk⟩ := grd_some hk
        exact ⟨_, hk, str (bds_ns (of_decide_eq_true hb)) (by simp [hiOf, loOf, ltake, toN])⟩
      · rename_i kk l' kh h'
        obtain ⟨hb, hk⟩ := grd_some hk
        exact ⟨_, hk, str (bds_ss (of_decide_eq_true hb)) (by simp [hiOf, loOf, ltake, ldrop, toN])⟩
    · cases hk
  · rename_i e ht
    obtain ⟨ei, hu, he⟩ := hE.und ht
    split at hk
    · rename_i e' xs
      split at hk
      · cases hk
      · rename_i ys hy
        obtain ⟨e1, e2⟩ := tcast_eq hy
        injection e1 with e1
        subst e1
        subst e2
        have val : ∀ {z : List e'.den}, bdsOk l h (List.length xs) → (List.take (hiOf h (List.length xs)) xs).drop (loOf l) = z → OpOk E g ob tk o (out1 (.v (.slice e') z)) := fun {z} hb hz => main rfl fun w0 K0 H γ ob1 K w v hv _ _ => by
          obtain ⟨A, cc, ev, q1, q2, es, q3⟩ := id hv
          injection ev with ev _
          rw [ev] at hv ⊢
          refine ⟨_, run_sliceAt_slice hu w (hE.size he w) hb q1, ?_⟩
          rw [← hz]
          exact slice_rep hv hb.2.2.1 hb.2.2.2
        split at hk
        · exact ⟨_, hk, val (bds_nn _) (by simp [hiOf, loOf])⟩
        · rename_i kk l'
          obtain ⟨hb, hk⟩ := grd_some hk
          exact ⟨_, hk, val (bds_sn (of_decide_eq_true hb)) (by simp [hiOf, loOf, ldrop, toN])⟩
        · rename_i kk h'
          obtain ⟨hb, hk⟩ := grd_some hk
          exact ⟨_, hk, val (bds_ns (of_decide_eq_true hb)) (by simp [hiOf, loOf, ltake, toN])⟩
        · rename_i kk l' kh h'
          obtain ⟨hb, hk⟩ := grd_some hk
          exact ⟨_, hk, val (bds_ss (of_decide_eq_true hb)) (by simp [hiOf, loOf, ltake, ldrop, toN])⟩
    · rename_i j hv
      split at hk
      · cases hk
      · rename_i n hn
        -- the row
        have row : ∀ (w0 : World) (K0 : Kn) (H : Nat → Prop) (γ : Ghs) (ob1 : Obs) (K : Kn) (w : World), (∀ j x, ob j = some x → ob1 j = some x) → Hp w0 K0 H γ ob1 K w → ∀ g', γ j = some g' → g'.hv = hv ∧ g'.n = n ∧ g'.sz = e.size ∧ n ≤ g'.c ∧ g'.c ≤ maxLen := by
          intro w0 K0 H γ ob1 K w hle hH g' hg
          unfold rowAt at hn
          split at hn
          · rename_i hh' tt xs hob
            split at hn
            · rename_i hc
              simp only [Bool.and_eq_true] at hc
              have hs := same_eq hc.2
              subst hs
              injection hn with hn
              obtain ⟨q1, q2, q3, q4, q5, vs, q6, _⟩ := hH.ok j _ g' (hle _ _ hob) hg
              have hcc : xs.length ≤ g'.c ∧ g'.c ≤ maxLen := by
                rcases q6.2 with ⟨_, z1, z2⟩ | ⟨_, _, _, _, _, _, _, z1, z2, _⟩
                · exact ⟨by omega, by rw [z1]; exact Nat.zero_le _⟩
                · exact ⟨z1, z2⟩
              exact ⟨q1.trans (Nat.eq_of_beq_eq_true hc.1), by rw [← hn]; exact q3, q4, by rw [← hn]; exact hcc.1, hcc.2⟩
            · cases hn
          · rename_i hh' tt xs hob
            split at hn
            · rename_i hc
              simp only [Bool.and_eq_true] at hc
              have hs := same_eq hc.2
              subst hs
              injection hn with hn
              obtain ⟨q1, q2, q3, q4, q5, q6, q7, _⟩ := hH.ok j _ g' (hle _ _ hob) hg
              exact ⟨q1.trans (Nat.eq_of_beq_eq_true hc.1), by rw [← hn]; exact q3, q4, by rw [← hn]; exact q6, q7⟩
            · cases hn
          · cases hn
        have part : ∀ {lo' n' : Nat}, bdsOk l h n → loOf l = lo' → hiOf h n - loOf l = n' → OpOk E g ob tk o (out1 (.cut j hv lo' n')) := fun {lo' n'} hb e1 e2 => main rfl fun w0 K0 H γ ob1 K w v hvv hle hH => by
          obtain ⟨k0, g', k1, k2, k3, k4⟩ := hvv
          obtain ⟨q1, q2, q3, q4, q5⟩ := row w0 K0 H γ ob1 K w hle hH g' k1
          rw [k4 q1, q2]
          have b1 := hb.2.2.1
          have b2 := hb.2.2.2
          refine ⟨_, run_sliceAt_slice hu w (hE.size he w) hb q4, rfl, g', k1, k2, k3, fun _ => ⟨by omega, _, _, by rw [e2], by omega, by omega, ?_, fun h0 => ?_⟩⟩
          · by_cases hc : g'.c = loOf l
            · left; omega
            · right; unfold cutA; rw [if_neg hc, q3, e1]
          · rw [e1, h0]
            refine ⟨?_, by omega⟩
            unfold cutA
            split
            · rfl
            · rw [Nat.zero_mul]
              cases g'.a with
              | none => rfl
              | some ad => simp [Addr.add]
        split at hk
        · refine ⟨_, hk, main rfl fun w0 K0 H γ ob1 K w v hvv hle hH => ?_⟩
          obtain ⟨k0, g', k1, k2, k3, k4⟩ := id hvv
          obtain ⟨q1, q2, q3, q4, q5⟩ := row w0 K0 H γ ob1 K w hle hH g' k1
          refine ⟨v, ?_, hvv⟩
          rw [k4 q1, q2]
          have := run_sliceAt_slice hu w (hE.size he w) (A := g'.a) (bds_nn n) q4
          simp only [Option.map_none] at this ⊢
          rw [this]
          congr 2
          unfold cutA loOf
          simp only
          split
          · rfl
          · rw [Nat.zero_mul]
            cases g'.a with
            | none => rfl
            | some ad => simp [Addr.add]
        · rename_i kk l'
          obtain ⟨hb, hk⟩ := grd_some hk
          exact ⟨_, hk, part (bds_sn (of_decide_eq_true hb)) rfl rfl⟩
        · rename_i kk h'
          obtain ⟨hb, hk⟩ := grd_some hk
          exact ⟨_, hk, part (bds_ns (of_decide_eq_true hb)) rfl rfl⟩
        · rename_i kk l' kh h'
          obtain ⟨hb, hk⟩ := grd_some hk
          exact ⟨_, hk, part (bds_ss (of_decide_eq_true hb)) rfl rfl⟩
    · rename_i j hv lo0 n
      split at hk
      · cases hk
      · rename_i n1 hn
        have row : ∀ (w0 : World) (K0 : Kn) (H : Nat → Prop) (γ : Ghs) (ob1 : Obs) (K : Kn) (w : World), (∀ j x, ob j = some x → ob1 j = some x) → Hp w0 K0 H γ ob1 K w → ∀ g', γ j = some g' → g'.hv = hv ∧ g'.sz = e.size ∧ (∀ ad, g'.a = some ad → ad.spot = none ∨ True) := by
          intro w0 K0 H γ ob1 K w hle hH g' hg
          unfold rowAt at hn
          split at hn
          · rename_i hh' tt xs hob
            split at hn
            · rename_i hc
              simp only [Bool.and_eq_true] at hc
              have hs := same_eq hc.2
              subst hs
              obtain ⟨q1, q2, q3, q4, q5, vs, q6, _⟩ := hH.ok j _ g' (hle _ _ hob) hg
              exact ⟨q1.trans (Nat.eq_of_beq_eq_true hc.1), q4, fun _ _ => .inr trivial⟩
            · cases hn
          · rename_i hh' tt xs hob
            split at hn
            · rename_i hc
              simp only [Bool.and_eq_true] at hc
              have hs := same_eq hc.2
              subst hs
              obtain ⟨q1, q2, q3, q4, q5, q6, q7, _⟩ := hH.ok j _ g' (hle _ _ hob) hg
              exact ⟨q1.trans (Nat.eq_of_beq_eq_true hc.1), q4, fun _ _ => .inr trivial⟩
            · cases hn
          · cases hn
        have aa : ∀ (ad : Addr) (i j : Nat), (ad.add i).add j = ad.add (i + j) := fun ad i j => by
          unfold Addr.add
          by_cases hi : i = 0 <;> by_cases hj : j = 0 <;> simp [hi, hj, Nat.add_assoc]
        have part : ∀ {lo' n' : Nat}, bdsOk l h n → lo0 + loOf l = lo' → hiOf h n - loOf l = n' → OpOk E g ob tk o (out1 (.cut j hv lo' n')) := fun {lo' n'} hb e1 e2 => main rfl fun w0 K0 H γ ob1 K w v hvv hle hH => by
          obtain ⟨k0, g', k1, k2, k3, k4⟩ := hvv
          obtain ⟨q1, q2, _⟩ := row w0 K0 H γ ob1 K w hle hH g' k1
          obtain ⟨p1, A, cc, p2, p3, p4, p5, p6⟩ := k4 q1
          rw [p2]
          have b1 := hb.2.2.1
          have b2 := hb.2.2.2
          refine ⟨_, run_sliceAt_slice hu w (hE.size he w) hb p3, rfl, g', k1, k2, k3, fun _ => ⟨by clear p6 k4; omega, _, _, by rw [e2], by clear p6 k4; omega, by clear p6 k4; omega, ?_, fun h0 => ?_⟩⟩
          · by_cases hc : cc = loOf l
            · left; clear p6 k4; omega
            · by_cases hn0 : n' = 0
              · left; exact hn0
              · right
                rcases p5 with p5 | p5
                · clear p6 k4; omega
                · unfold cutA; rw [if_neg hc, p5, q2, ← e1]
                  cases g'.a with
                  | none => rfl
                  | some ad => simp [aa, Nat.add_mul]
          · have z1 : loOf l = 0 := by clear p6 k4; omega
            have z2 : lo0 = 0 := by clear p6 k4; omega
            obtain ⟨p6, p7⟩ := p6 z2
            rw [z1]
            refine ⟨?_, by clear k4; rw [Nat.sub_zero]; exact p7⟩
            unfold cutA
            split
            · exact p6
            · rw [Nat.zero_mul, p6]
              cases g'.a with
              | none => rfl
              | some ad => simp [Addr.add]
        split at hk
        · exact ⟨_, hk, part (bds_nn n) (by simp [loOf]) (by simp [loOf, hiOf])⟩
        · rename_i kk l'
          obtain ⟨hb, hk⟩ := grd_some hk
          exact ⟨_, hk, part (bds_sn (of_decide_eq_true hb)) rfl rfl⟩
        · rename_i kk h'
          obtain ⟨hb, hk⟩ := grd_some hk
          exact ⟨_, hk, part (bds_ns (of_decide_eq_true hb)) (by simp [loOf]) (by simp [loOf, hiOf, toN])⟩
        · rename_i kk l' kh h'
          obtain ⟨hb, hk⟩ := grd_some hk
          exact ⟨_, hk, part (bds_ss (of_decide_eq_true hb)) rfl rfl⟩
    · have nil : bdsOk l h 0 → OpOk E g ob tk o (out1 .nils) := fun hb => main rfl fun w0 K0 H γ ob1 K w v hv _ _ => by
        have hv : v = .slice none 0 0 := hv
        rw [hv]
        refine ⟨_, run_sliceAt_slice hu w (hE.size he w) hb (Nat.le_refl _), ?_⟩
        have b1 := hb.2.2.1
        have b2 := hb.2.2.2
        have z1 : loOf l = 0 := by omega
        have z2 : hiOf h 0 = 0 := by omega
        simp only [RepCell, cutA, z1, z2]
        simp
      split at hk
      · exact ⟨_, hk, nil (bds_nn 0)⟩
      · rename_i kk l'
        obtain ⟨hb, hk⟩ := grd_some hk
        have hb : l' = 0 := by simpa [ieq] using hb
        exact ⟨_, hk, nil (bds_sn (by omega))⟩
      · rename_i kk h'
        obtain ⟨hb, hk⟩ := grd_some hk
        have hb : h' = 0 := by simpa [ieq] using hb
        exact ⟨_, hk, nil (bds_ns (by omega))⟩
      · rename_i kk l' kh h'
        obtain ⟨hb, hk⟩ := grd_some hk
        have hb : l' = 0 ∧ h' = 0 := by simpa [ieq, band] using hb
        exact ⟨_, hk, nil (bds_ss (by omega))⟩
    · cases hk
  · cases hk
end
end Go.W
end

section
/-
  What an operation does is what the machine on plain values says: loads, literals, lengths, conversions. No program in it.
-/
namespace Go.W
open Go Go.RowKit

section
variable {E : Env} {g : Operand → SV} {ob : Obs} {tk : Nat} {o : Oper} {α : Type} {k : Out → Option α} {r : α}

/-- the cells at an address -/
def AtW (w : World) (A : Option Addr) (cs : List Value) : Prop := cs = [] ∨ ∃ ad, A = some ad ∧ ad.spot = none ∧ ∀ j v, cs[j]? = some v → w.cell? (ad.add j) = some v
theorem AtW.known {w0 w : World} {K0 K : Kn} {H : Nat → Prop} {γ : Ghs} {ob : Obs} (hH : Hp w0 K0 H γ ob K w) {A : Option Addr} {cs : List Value} (h : At K A cs) (hc : ∀ v ∈ cs, v.oneCell' = true) : AtW w A cs :=
  h.imp id fun ⟨ad, h1, h2, h3⟩ => ⟨ad, h1, h2, fun j v hv => by rw [add_parts h2]; exact cell_known hH (h3 j v hv) (hc v (List.mem_of_getElem? hv))⟩
theorem AtW.row {q : TypeId → Prop} {w : World} {A : Option Addr} {c size n : Nat} {xs : List Value} (h : rowOk q w A c size n xs) : AtW w A xs := by
  rcases h.2 with ⟨_, _, h0⟩ | ⟨b, cur, e, fz, h1, h2, h3, h4, h5, h6, h7⟩
  · left; exact List.eq_nil_of_length_eq_zero (by rw [h.1, h0, Nat.zero_mul])
  · right
    refine ⟨_, h1, rfl, fun j v hv => ?_⟩
    rw [add_lit, cell_row h2]
    rw [← h7.1, List.getElem?_take] at hv
    split at hv
    · simpa using hv
    · cases hv
theorem AtW.part {w : World} {A : Option Addr} {cs : List Value} (h : AtW w A cs) (lo n : Nat) {B : Option Addr} (hB : n = 0 ∨ B = A.map (·.add lo)) : AtW w B ((cs.drop lo).take n) := by
  rcases h with h | ⟨ad, h1, h2, h3⟩
  · left; subst h; simp
  · by_cases hn : n = 0
    · left; subst hn; simp
    · right
      rcases hB with hB | hB
      · exact absurd hB hn
      · refine ⟨ad.add lo, by rw [hB, h1]; rfl, by rw [add_parts h2], fun j v hv => ?_⟩
        rw [add_parts h2, add_lit]
        rw [List.getElem?_take] at hv
        split at hv
        · rw [List.getElem?_drop] at hv
          have := h3 _ v hv
          rw [add_parts h2] at this
          rwa [← Nat.add_assoc] at this
        · cases hv

theorem contentW {w0 w : World} {K0 K : Kn} {H : Nat → Prop} {γ : Ghs} {ob1 : Obs} {e : Ty} {c : Cell} {xs : List e.den} {v : Value} (h : content ob e c = some xs) (hv : RepCell γ K c v) (hle : ∀ j x, ob j = some x → ob1 j = some x) (hH : Hp w0 K0 H γ ob1 K w) (hp : 0 < e.size) :
    ∃ A cap es, v = .slice A xs.length cap ∧ xs.length ≤ cap ∧ cap ≤ maxLen ∧ RepL (RepC K e) xs es ∧ AtW w A es ∧ (A = none → xs = []) := by
  have nn : ∀ {A : Option Addr} {xs : List e.den} {es : List Value}, RepL (RepC K e) xs es → AtW w A es → A = none → xs = [] := by
    intro A xs es hL hA hn
    rcases hA with hA | ⟨ad, h1, _⟩
    · have := RepL_len repL_size hL
      rw [hA] at this
      simp only [List.length_nil] at this
      have : xs.length = 0 := by
        rcases Nat.mul_eq_zero.1 this.symm with h | h
        · exact h
        · omega
      exact List.eq_nil_of_length_eq_zero this
    · rw [hn] at h1; cases h1
  have fz : ∀ {c : Cell} {xs : List e.den}, content ob e c = some xs → RepCell γ K c v → (∀ j, tokOf c = some j → ∀ hh t ys, ob j ≠ some (.row hh t ys)) → ∃ A cap es, v = .slice A xs.length cap ∧ xs.length ≤ cap ∧ cap ≤ maxLen ∧ RepL (RepC K e) xs es ∧ AtW w A es ∧ (A = none → xs = []) := by
    intro c xs h hv hno
    obtain ⟨A, cc, ev, q1, q2, es, q3, q4⟩ := content_ok (ob2 := ob1) h hv hH (fun d hd j hj hh t ys hob => by
      simp at hd; subst hd
      rcases hob with hob | hob
      · exact absurd hob (hno j hj hh t ys)
      · exact hle _ _ hob)
    injection ev with ev _
    have q5 := RepL_all (fun v => v.oneCell' = true) (fun x cs h => RepC_one h) q3
    exact ⟨A, cc, es, ev, q1, q2, q3, AtW.known hH q4 q5, nn q3 (AtW.known hH q4 q5)⟩
  by_cases hown : ∃ j, tokOf c = some j ∧ ∃ hh t ys, ob j = some (.row hh t ys)
  · obtain ⟨j, hj, hh, t, ys, hob⟩ := hown
    cases c with
    | row i hvv =>
      simp only [tokOf, Option.some.injEq] at hj
      subst hj
      simp only [content, hob] at h
      obtain ⟨hb, h⟩ := bsel_some h
      have hb := Nat.eq_of_beq_eq_true hb
      obtain ⟨e1, e2⟩ := tcast_eq h
      injection e1 with e1
      subst e1
      subst e2
      obtain ⟨k0, g', k1, k2, k3, k4⟩ := hv
      obtain ⟨q1, q2, q3, q4, q5, vs, q6, q7, q8⟩ := hH.ok i _ g' (hle _ _ hob) k1
      have hcc : ys.length ≤ g'.c ∧ g'.c ≤ maxLen := by
        rcases q6.2 with ⟨_, z1, z2⟩ | ⟨_, _, _, _, _, _, _, z1, z2, _⟩
        · exact ⟨by omega, by rw [z1]; exact Nat.zero_le _⟩
        · exact ⟨z1, z2⟩
      exact ⟨g'.a, g'.c, vs, by rw [k4 (q1.trans hb), q3], hcc.1, hcc.2, q7, AtW.row q6, nn q7 (AtW.row q6)⟩
    | cut i hvv lo n =>
      simp only [tokOf, Option.some.injEq] at hj
      subst hj
      simp only [content, hob] at h
      obtain ⟨hb, h⟩ := bsel_some h
      have hb := Nat.eq_of_beq_eq_true hb
      obtain ⟨e1, e2⟩ := tcast_eq h
      injection e1 with e1
      subst e1
      subst e2
      obtain ⟨k0, g', k1, k2, k3, k4⟩ := hv
      obtain ⟨q1, q2, q3, q4, q5, vs, q6, q7, q8⟩ := hH.ok i _ g' (hle _ _ hob) k1
      obtain ⟨p1, A, cc, p2, p3, p4, p5, _⟩ := k4 (q1.trans hb)
      have hl : (cutl ys lo n).length = n := by simp only [cutl, List.length_take, List.length_drop]; omega
      have hA : AtW w A ((vs.drop (lo * t.size)).take (n * t.size)) := (AtW.row q6).part _ _ (by
        rcases p5 with p5 | p5
        · left; rw [p5, Nat.zero_mul]
        · right; rw [p5, q4])
      have hL : RepL (RepC K t) (cutl ys lo n) ((vs.drop (lo * t.size)).take (n * t.size)) := RepL_take repL_size n (RepL_drop repL_size lo q7)
      exact ⟨A, cc, _, by show v = Value.slice A (cutl ys lo n).length cc; rw [hl]; exact p2, by show (cutl ys lo n).length ≤ cc; rw [hl]; exact p3, p4, hL, hA, nn hL hA⟩
    | _ => cases hj
  · exact fz h hv fun j hj hh t ys hob => hown ⟨j, hj, hh, t, ys, hob⟩

theorem loadC_ok (hE : EnvOk E) {t : TypeId} {x : Operand} {c : Cell} (ho : o.op = .load t x) (hx : g x = .val (.one c)) (h : loadC E ob t c (fun v => k (outV v)) = some r) : ∃ out, k out = some r ∧ OpOk E g ob tk o out := by
  unfold loadC at h
  split at h
  · cases h
  · rename_i T ht
    have hpos : 0 < T.size := by obtain ⟨_, _, _, _, _, _, hpos, _⟩ := hE.info ht; exact hpos
    have main : ∀ {z : Val}, (∀ (w0 : World) (K0 : Kn) (H : Nat → Prop) (γ : Ghs) (ob1 : Obs) (K : Kn) (w : World) (v : Value), RepCell γ K c v → (∀ j x, ob j = some x → ob1 j = some x) → Hp w0 K0 H γ ob1 K w → ∃ ad vs, v = .pointer (some ad) ∧ (∀ j u, vs[j]? = some u → w.cell? (ad.add j) = some u) ∧ vs.length = T.size ∧ RepV γ K z (vOf T vs)) → OpOk E g ob tk o (outV z) := fun {z} hz => by
      refine OpOk.still fun w0 K0 H γ ob1 K a w hr hle hH => ?_
      have r1 := hr x (by simp [ho, Op.operands])
      rw [hx] at r1
      obtain ⟨ad, vs, e, h1, h2, h3⟩ := hz w0 K0 H γ ob1 K w _ r1 hle hH
      refine ⟨_, ?_, h3⟩
      have := loadVar_ok hE ht h1 h2
      simp only [execOp, ho, e, Instr.loadAt, Instr.sureAddr, Sem.run_bind, Sem.run_pure, Result.andThen_ok, this]
    -- out of cells
    have cells : ∀ {γ : Ghs} {K : Kn} {cs : List Cell} {vs : List Value} {off : Nat} {z : Val}, RepCs γ K cs vs → ((T.agg = true ∧ (tke T.size (drp off cs)).length = T.size ∧ z = .agg (tke T.size (drp off cs))) ∨ (T.agg = false ∧ ∃ c r, tke T.size (drp off cs) = c :: r ∧ z = .one c)) →
        ((vs.drop off).take T.size).length = T.size ∧ RepV γ K z (vOf T ((vs.drop off).take T.size)) := by
      intro γ K cs vs off z hcs hz
      have hsub := RepCs_take T.size (RepCs_drop off hcs)
      have hl := RepCs_len hsub
      rw [tke_eq, drp_eq] at hz
      rcases hz with ⟨hA, h1, h2⟩ | ⟨hA, c, rr, h1, h2⟩
      · refine ⟨by rw [hl]; exact h1, ?_⟩
        unfold vOf; rw [hA, h2]
        exact ⟨_, rfl, hsub⟩
      · rw [h1] at hsub hl
        obtain ⟨u, ur, e, h3, _, _⟩ := hsub
        have h1' := hE.one ht hA
        refine ⟨?_, ?_⟩
        · have : ((vs.drop off).take T.size).length ≤ T.size := by simp; omega
          rw [e] at this ⊢
          simp at this ⊢
          omega
        · unfold vOf; rw [hA, e, h2]; exact h3
    split at h
    · rename_i j off
      split at h
      · rename_i cs hob
        have fin : ∀ {z : Val}, (∀ (i : Nat) (c : Cell), i < T.size → cs[off + i]? = some c → c.solid = true) → ((T.agg = true ∧ (tke T.size (drp off cs)).length = T.size ∧ z = .agg (tke T.size (drp off cs))) ∨ (T.agg = false ∧ ∃ c r, tke T.size (drp off cs) = c :: r ∧ z = .one c)) → OpOk E g ob tk o (outV z) := fun {z} hs hz => main fun w0 K0 H γ ob1 K w v hv hle hH => by
          obtain ⟨g', b, k1, k2, k3, k4⟩ := hv
          obtain ⟨b', vs, q0, q1, ⟨us, q2, qs⟩, q3, _⟩ := hH.ok j _ g' (hle _ _ hob) k1
          have hcut := qs.cut q3 hs
          rw [k3] at q1
          injection q1 with q1
          injection q1 with q1
          subst q1
          obtain ⟨c1, c2⟩ := cells q3 hz
          refine ⟨_, _, k4, fun i u hu => ?_, c1, c2⟩
          rw [add_lit, cell_row q2]
          rw [← hcut] at hu
          rw [List.getElem?_take] at hu
          split at hu
          · rw [List.getElem?_drop] at hu; simpa using hu
          · cases hu
        split at h
        · rename_i hA
          obtain ⟨hb, h⟩ := bsel_some h
          simp only [Bool.and_eq_true] at hb
          have hb2 := hb.2
          have hb := Nat.eq_of_beq_eq_true hb.1
          rw [lng_eq] at hb
          exact ⟨_, h, fin (fun i c hi hc => solids_at hb2 i c (by rw [tke_eq, drp_eq, List.getElem?_take, if_pos hi, List.getElem?_drop]; exact hc)) (.inl ⟨hA, hb, rfl⟩)⟩
        · rename_i c rr hc hA
          obtain ⟨hb, h⟩ := bsel_some h
          refine ⟨_, h, fin (fun i c' hi hc' => ?_) (.inr ⟨hA, c, rr, hc, rfl⟩)⟩
          have h1 := hE.one ht hA
          have : i = 0 := by omega
          subst this
          have h2 : (tke T.size (drp off cs))[0]? = some c' := by rw [tke_eq, drp_eq, List.getElem?_take, if_pos hi, List.getElem?_drop]; exact hc'
          rw [hc] at h2
          simp at h2
          rw [← h2]; exact hb
        · cases h
      · cases h
    · rename_i t' z
      split at h
      · rename_i y hy
        obtain ⟨e1, e2⟩ := tcast_eq hy
        subst e1
        subst e2
        refine ⟨_, h, main fun w0 K0 H γ ob1 K w v hv hle hH => ?_⟩
        obtain ⟨ad, cs, q1, q2, q3, q4⟩ := hv
        refine ⟨ad, cs, q1, fun i u hu => ?_, RepC_len q3, valOf_rep (vOf_rep q3 (hE.one ht))⟩
        rw [add_parts q2]
        exact cell_known hH (q4 i u hu) (RepC_one q3 u (List.mem_of_getElem? hu))
      · cases h
    · rename_i j hv i off
      split at h
      · rename_i hh e xs hob
        split at h
        · rename_i hb2
          have hb2 := Nat.eq_of_beq_eq_true hb2
          have fin : ∀ {z : Val}, ((T.agg = true ∧ (tke T.size (drp off (cellsOf e (lget xs i e.dflt)))).length = T.size ∧ z = .agg (tke T.size (drp off (cellsOf e (lget xs i e.dflt))))) ∨ (T.agg = false ∧ ∃ c r, tke T.size (drp off (cellsOf e (lget xs i e.dflt))) = c :: r ∧ z = .one c)) → OpOk E g ob tk o (outV z) := fun {z} hz => main fun w0 K0 H γ ob1 K w v hv hle hH => by
            obtain ⟨k0, g', k1, k2, k3, k4⟩ := hv
            have hok := hH.ok j _ g' (hle _ _ hob) k1
            obtain ⟨q1, q2, q3, q4, q5, vs, q6, q7, q8⟩ := id hok
            obtain ⟨p1, ad, ha, hvv⟩ := k4 (q1.trans hb2)
            have hsp := (hok.block rfl ha).2.2
            have hget := RepL_get repL_size e.dflt i q7 (by rw [← q3]; exact p1)
            have hcs := cellsOf_rep (γ := γ) hget
            obtain ⟨c1, c2⟩ := cells (off := off) hcs hz
            refine ⟨_, _, hvv, fun i' u hu => ?_, c1, c2⟩
            have hAt := AtW.row q6
            rcases hAt with hAt | ⟨ad', a1, a2, a3⟩
            · rw [hAt] at hu; simp at hu
            · rw [ha] at a1
              injection a1 with a1
              subst a1
              rw [List.getElem?_take] at hu
              split at hu
              · rw [List.getElem?_drop, List.getElem?_take] at hu
                split at hu
                · rw [List.getElem?_drop] at hu
                  have := a3 _ u hu
                  rw [add_parts hsp] at this ⊢
                  rw [add_lit, q4]
                  rw [show ad.off + (i * e.size + off) + i' = ad.off + (i * e.size + (off + i')) by omega]
                  exact this
                · cases hu
              · cases hu
          split at h
          · rename_i hA
            obtain ⟨hb, h⟩ := bsel_some h
            have hb := Nat.eq_of_beq_eq_true hb
            rw [lng_eq] at hb
            exact ⟨_, h, fin (.inl ⟨hA, hb, rfl⟩)⟩
          · rename_i c rr hA hc
            exact ⟨_, h, fin (.inr ⟨hA, c, rr, hc, rfl⟩)⟩
          · cases h
        · cases h
      · cases h
    · cases h

theorem lenC_ok {c : Cell} {kk : Cell → Option α} (h : lenC ob c kk = some r) : ∃ n, kk (.v (.int .i64) n) = some r ∧ ∀ (w0 : World) (K0 : Kn) (H : Nat → Prop) (γ : Ghs) (ob1 : Obs) (K : Kn) (w : World) (v : Value), RepCell γ K c v → (∀ j x, ob j = some x → ob1 j = some x) → Hp w0 K0 H γ ob1 K w → ∃ A m cap, v = .slice A m cap ∧ (m : Int) = n := by
  unfold lenC at h
  split at h
  · rename_i t xs
    refine ⟨_, h, fun w0 K0 H γ ob1 K w v hv _ _ => ?_⟩
    obtain ⟨A, cc, ev, _⟩ := hv
    injection ev with ev _
    exact ⟨A, _, cc, ev, rfl⟩
  · exact ⟨_, h, fun w0 K0 H γ ob1 K w v hv _ _ => ⟨none, 0, 0, hv, rfl⟩⟩
  · rename_i j hv
    split at h
    · rename_i hh t xs hob
      obtain ⟨hb, h⟩ := bsel_some h
      have hb := Nat.eq_of_beq_eq_true hb
      refine ⟨_, h, fun w0 K0 H γ ob1 K w v hv hle hH => ?_⟩
      obtain ⟨k0, g', k1, k2, k3, k4⟩ := hv
      obtain ⟨q1, q2, q3, _⟩ := hH.ok j _ g' (hle _ _ hob) k1
      exact ⟨_, _, _, k4 (q1.trans hb), by rw [q3]; rfl⟩
    · rename_i hh t xs hob
      obtain ⟨hb, h⟩ := bsel_some h
      have hb := Nat.eq_of_beq_eq_true hb
      refine ⟨_, h, fun w0 K0 H γ ob1 K w v hv hle hH => ?_⟩
      obtain ⟨k0, g', k1, k2, k3, k4⟩ := hv
      obtain ⟨q1, q2, q3, _⟩ := hH.ok j _ g' (hle _ _ hob) k1
      exact ⟨_, _, _, k4 (q1.trans hb), by rw [q3]; rfl⟩
    · cases h
  · rename_i j hv lo n
    split at h
    · rename_i hh t xs hob
      obtain ⟨hb, h⟩ := bsel_some h
      have hb := Nat.eq_of_beq_eq_true hb
      refine ⟨_, h, fun w0 K0 H γ ob1 K w v hv hle hH => ?_⟩
      obtain ⟨k0, g', k1, k2, k3, k4⟩ := hv
      obtain ⟨q1, q2, q3, _⟩ := hH.ok j _ g' (hle _ _ hob) k1
      obtain ⟨p1, A, cc, p2, _⟩ := k4 (q1.trans hb)
      exact ⟨A, n, cc, p2, rfl⟩
    · rename_i hh t xs hob
      obtain ⟨hb, h⟩ := bsel_some h
      have hb := Nat.eq_of_beq_eq_true hb
      refine ⟨_, h, fun w0 K0 H γ ob1 K w v hv hle hH => ?_⟩
      obtain ⟨k0, g', k1, k2, k3, k4⟩ := hv
      obtain ⟨q1, q2, q3, _⟩ := hH.ok j _ g' (hle _ _ hob) k1
      obtain ⟨p1, A, cc, p2, _⟩ := k4 (q1.trans hb)
      exact ⟨A, n, cc, p2, rfl⟩
    · cases h
  · cases h

theorem mapG_rep {γ : Ghs} {K : Kn} {a : Act} : ∀ {xs : List Operand}, (∀ x ∈ xs, RepSV γ K (g x) (a.eval x)) → ∀ (i : Nat) (sv : SV), (mapG g xs)[i]? = some sv → ∃ v, (xs.map a.eval)[i]? = some v ∧ RepSV γ K sv v
  | [], _, i, sv, h => by simp [mapG] at h
  | x :: xs, hr, 0, sv, h => by
    simp only [mapG, List.getElem?_cons_zero, Option.some.injEq] at h
    subst h
    exact ⟨_, rfl, hr x List.mem_cons_self⟩
  | x :: xs, hr, i + 1, sv, h => by
    simp only [mapG, List.getElem?_cons_succ] at h
    obtain ⟨v, h1, h2⟩ := mapG_rep (fun y hy => hr y (List.mem_cons_of_mem _ hy)) i sv h
    exact ⟨v, by simpa using h1, h2⟩

theorem run_loadBytes_loop {P : Program} {w : World} (f : Value → ByteArray → Sem (ForInStep ByteArray)) (hf : ∀ n s, f (.int .u8 n) s = pure (.yield (s.push (UInt8.ofNat n.toNat)))) : ∀ (bs : List UInt8) (acc : ByteArray),
    (ForIn.forIn (m := Sem) (bs.map fun b => Value.int .u8 ((b.toNat : Nat) : Int)) acc f).run P w = .ok ⟨acc.data ++ bs.toArray⟩ w
  | [], acc => by simp
  | b :: r, acc => by
    have := run_loadBytes_loop (P := P) (w := w) f hf r (acc.push (UInt8.ofNat (((b.toNat : Nat) : Int)).toNat))
    simp only [List.map_cons, List.forIn_cons, hf, Sem.run_bind, Sem.run_pure, Result.andThen_ok]
    rw [this]
    simp [ByteArray.push]
theorem repL_bytes {K : Kn} : ∀ {bs : List UInt8} {es : List Value}, RepL (RepC K .u8) bs es → es = bs.map fun b => Value.int .u8 ((b.toNat : Nat) : Int)
  | [], _, h => h
  | b :: bs, _, ⟨c1, c2, e, h1, h2⟩ => by
    subst e
    simp only [RepC] at h1
    subst h1
    rw [repL_bytes h2]
    rfl
theorem run_bytesToString {P : Program} {w : World} {A : Option Addr} {bs : List UInt8} {cap : Nat} {es : List Value} {K : Kn} (hL : RepL (RepC K .u8) bs es) (hA : AtW w A es) (hn : A = none → bs = []) : (Conv.bytesToString (.slice A bs.length cap)).run P w = .ok (.string (bst bs)) w := by
  cases A with
  | none =>
    have := hn rfl
    subst this
    rfl
  | some ad =>
    have he := repL_bytes hL
    have hcell : ∀ j u, es[j]? = some u → w.cell? (ad.add j) = some u := fun j u hu => by
      rcases hA with hA | ⟨ad', h1, h2, h3⟩
      · rw [hA] at hu; simp at hu
      · injection h1 with h1; subst h1; exact h3 j u hu
    have hld := run_loadCells_list (P := P) w ad es hcell
    have hlen : es.length = bs.length := by rw [he]; simp
    rw [hlen] at hld
    simp only [Conv.bytesToString, Sem.run_bind, hld, Result.andThen_ok]
    have hloop := fun f hf => run_loadBytes_loop (P := P) (w := w) f hf bs ByteArray.empty
    rw [List.forIn_toArray, he]
    rw [hloop _ (fun _ _ => rfl)]
    have e0 : ByteArray.empty.data = #[] := rfl
    rw [e0]
    simp [bst]
end
end Go.W
end

section
/-
  What an operation does is what the machine on plain values says: memory is made. No program in it.
-/
namespace Go.W
open Go Go.RowKit

section
variable {w0 w w' : World} {K0 K : Kn} {H : Nat → Prop} {γ : Ghs} {ob : Obs}
theorem Hp.drew (h : Hp w0 K0 H γ ob K w) (n : Nat) : Hp w0 K0 H γ ob K { w with drawn := n } :=
  ⟨h.os, h.tape, h.output, h.size, h.blk, h.mono, h.kok, fun j o g h1 h2 => (h.ok j o g h1 h2).mono (Ghs.le.refl γ) (Kn.le.refl K) fun _ _ _ => ⟨rfl, fun _ => rfl⟩, h.own, h.sep⟩
theorem Hp.knone (h : Hp w0 K0 H γ ob K w) {b : Nat} (hb : w.heap.size ≤ b) (o : Nat) : K b o = none := by
  cases hk : K b o with
  | none => rfl
  | some v =>
    obtain ⟨cs, e, fz, h1, _⟩ := h.kok b o v hk
    have := (Array.getElem?_eq_some_iff.1 h1).1
    omega
theorem Hp.alloc (h : Hp w0 K0 H γ ob K w) {j : Nat} (hj : γ j = none) (obj : Obj) (g' : Gh) (o' : Ob) (ha : ∀ ad, g'.a = some ad → ad.block = w.heap.size) (hok : ObOk (fset γ j g') K (w.alloc obj) g' o') :
    γ.le (fset γ j g') ∧ Hp w0 K0 H (fset γ j g') (fset ob j o') K (w.alloc obj) :=
  h.turn j g' o' rfl rfl rfl (by simp) (fun g hg => by rw [hj] at hg; cases hg) (fun b hb _ => Below.heap_alloc w obj b hb) (fun _ ad had => .inl (by rw [ha ad had]; exact Nat.le_refl _)) hok
theorem made_one (γ : Ghs) (tk : Nat) (g : Gh) : ∀ i, i < 1 → ∃ g', fset γ tk g (tk + i) = some g' := fun i hi => ⟨g, by rw [show tk + i = tk by omega]; exact fset_same _ _ _⟩
theorem new_one {γ : Ghs} {j tk : Nat} {g' : Gh} {new : List Ob} (hn : tk ≤ j ∧ j < tk + new.length) (hv : g'.hv ≤ tk) (_u : Upd) : ∀ i g2, fset γ j g' i = some g2 → γ i = some g2 ∨ (g2.hv ≤ tk ∧ ((∃ g, γ i = some g) ∨ (tk ≤ i ∧ i < tk + new.length))) := fun i g2 hi => by
  by_cases hij : i = j
  · subst hij; rw [fset_same] at hi; injection hi with hi; subst hi; exact .inr ⟨hv, .inr hn⟩
  · rw [fset_ne _ _ hij] at hi; exact .inl hi
end

section
variable {E : Env} {g : Operand → SV} {ob : Obs} {tk : Nat} {o : Oper} {α : Type} {k : Out → Option α} {r : α}

/-- one object is made -/
theorem OpOk.make {sv : SV} {o' : Ob} (h : ∀ (w0 : World) (K0 : Kn) (H : Nat → Prop) (γ : Ghs) (ob1 : Obs) (K : Kn) (a : Act) (w : World), (∀ x ∈ o.op.operands.toList, RepSV γ K (g x) (a.eval x)) → (∀ j x, ob j = some x → ob1 j = some x) → Hp w0 K0 H γ ob1 K w → 0 < tk → γ tk = none →
      ∃ v g' d obj, (execOp a.eval o).run E.P w = .ok (.value v) (World.alloc { w with drawn := d } obj) ∧ g'.hv ≤ tk ∧ (∀ ad, g'.a = some ad → ad.block = w.heap.size) ∧ ObOk (fset γ tk g') K (World.alloc { w with drawn := d } obj) g' o' ∧ RepSV (fset γ tk g') K sv v) : OpOk E g ob tk o ⟨sv, [o'], []⟩ := by
  intro w0 K0 H γ ob1 K a w hr hob hH hG hf _ h0 next Q hn
  have hj : γ tk = none := by have := hf 0 (by simp); simpa using this
  obtain ⟨v, g', d, obj, h1, h2, h3, h4, h5⟩ := h w0 K0 H γ ob1 K a w hr hob hH h0 hj
  unfold Oper.wp
  rw [h1]
  obtain ⟨q1, q2⟩ := (hH.drew d).alloc hj obj g' o' h3 h4
  exact hn v (fset γ tk g') K _ ⟨q1, Kn.le.refl K, h5, q2, new_one (by simp) h2 [], made_one _ _ _⟩

theorem heap_new (w : World) (obj : Obj) : (w.alloc obj).heap[w.heap.size]? = some obj := heap_alloc_new w obj

theorem box_ok (hE : EnvOk E) {t : TypeId} {x : Operand} (ho : o.op = .box t x) (h : (match E.t t, g x with
    | some T, .val v => bsel (Nat.beq (lng v.cells) T.size && v.ok) (k ⟨.val (.one (.ptr tk 0)), [.box t v.cells], []⟩) none
    | _, _ => none) = some r) : ∃ out, k out = some r ∧ OpOk E g ob tk o out := by
  split at h
  · rename_i T v ht hx
    obtain ⟨hb, h⟩ := bsel_some h
    simp only [Bool.and_eq_true] at hb
    refine ⟨_, h, OpOk.make fun w0 K0 H γ ob1 K a w hr hle hH h0 hj => ?_⟩
    have r1 := hr x (by simp [ho, Op.operands])
    rw [hx] at r1
    obtain ⟨vs, e1, h1⟩ := RepV.cells r1 (fun c hc => by subst hc; intro e; subst e; exact absurd hb.2 (by decide))
    refine ⟨.pointer (some ⟨w.heap.size, 0, none⟩), ⟨some ⟨w.heap.size, 0, none⟩, 0, 0, 0, 0⟩, w.drawn, .cells (List.toArray vs) t (0, 0), ?_, Nat.zero_le _, fun ad had => by injection had with had; subst had; rfl, ?_, ?_⟩
    · simp only [execOp, ho, Instr.box, newVar, newRow, newObj, Sem.run_bind, Sem.run, Result.andThen_ok, Sem.run_pure, e1]
      rfl
    · exact ⟨w.heap.size, vs, rfl, rfl, ⟨vs, heap_new _ _, Slf.refl _ _⟩, h1.mono (fun i gg hgg => ⟨gg, by rw [fset_ne _ _ (fun e => by subst e; rw [hj] at hgg; cases hgg)]; exact hgg, Nat.le_refl _, fun _ => rfl⟩) (Kn.le.refl K), fun o => hH.knone (Nat.le_refl _) o⟩
    · exact ⟨_, w.heap.size, fset_same _ _ _, rfl, rfl, rfl⟩
  · cases h

theorem zOk_cells {T : Ty} {z : Value} (K : Kn) (h : zOk T z = true) : ∃ vs, z.cells = List.toArray vs ∧ RepC K T T.zero vs := by
  unfold zOk at h
  cases hA : T.agg with
  | true =>
    rw [hA] at h
    cases z with
    | agg cs =>
      simp only at h
      split at h
      · rename_i hz
        obtain ⟨ds, e, hd⟩ := zC_ok K T cs.toList [] hz
        rw [List.append_nil] at e
        exact ⟨cs.toList, by simp [Value.cells], by rw [e]; exact hd⟩
      · cases h
    | _ => cases h
  | false =>
    rw [hA] at h
    simp only at h
    split at h
    · rename_i hz
      obtain ⟨ds, e, hd⟩ := zC_ok K T _ [] hz
      rw [List.append_nil] at e
      refine ⟨[z], ?_, by rw [e]; exact hd⟩
      have h1 := RepC_one hd z (by rw [← e]; simp)
      cases z <;> first | rfl | cases h1
    · cases h
theorem zN_cells {γ : Ghs} {K : Kn} {d : List Cell} {f : List Value → Option (List Value)} (h : ∀ vs r, f vs = some r → ∃ cs, vs = cs ++ r ∧ RepCs γ K d cs) : ∀ (n i : Nat) (vs r : List Value), zN f n vs = some r → ∃ cs, vs = cs ++ r ∧ RepCs γ K (arrC (fun _ => d) n i) cs
  | 0, i, vs, r, h' => by simp only [zN, Option.some.injEq] at h'; subst h'; exact ⟨[], rfl, rfl⟩
  | n + 1, i, vs, r, h' => by
    simp only [zN] at h'
    split at h'
    · rename_i r1 h1
      obtain ⟨c1, e1, k1⟩ := h vs r1 h1
      obtain ⟨c2, e2, k2⟩ := zN_cells h n (i + 1) r1 r h'
      refine ⟨c1 ++ c2, by rw [e1, e2, List.append_assoc], ?_⟩
      simp only [arrC, app_eq]
      exact RepCs_app k1 k2
    · cases h'
theorem zC_cells (γ : Ghs) (K : Kn) : ∀ (t : Ty) (vs r : List Value), zC t vs = some r → ∃ cs, vs = cs ++ r ∧ RepCs γ K (zcells t) cs := by
  intro t
  induction t with
  | slice t _ =>
    intro vs r h
    unfold zC at h
    split at h <;> first | contradiction | (injection h with h; subst h; exact ⟨[_], rfl, _, [], rfl, rfl, rfl, rfl⟩) | (cases h; done) | skip
  | arr n t ih => intro vs r h; exact zN_cells ih n 0 vs r h
  | pair a b iha ihb =>
    intro vs r h
    simp only [zC] at h
    split at h
    · rename_i r1 h1
      obtain ⟨c1, e1, k1⟩ := iha vs r1 h1
      obtain ⟨c2, e2, k2⟩ := ihb r1 r h
      refine ⟨c1 ++ c2, by rw [e1, e2, List.append_assoc], ?_⟩
      simp only [zcells, app_eq]
      exact RepCs_app k1 k2
    · cases h
  | st t ih => intro vs r h; exact ih vs r h
  | _ =>
    intro vs r h
    obtain ⟨cs, e, hc⟩ := zC_ok K _ vs r h
    exact ⟨cs, e, cellsOf_rep hc⟩
theorem zOk_zcells {T : Ty} {z : Value} {vs : List Value} (γ : Ghs) (K : Kn) (h : zOk T z = true) (e : z.cells = List.toArray vs) : RepCs γ K (zcells T) vs := by
  have key : ∀ (l : List Value), z.cells = List.toArray l → zC T l = some [] → RepCs γ K (zcells T) vs := fun l el hz => by
    rw [e] at el
    have : vs = l := by simpa using el
    subst this
    obtain ⟨ds, e', hd⟩ := zC_cells γ K T vs [] hz
    rw [List.append_nil] at e'
    rw [e']; exact hd
  unfold zOk at h
  cases hA : T.agg with
  | true =>
    rw [hA] at h
    cases z with
    | agg cs =>
      simp only at h
      split at h
      · rename_i hz; exact key cs.toList (by simp [Value.cells]) hz
      · cases h
    | _ => cases h
  | false =>
    rw [hA] at h
    simp only at h
    split at h
    · rename_i hz
      refine key [z] ?_ hz
      obtain ⟨ds, e', hd⟩ := zC_ok K T _ [] hz
      rw [List.append_nil] at e'
      have h1 := RepC_one hd z (by rw [← e']; simp)
      cases z <;> first | rfl | cases h1
    · cases h
theorem rep_get {zs : List Value} : ∀ (l i : Nat), i < l * zs.length → (List.replicate l zs).flatten[i]? = zs[i % zs.length]?
  | 0, i, h => by simp at h
  | l + 1, i, h => by
    rw [List.replicate_succ, List.flatten_cons]
    by_cases hi : i < zs.length
    · rw [List.getElem?_append_left hi, Nat.mod_eq_of_lt hi]
    · rw [List.getElem?_append_right (by omega), rep_get l (i - zs.length) (by rw [Nat.add_mul] at h; omega)]
      congr 1
      rw [Nat.mod_eq_sub_mod (a := i) (by omega)]
theorem made_take {zs : List Value} {z : Array Value} (hz : z = List.toArray zs) (hp : 0 < zs.length) {l c : Nat} (hlc : l ≤ c) : (madeCells z (c * zs.length)).toList.take (l * zs.length) = (List.replicate l zs).flatten := by
  subst hz
  apply List.ext_getElem?
  intro i
  have hle : l * zs.length ≤ c * zs.length := Nat.mul_le_mul_right _ hlc
  by_cases hi : i < l * zs.length
  · rw [rep_get l i hi, List.getElem?_take, if_pos hi]
    have hm : i % zs.length < zs.length := Nat.mod_lt _ hp
    simp [madeCells, show i < c * zs.length by omega, List.getElem?_eq_getElem hm]
  · rw [List.getElem?_take, if_neg hi, List.getElem?_eq_none]
    have : (List.replicate l zs).flatten.length = l * zs.length := by simp
    omega

theorem alloc_ok (hE : EnvOk E) {t : TypeId} (ho : o.op = .alloc t) (h : (match E.t t with
    | some (.arr n e) => bsel (Nat.ble 1 n && !e.same .u8) (k ⟨.val (.one (.el tk tk 0 0)), [.row tk e (Ty.zero (.arr n e))], []⟩) none
    | some T => k ⟨.val (.one (.ptr tk 0)), [.box t (zcells T)], []⟩
    | none => none) = some r) : ∃ out, k out = some r ∧ OpOk E g ob tk o out := by
  have run : ∀ {T : Ty}, E.t t = some T → ∀ (K : Kn) (a : Act) (w : World), ∃ vs, (execOp a.eval o).run E.P w = .ok (.value (.pointer (some ⟨w.heap.size, 0, none⟩))) (w.alloc (.cells (List.toArray vs) t (0, 0))) ∧ RepC K T T.zero vs ∧ ∀ γ, RepCs γ K (zcells T) vs := fun {T} ht K a w => by
    obtain ⟨i, z, h1, h2, h3, h4, h5, h6⟩ := hE.info ht
    obtain ⟨vs, e1, hz⟩ := zOk_cells K h4
    refine ⟨vs, ?_, hz, fun γ => zOk_zcells γ K h4 e1⟩
    simp only [execOp, ho, Instr.alloc, zeroValue, typeInfo, program, Sem.run_bind, Sem.run, Result.andThen_ok, h1, h3, Sem.run_pure, newVar, newRow, newObj, e1]
    rfl
  split at h
  · rename_i n e ht
    obtain ⟨hb, h⟩ := bsel_some h
    simp only [Bool.and_eq_true, Bool.not_eq_true'] at hb
    have hnu : e ≠ .u8 := fun hc => by subst hc; exact absurd hb.2 (by decide)
    have hb := Nat.le_of_ble_eq_true hb.1
    obtain ⟨ei, hu, he, hn, hn2⟩ := hE.und ht
    have hpos : 0 < e.size := by obtain ⟨_, _, _, _, _, _, hpos, _⟩ := hE.info he; exact hpos
    refine ⟨_, h, OpOk.make fun w0 K0 H γ ob1 K a w hr hle hH h0 hj => ?_⟩
    obtain ⟨vs, h1, ⟨h2, h3⟩, _⟩ := run ht K a w
    have hl := RepL_len repL_size h3
    have h2' : (Ty.zero (.arr n e)).length = n := h2
    refine ⟨_, ⟨some ⟨w.heap.size, 0, none⟩, n, n, e.size, tk⟩, w.drawn, .cells (List.toArray vs) t (0, 0), h1, Nat.le_refl _, fun ad had => by injection had with had; subst had; rfl, ?_, ?_⟩
    · refine ⟨rfl, h0, h2'.symm, rfl, hpos, vs, ⟨hl, .inr ⟨w.heap.size, _, t, (0, 0), rfl, heap_new _ _, .inl rfl, by rw [h2']; exact Nat.le_refl _, by show n ≤ maxLen; unfold maxLen; omega, ?_, ?_, ?_⟩⟩, h3, fun ad had => by injection had with had; subst had; exact fun o => hH.knone (Nat.le_refl _) o⟩
      · show n * e.size ≤ (List.toArray vs).size
        rw [List.size_toArray, hl, h2']
        exact Nat.le_refl _
      · show (List.toArray vs).toList.take _ = vs
        rw [List.toList_toArray, List.take_of_length_le (by rw [hl]; exact Nat.le_refl _)]
      · exact fun hc => absurd hc hnu
    · exact ⟨rfl, _, fset_same _ _ _, h0, Nat.le_refl _, fun _ => ⟨by show 0 < n; omega, _, rfl, by simp [Addr.add]⟩⟩
  · rename_i T hT ht
    refine ⟨_, h, OpOk.make fun w0 K0 H γ ob1 K a w hr hle hH h0 hj => ?_⟩
    obtain ⟨vs, h1, h2, h3⟩ := run ht K a w
    refine ⟨_, ⟨some ⟨w.heap.size, 0, none⟩, 0, 0, 0, 0⟩, w.drawn, .cells (List.toArray vs) t (0, 0), h1, Nat.zero_le _, fun ad had => by injection had with had; subst had; rfl, ?_, ?_⟩
    · exact ⟨w.heap.size, vs, rfl, rfl, ⟨vs, heap_new _ _, Slf.refl _ _⟩, h3 _, fun o => hH.knone (Nat.le_refl _) o⟩
    · exact ⟨_, w.heap.size, fset_same _ _ _, rfl, rfl, rfl⟩
  · cases h

theorem range_ok (hE : EnvOk E) {t : TypeId} {x : Operand} (ho : o.op = .range t x) (h : (match E.t t, g x with
    | some .str, .val (.one (.v .str s)) => k ⟨.val (.one (.it tk)), [.iter s 0], []⟩
    | _, _ => none) = some r) : ∃ out, k out = some r ∧ OpOk E g ob tk o out := by
  split at h
  · rename_i s ht hx
    refine ⟨_, h, OpOk.make fun w0 K0 H γ ob1 K a w hr hle hH h0 hj => ?_⟩
    have r1 := hr x (by simp [ho, Op.operands])
    rw [hx] at r1
    have hv : a.eval x = .string (bst s) := by simpa [RepSV, RepV, RepCell, RepC] using r1
    refine ⟨.pointer (some ⟨w.heap.size, 0, none⟩), ⟨some ⟨w.heap.size, 0, none⟩, 0, 0, 0, 0⟩, w.drawn, .stringIter (bst s) 0, ?_, Nat.zero_le _, fun ad had => by injection had with had; subst had; rfl, ?_, ?_⟩
    · simp only [execOp, ho, hv, Instr.range, Sem.run_bind, run_und (hE.und ht), Result.andThen_ok, Sem.run_pure, newObj, Sem.run]
      rfl
    · exact ⟨w.heap.size, rfl, rfl, heap_new _ _, fun o => hH.knone (Nat.le_refl _) o⟩
    · exact ⟨_, w.heap.size, fset_same _ _ _, rfl, rfl, rfl⟩
  · cases h

theorem makeSlice_ok (hE : EnvOk E) {t : TypeId} {x y : Operand} (ho : o.op = .makeSlice t x y) (h : (match E.t t, g x, g y with
    | some (.slice e), .val (.one l), .val (.one c) => match ival l, ival c, (E.P.underlying t : Option TypeDesc) with
      | some (.i64, l), some (.i64, c), some (.slice ei) => match E.P.info? ei with
        | some i => bsel (ubS E t) (grd (mkOk l c i.bytes) (k ⟨.val (.one (.row tk tk)), [.row tk e (lrep (toN l) e.zero)], []⟩)) none
        | none => none
      | _, _, _ => none
    | _, _, _ => none) = some r) : ∃ out, k out = some r ∧ OpOk E g ob tk o out := by
  split at h
  · rename_i e cl cc ht hx hy
    split at h
    · rename_i l c ei hl hc hui
      split at h
      · rename_i i hi
        obtain ⟨hub, h⟩ := bsel_some h
        obtain ⟨hb, h⟩ := grd_some h
        have hb : 0 ≤ l ∧ l ≤ c ∧ c * (i.bytes : Int) ≤ 140737488355328 := of_decide_eq_true hb
        obtain ⟨ei', hu, he⟩ := hE.und ht
        rw [hui] at hu
        injection hu with hu
        injection hu with hu
        subst hu
        obtain ⟨i', z, i1, i2, i3, i4, i5, i6⟩ := hE.info he
        rw [hi] at i1
        injection i1 with i1
        subst i1
        have hcb : c ≤ 140737488355328 := by
          have : c * 1 ≤ c * (i.bytes : Int) := Int.mul_le_mul_of_nonneg_left (by omega) (by omega)
          omega
        refine ⟨_, h, OpOk.make fun w0 K0 H γ ob1 K a w hr hle hH h0 hj => ?_⟩
        have r1 := hr x (by simp [ho, Op.operands])
        have r2 := hr y (by simp [ho, Op.operands])
        rw [hx] at r1
        rw [hy] at r2
        have hv1 := (ival_ok hl r1).1
        have hv2 := (ival_ok hc r2).1
        obtain ⟨zs, e1, hz⟩ := zOk_cells K i4
        have hrun := run_make (P := E.P) w t ei i z hui hi i3 .i64 .i64 l c hb.1 hb.2.1 (by rw [Int.mul_comm]; omega) (by omega)
        have hzl := RepC_len hz
        have hsz : z.cells.size = e.size := by rw [e1, List.size_toArray, hzl]
        have hms : (madeCells z.cells (c.toNat * i.size)).size = c.toNat * e.size := by rw [size_madeCells, i2]
        have hmade : (madeCells z.cells (c.toNat * i.size)).toList.take (l.toNat * e.size) = (List.replicate l.toNat zs).flatten := by
          have := made_take e1 (l := l.toNat) (c := c.toNat) (by rw [hzl]; exact i5) (by omega)
          rw [hzl] at this
          rw [i2]
          exact this
        refine ⟨.slice (some ⟨w.heap.size, 0, none⟩) l.toNat c.toNat, ⟨some ⟨w.heap.size, 0, none⟩, c.toNat, l.toNat, e.size, tk⟩, w.drawn, .cells (madeCells z.cells (c.toNat * i.size)) ei, ?_, Nat.le_refl _, fun ad had => by injection had with had; subst had; rfl, ?_, ?_⟩
        · simp only [execOp, ho, hv1, hv2, Sem.run_bind, hrun, Result.andThen_ok, Sem.run_pure]
        · have hL := RepL_rep hz l.toNat
          have hln : (lrep (toN l) e.zero).length = l.toNat := by simp [lrep, toN]
          refine ⟨rfl, h0, hln.symm, rfl, i5, _, ⟨?_, .inr ⟨w.heap.size, _, ei, (0, 0), rfl, heap_new _ _, .inl rfl, ?_, ?_, ?_, ?_, hE.ubOf hub ht hui⟩⟩, hL, fun ad had => by injection had with had; subst had; exact fun o => hH.knone (Nat.le_refl _) o⟩
          · rw [RepL_len repL_size hL, hln]; simp
          · rw [hln]; show l.toNat ≤ c.toNat; omega
          · show c.toNat ≤ maxLen; unfold maxLen; omega
          · show c.toNat * e.size ≤ _; rw [hms]; exact Nat.le_refl _
          · rw [hln]; exact hmade
        · exact ⟨rfl, _, fset_same _ _ _, h0, Nat.le_refl _, fun _ => rfl⟩
      · cases h
    · cases h
  · cases h
end
end Go.W
end
