/-
  Slices of any elements, strings, bytes and models: what the printed walks lean on. No program in it.
-/
import Derived.Test.YtcccboodapgejaaVSym
namespace Go.Sym
open Go.RowKit

/-! ### models -/
def grd {α : Type} (p : Prop) [Decidable p] (k : Option α) : Option α := if p then k else none
theorem grd_some {α : Type} {p : Prop} [Decidable p] {k : Option α} {r : α} (h : grd p k = some r) : p ∧ k = some r := by
  unfold grd at h
  split at h
  · rename_i hp; exact ⟨hp, h⟩
  · cases h
theorem bnd_some {α β : Type} {x : Option α} {k : α → Option β} {r : β} (h : x.bind k = some r) : ∃ y, x = some y ∧ k y = some r := by
  cases x with
  | none => cases h
  | some y => exact ⟨y, rfl, h⟩
theorem condT {α : Type} {b : Bool} {x y : Option α} {r : α} (hb : b = true) (h : cond b x y = some r) : x = some r := by subst hb; exact h
theorem condF {α : Type} {b : Bool} {x y : Option α} {r : α} (hb : b = false) (h : cond b x y = some r) : y = some r := by subst hb; exact h
theorem no_model {α : Type} {p : Prop} {r : α} (h : (none : Option α) = some r) : p := by cases h
def jn {F γ : Type} (k : F) (t : F → γ) : γ := t k
theorem jn_some {F γ : Type} {k : F} {t : F → Option γ} {r : γ} (h : jn k t = some r) : ∃ j, j = k ∧ t j = some r := ⟨k, rfl, h⟩
def w64 (x : Int) : Int := IntKind.wrap .i64 x
theorem w64_eq {x : Int} (h : -9223372036854775808 ≤ x ∧ x ≤ 9223372036854775807) : w64 x = x := by
  unfold w64
  rw [IntKind.wrap_i64]
  omega
/-- a byte -/
def b8 (x : Int) : UInt8 := UInt8.ofNat (x % 256).toNat
theorem b8_val (x : Int) : ((b8 x).toNat : Int) = x % 256 := by
  unfold b8
  rw [UInt8.toNat_ofNat']
  omega
theorem b8_nat (x : UInt8) : b8 (x.toNat : Int) = x := by
  apply UInt8.toNat_inj.1
  have h1 := b8_val (x.toNat : Int)
  have h2 := x.toNat_lt
  omega
theorem wr_b8 (x : Int) : Value.int .u8 (IntKind.wrap .u8 x) = .int .u8 ((b8 x).toNat : Int) := by rw [b8_val, wrap_u8]
theorem in_b8 {x : Int} (h : 0 ≤ x ∧ x < 256) : Value.int .u8 x = .int .u8 ((b8 x).toNat : Int) := by rw [b8_val]; congr 1; omega

/-! ### strings -/
def bst (l : List UInt8) : ByteArray := ⟨l.toArray⟩
theorem bst_size (l : List UInt8) : (bst l).size = l.length := by simp [bst, ByteArray.size]
theorem bst_toList (l : List UInt8) : (bst l).toList = l := by rw [ByteArray.toList_eq]; rfl
theorem bst_of (b : ByteArray) : bst b.data.toList = b := by cases b; rfl
theorem bst_eq (a b : List UInt8) : ((bst a).toList == (bst b).toList) = decide (a = b) := by rw [bst_toList, bst_toList]; exact Bool.beq_eq_decide_eq a b
theorem bst_app (a b : List UInt8) : bst a ++ bst b = bst (a ++ b) := by
  apply ByteArray.ext
  simp [bst]
theorem bst_cut (a : List UInt8) (lo hi : Nat) : (bst a).extract lo hi = bst ((a.take hi).drop lo) := by
  apply ByteArray.ext
  simp [bst, List.drop_take]
theorem vstr_eq {k : Bool → Bool} (a b : List UInt8) : Value.bool (k ((bst a).toList == (bst b).toList)) = .bool (k (decide (a = b))) := by rw [bst_eq]
theorem vstr_len (a : List UInt8) : Value.int .i64 ((bst a).size : Int) = .int .i64 (a.length : Int) := by rw [bst_size]
theorem vstr_app (a b : List UInt8) : Value.string (bst a ++ bst b) = .string (bst (a ++ b)) := by rw [bst_app]
theorem vstr_cut (a : List UInt8) (lo hi : Nat) : Value.string ((bst a).extract lo hi) = .string (bst ((a.take hi).drop lo)) := by rw [bst_cut]

/-! ### slices of any elements -/
/-- where a slice lies, its capacity, and the like of its elements -/
structure Gs (G : Type) where
  a : Option Addr
  c : Nat
  g : Nat → G
structure El (α G : Type) where
  size : Nat
  cel : α → G → List Value
  d : α
  len : ∀ x g, (cel x g).length = size
  one : ∀ x g, ∀ v ∈ cel x g, v.oneCell' = true
  pos : 0 < size
def elB : El UInt8 Unit := ⟨1, fun b _ => [.int .u8 (b.toNat : Int)], 0, fun _ _ => rfl, fun _ _ v hv => by simp at hv; subst hv; rfl, by decide⟩
def elI (k : IntKind) : El Int Unit := ⟨1, fun b _ => [.int k b], 0, fun _ _ => rfl, fun _ _ v hv => by simp at hv; subst hv; rfl, by decide⟩
def elS : El (List UInt8) Unit := ⟨1, fun b _ => [.string (bst b)], [], fun _ _ => rfl, fun _ _ v hv => by simp at hv; subst hv; rfl, by decide⟩
def elT : El Bool Unit := ⟨1, fun b _ => [.bool b], false, fun _ _ => rfl, fun _ _ v hv => by simp at hv; subst hv; rfl, by decide⟩
variable {α G : Type}
def sl (n : Nat) (s : Gs G) : Value := .slice s.a n s.c
def ag (l : List Value) : Value := .agg l.toArray
def rowC (e : El α G) : List α → (Nat → G) → List Value
  | [], _ => []
  | x :: r, g => e.cel x (g 0) ++ rowC e r (fun i => g (i + 1))
def vw (e : El α G) (n : Nat) (xs : List α) (s : Gs G) : Res := .view s.a n s.c e.size (fun i => e.cel (xs.getD i e.d) (s.g i))
def rw (t : TypeId) (e : El α G) (n : Nat) (xs : List α) (s : Gs G) : Res := .row s.a s.c t e.size n (rowC e xs s.g)
def fm (e : El α G) (n : Nat) (xs : List α) (s : Gs G) (r : α → G → Res) : Res := .fam n (fun i => r (xs.getD i e.d) (s.g i))
def gu (A : Option Addr) (c : Nat) : Gs Unit := ⟨A, c, fun _ => ()⟩
def glue (n : Nat) (g h : Nat → G) : Nat → G := fun i => if i < n then g i else h (i - n)
def cutS (s : Gs G) (lo size : Nat) : Gs G := ⟨cutA s.a s.c lo size, s.c - lo, fun i => s.g (lo + i)⟩
theorem rowC_len (e : El α G) : ∀ (xs : List α) (g : Nat → G), (rowC e xs g).length = xs.length * e.size
  | [], _ => by simp [rowC]
  | x :: r, g => by rw [rowC, List.length_append, e.len, rowC_len e r, List.length_cons, Nat.add_mul]; omega
theorem rowC_one (e : El α G) : ∀ (xs : List α) (g : Nat → G), ∀ v ∈ rowC e xs g, v.oneCell' = true
  | [], _, v, h => by cases h
  | x :: r, g, v, h => by
    rcases List.mem_append.1 h with h | h
    · exact e.one _ _ v h
    · exact rowC_one e r _ v h
theorem rowC_congr (e : El α G) : ∀ (xs : List α) (g h : Nat → G), (∀ i, i < xs.length → g i = h i) → rowC e xs g = rowC e xs h
  | [], _, _, _ => rfl
  | x :: r, g, h, he => by
    rw [rowC, rowC, he 0 (by simp), rowC_congr e r (fun i => g (i + 1)) (fun i => h (i + 1)) (fun i hi => he (i + 1) (by simpa using hi))]
theorem rowC_app (e : El α G) : ∀ (xs ys : List α) (g h : Nat → G), rowC e (xs ++ ys) (glue xs.length g h) = rowC e xs g ++ rowC e ys h
  | [], ys, g, h => rowC_congr e ys _ _ fun i _ => by simp [glue]
  | x :: r, ys, g, h => by
    rw [List.cons_append, rowC, rowC, List.append_assoc]
    congr 1
    rw [← rowC_app e r ys]
    apply rowC_congr
    intro i _
    by_cases hi : i < r.length
    · simp [glue, hi]
    · simp [glue, hi, Nat.add_sub_add_right]
theorem rowC_appU (e : El α Unit) (xs ys : List α) (g h k : Nat → Unit) : rowC e (xs ++ ys) k = rowC e xs g ++ rowC e ys h := rowC_app e xs ys g h
theorem rowC_get (e : El α G) : ∀ (xs : List α) (g : Nat → G) (i : Nat), i < xs.length → ∀ j v, (e.cel (xs.getD i e.d) (g i))[j]? = some v → (rowC e xs g)[i * e.size + j]? = some v
  | [], _, _, hi, _, _, _ => by cases hi
  | x :: r, g, 0, _, j, v, hv => by
    have hj : j < (e.cel x (g 0)).length := (List.getElem?_eq_some_iff.1 hv).1
    rw [rowC, Nat.zero_mul, Nat.zero_add, List.getElem?_append_left hj]
    exact hv
  | x :: r, g, i + 1, hi, j, v, hv => by
    have h2 := rowC_get e r (fun i => g (i + 1)) i (by simpa using hi) j v (by simpa using hv)
    have hc := e.len x (g 0)
    rw [rowC, Nat.add_mul, Nat.one_mul, List.getElem?_append_right (by omega), hc]
    rw [show i * e.size + e.size + j - e.size = i * e.size + j by omega]
    exact h2
theorem rowC_flat (e : El α G) : ∀ (xs : List α) (g : Nat → G), (List.range xs.length).flatMap (fun i => e.cel (xs.getD i e.d) (g i)) = rowC e xs g
  | [], _ => rfl
  | x :: r, g => by
    rw [List.length_cons, List.range_succ_eq_map, List.flatMap_cons, List.flatMap_map, rowC, ← rowC_flat e r (fun i => g (i + 1))]
    rfl
theorem rowC_set (e : El α G) : ∀ (xs : List α) (g : Nat → G) (i : Nat) (x : α), i < xs.length → rowC e (xs.set i x) g = (rowC e xs g).take (i * e.size) ++ e.cel x (g i) ++ (rowC e xs g).drop (i * e.size + e.size)
  | [], _, _, _, h => by cases h
  | y :: r, g, 0, x, _ => by
    have hc := e.len y (g 0)
    rw [List.set_cons_zero, rowC, rowC, Nat.zero_mul, Nat.zero_add, List.take_zero, List.nil_append, List.drop_append_of_le_length (by omega), List.drop_of_length_le (by omega), List.nil_append]
  | y :: r, g, i + 1, x, h => by
    have hc := e.len y (g 0)
    rw [List.set_cons_succ, rowC, rowC_set e r (fun i => g (i + 1)) i x (by simpa using h), rowC, Nat.add_mul, Nat.one_mul, List.take_append, List.drop_append]
    rw [List.take_of_length_le (l := e.cel y (g 0)) (by omega), List.drop_of_length_le (l := e.cel y (g 0)) (by omega), hc]
    rw [show i * e.size + e.size - e.size = i * e.size by omega, show i * e.size + e.size + e.size - e.size = i * e.size + e.size by omega]
    simp
theorem imp_rv {t : TypeId} {e : El α G} {n : Nat} {xs : List α} {s : Gs G} (hn : n = xs.length) : Imp (rw t e n xs s) (vw e n xs s) :=
  imp_row fun i hi => ⟨e.len _ _, fun j v hv => rowC_get e xs s.g i (by omega) j v hv⟩
theorem imp_cutS {e : El α G} {n : Nat} {xs : List α} {s : Gs G} {lo hi m : Nat} (h1 : lo ≤ hi) (h2 : hi ≤ n) (hm : hi - lo = m) : Imp (vw e n xs s) (vw e m ((xs.take hi).drop lo) (cutS s lo e.size)) := by
  subst hm
  refine (imp_cut h1 h2).trans (imp_congr fun i hi' => ?_)
  simp only [cutS]
  congr 1
  simp only [List.getD, List.getElem?_drop, List.getElem?_take]
  rw [if_pos (by omega)]
theorem imp_tailS {e : El α G} {n : Nat} {xs : List α} {s : Gs G} {lo m : Nat} (h1 : lo ≤ n) (hm : n - lo = m) : Imp (vw e n xs s) (vw e m (xs.drop lo) (cutS s lo e.size)) := by
  subst hm
  refine (imp_cut h1 (Nat.le_refl n)).trans (imp_congr fun i hi' => ?_)
  simp only [cutS]
  congr 1
  simp only [List.getD, List.getElem?_drop]
theorem imp_headS {e : El α G} {n : Nat} {xs : List α} {s : Gs G} {hi m : Nat} (h2 : hi ≤ n) (hm : hi = m) : Imp (vw e n xs s) (vw e m (xs.take hi) s) := by
  subst hm
  refine (imp_head h2).trans (imp_congr fun i hi' => ?_)
  congr 1
  simp only [List.getD, List.getElem?_take]
  rw [if_pos hi']
theorem imp_capS {e : El α G} {n : Nat} {xs : List α} {s : Gs G} {hi m mx : Nat} (h2 : hi ≤ n) (hm : hi = m) (h3 : hi ≤ mx) (h4 : mx ≤ s.c) : Imp (vw e n xs s) (vw e m (xs.take hi) ⟨s.a, mx, s.g⟩) :=
  ⟨rfl, fun w h => by
    have := (imp_headS (e := e) (n := n) (xs := xs) (s := s) h2 hm).ok w h
    exact ⟨show m ≤ mx by omega, show mx ≤ maxLen from Nat.le_trans h4 this.2.1, this.2.2⟩, fun b hb => (imp_headS (e := e) (n := n) (xs := xs) (s := s) h2 hm).fp b hb⟩
theorem imp_elem {e : El α G} {n : Nat} {xs : List α} {s : Gs G} {r : α → G → Res} {i : Nat} (hi : i < n) (hr : ∀ x g, (r x g).mut = false) : Imp (fm e n xs s r) (r (xs.getD i e.d) (s.g i)) := imp_fam hi (hr _ _)
def elL (_e : El α G) : El (List α) (Gs G) := ⟨1, fun x g => [sl x.length g], [], fun _ _ => rfl, fun _ _ v hv => by simp at hv; subst hv; rfl, by decide⟩
def nS (e : El α G) (x : List α) (g : Gs G) : Res := vw e x.length x g
def nF (e : El α G) (r : α → G → Res) (x : List α) (g : Gs G) : Res := fm e x.length x g r
theorem vstr_tail (a : List UInt8) (lo : Nat) : Value.string ((bst a).extract lo (bst a).size) = .string (bst (a.drop lo)) := by rw [bst_cut, bst_size, List.take_length]
theorem vstr_head (a : List UInt8) (hi : Nat) : Value.string ((bst a).extract 0 hi) = .string (bst (a.take hi)) := by rw [bst_cut, List.drop_zero]
theorem u8_u8 (x : UInt8) : Value.int .u8 (IntKind.wrap .u8 (x.toNat : Int)) = .int .u8 (x.toNat : Int) := by
  have := x.toNat_lt
  rw [wrap_u8]; congr 1; omega
theorem u8_wr_i64 (x : UInt8) : Value.int .i64 (IntKind.wrap .i64 (x.toNat : Int)) = .int .i64 (x.toNat : Int) := by
  have := x.toNat_lt
  rw [wr64 (by omega)]
theorem u8_wr_u32 (x : UInt8) : Value.int .u32 (IntKind.wrap .u32 (x.toNat : Int)) = .int .u32 (x.toNat : Int) := by
  have := x.toNat_lt
  congr 1
  simp only [IntKind.wrap, IntKind.bits, IntKind.signed]
  simp
  omega
theorem u8_rng (x : UInt8) : 0 ≤ (x.toNat : Int) ∧ (x.toNat : Int) < 256 := by
  have := x.toNat_lt
  omega
theorem vw_cap {w0 w : World} {B M : Nat → Prop} {ns rs : List Res} (h : Hp w0 B M ns rs w) {e : El α G} {n : Nat} {xs : List α} {s : Gs G} (rf : Rf) (hr : getR ns rs rf = some (vw e n xs s)) : n ≤ s.c := (h.get hr).1.1
theorem sl_head {s : Gs G} {hi n : Nat} (h : n = hi) : Value.slice s.a hi s.c = sl n s := by subst h; rfl
theorem sl_cut {s : Gs G} {lo hi n size : Nat} (h : n = hi - lo) : Value.slice (if s.c = lo then s.a else s.a.map (·.add (lo * size))) (hi - lo) (s.c - lo) = sl n (cutS s lo size) := by subst h; rfl
theorem imp_famSub {n m : Nat} {r r' : Nat → Res} (h : ∀ i, i < m → ∃ j, j < n ∧ r' i = r j) : Imp (.fam n r) (.fam m r') :=
  ⟨rfl, fun w hw i hi => by obtain ⟨j, hj, e⟩ := h i hi; rw [e]; exact hw j hj, fun b ⟨i, hi, hb⟩ => by obtain ⟨j, hj, e⟩ := h i hi; rw [e] at hb; exact ⟨j, hj, hb⟩⟩
theorem imp_fmHead {e : El α G} {n : Nat} {xs : List α} {s : Gs G} {r : α → G → Res} {hi m : Nat} (h2 : hi ≤ n) (hm : hi = m) : Imp (fm e n xs s r) (fm e m (xs.take hi) s r) := by
  subst hm
  refine imp_famSub fun i hi' => ⟨i, by omega, ?_⟩
  simp only [List.getD, List.getElem?_take]
  rw [if_pos hi']
theorem imp_fmTail {e : El α G} {n : Nat} {xs : List α} {s : Gs G} {r : α → G → Res} {lo m : Nat} (h1 : lo ≤ n) (hm : n - lo = m) : Imp (fm e n xs s r) (fm e m (xs.drop lo) (cutS s lo e.size) r) := by
  subst hm
  refine imp_famSub fun i hi' => ⟨lo + i, by omega, ?_⟩
  simp only [List.getD, List.getElem?_drop, cutS]
theorem imp_fmCut {e : El α G} {n : Nat} {xs : List α} {s : Gs G} {r : α → G → Res} {lo hi m : Nat} (h1 : lo ≤ hi) (h2 : hi ≤ n) (hm : hi - lo = m) : Imp (fm e n xs s r) (fm e m ((xs.take hi).drop lo) (cutS s lo e.size) r) := by
  subst hm
  refine imp_famSub fun i hi' => ⟨lo + i, by omega, ?_⟩
  simp only [List.getD, List.getElem?_drop, List.getElem?_take, cutS]
  rw [if_pos (by omega)]
theorem Hp.freeze {w0 w : World} {B M : Nat → Prop} {ns rs : List Res} (h : Hp w0 B M ns rs w) {k : Nat} {q r : Res} (hk : rs[k]? = some q) (hi : Imp q r) (hm : q.mut = true) : Hp w0 B M ns (rs.set k r) w :=
  h.swap hk (hi.ok w (h.own q (List.mem_of_getElem? hk)).1) hi.fp hm
theorem hpKN {w0 w : World} {B M : Nat → Prop} {ns rs ns' rs' : List Res} (h : Hp w0 B M ns rs w) (kn ks : List Nat) (hn : nodupB ks = true) (hxn : pick ns kn = ns') (hx : pick rs ks = rs') : Hp w0 B M ns' rs' w := by
  subst hxn hx
  have h2 := h.pick ks hn
  refine ⟨h2.below, fun r hr => ?_, fun r hr r' hr' => ?_, h2.own, h2.sep⟩
  · obtain ⟨k, _, hk⟩ := pick_mem hr; exact h.old r (List.mem_of_getElem? hk)
  · obtain ⟨k, _, hk⟩ := pick_mem hr; exact h2.nsep r (List.mem_of_getElem? hk) r' hr'
theorem rowC_get0 (e : El α G) (xs : List α) (g : Nat → G) {i : Nat} (hi : i < xs.length) {m : Nat} (hm : m = e.size) {v : Value} (hv : e.cel (xs.getD i e.d) (g i) = [v]) : (rowC e xs g)[i * m]? = some v := by
  subst hm
  have := rowC_get e xs g i hi 0 v (by rw [hv]; rfl)
  simpa using this
theorem rowC_by (bs : List UInt8) (g : Nat → Unit) : rowC elB bs g = bs.map fun b => .int .u8 (b.toNat : Int) := by
  induction bs generalizing g with
  | nil => rfl
  | cons b r ih => rw [rowC, ih]; rfl
theorem rowC_aps (xs bs : List UInt8) (g h : Nat → Unit) : rowC elB xs g ++ (bs.map fun b => .int .u8 (b.toNat : Int)) = rowC elB (xs ++ bs) h := by rw [← rowC_by bs (fun _ => ()), rowC_appU elB xs bs g (fun _ => ()) h]
theorem rowC_appN (e : El α G) {xs ys : List α} {g h : Nat → G} {n : Nat} (hn : n = xs.length) : rowC e (xs ++ ys) (glue n g h) = rowC e xs g ++ rowC e ys h := by subst hn; exact rowC_app e xs ys g h
theorem rowC_nilN (e : El α G) (ys : List α) (g h : Nat → G) : rowC e [] g ++ rowC e ys h = rowC e ys (glue 0 g h) := rowC_congr e ys _ _ fun i _ => by simp [glue]
theorem rowC_flatN (e : El α G) (xs : List α) (g : Nat → G) {n : Nat} (hn : n = xs.length) : (List.range n).flatMap (fun i => e.cel (xs.getD i e.d) (g i)) = rowC e xs g := by subst hn; exact rowC_flat e xs g
theorem rowC_rep (e : El α G) {z : Value} {d : α} {u : G} (hz : e.cel d u = [z]) (n : Nat) (g : Nat → G) (hg : ∀ i, g i = u) : List.replicate n z = rowC e (List.replicate n d) g := by
  induction n generalizing g with
  | zero => rfl
  | succ n ih => rw [List.replicate_succ, List.replicate_succ, rowC, ← ih (fun i => g (i + 1)) (fun i => hg _), hg, hz]; rfl
theorem Hp.nilFm {w0 w : World} {B M : Nat → Prop} {ns rs : List Res} (h : Hp w0 B M ns rs w) (e : El α G) (s : Gs G) (r : α → G → Res) : Hp w0 B M (ns ++ [fm e 0 [] s r]) rs w :=
  h.nilN rfl (fun _ i hi => absurd hi (by omega)) fun _ ⟨_, hi, _⟩ => absurd hi (by omega)
/-- a family and one piece more -/
theorem Hp.fmPush {w0 w : World} {B M : Nat → Prop} {ns rs : List Res} (h : Hp w0 B M ns rs w) {k j n m : Nat} {e : El α G} {xs : List α} {x : α} {u : G} {s s' : Gs G} {r : α → G → Res} {q : Res} (hk : ns[k]? = some (fm e n xs s r)) (hj : ns[j]? = some q)
    (hn : n = xs.length) (hm : m = n + 1) (hs : ∀ i, i < n → s'.g i = s.g i) (hu : s'.g n = u) (hq : q = r x u) : Hp w0 B M (ns ++ [fm e m (xs ++ [x]) s' r]) rs w := by
  subst hm hq hu
  have hrl : ∀ i, i < n → (xs ++ [x]).getD i e.d = xs.getD i e.d := fun i hi => by simp [List.getElem?_append_left (show i < xs.length by omega)]
  have hrn : (xs ++ [x]).getD n e.d = x := by subst hn; simp
  have ok1 := h.okOld (List.mem_of_getElem? hk)
  have ok2 := h.okOld (List.mem_of_getElem? hj)
  refine h.addN rfl (fun i hi => ?_) fun b ⟨i, hi, hb⟩ => ?_
  · by_cases he : i < n
    · have := ok1 i he
      simp only [hrl i he, hs i he]
      exact this
    · have : i = n := by omega
      subst this
      simp only [hrn]
      exact ok2
  · by_cases he : i < n
    · simp only [hrl i he, hs i he] at hb
      exact ⟨_, List.mem_of_getElem? hk, i, he, hb⟩
    · have : i = n := by omega
      subst this
      simp only [hrn] at hb
      exact ⟨_, List.mem_of_getElem? hj, hb⟩
theorem Hp.nilFmR {w0 w : World} {B M : Nat → Prop} {ns rs : List Res} (h : Hp w0 B M ns rs w) (e : El α G) (s : Gs G) (r : α → G → Res) : Hp w0 B M ns (rs ++ [fm e 0 [] s r]) w :=
  h.more (Below.refl _ _) _ (fun x hx => by
    simp only [List.mem_singleton] at hx; subst hx
    exact ⟨fun i hi => absurd hi (by omega), fun _ ⟨i, hi, _⟩ => absurd hi (by omega)⟩) (by simp)
/-- an own resource that is only read, changed for another word inside the blocks of two such -/
theorem Hp.setR {w0 w : World} {B M : Nat → Prop} {ns rs : List Res} (h : Hp w0 B M ns rs w) {k j : Nat} {q x r : Res} (hk : rs[k]? = some q) (hj : rs[j]? = some x) (hq : q.mut = false) (hxm : x.mut = false) (ha : q.isAl = false ∧ x.isAl = false) (hm : r.mut = false) (hok : r.ok w) (hfp : ∀ b, r.fp b → q.fp b ∨ x.fp b) : Hp w0 B M ns (rs.set k r) w := by
  have split : ∀ y ∈ rs.set k r, y = r ∨ ∃ i, rs[i]? = some y ∧ i ≠ k := fun y hy => by
    obtain ⟨i, hi, hyi⟩ := List.getElem_of_mem hy
    rw [List.getElem_set] at hyi
    split at hyi
    · exact .inl hyi.symm
    · rename_i hne
      exact .inr ⟨i, List.getElem?_eq_some_iff.2 ⟨by simpa using hi, hyi⟩, fun e => hne e.symm⟩
  refine ⟨h.below, h.old, fun y hy z hz => ?_, fun y hy => ?_, ?_⟩
  · rcases split z hz with rfl | ⟨i, hi, _⟩
    · intro hmm
      rw [(h.old y hy).1, hm] at hmm
      rcases hmm with h | h <;> cases h
    · exact h.nsep y hy z (List.mem_of_getElem? hi)
  · rcases split y hy with rfl | ⟨i, hi, _⟩
    · refine ⟨hok, fun b hb => ?_⟩
      rcases hfp b hb with h1 | h1
      · have := (h.own q (List.mem_of_getElem? hk)).2 b h1
        refine ⟨this.1, ?_⟩
        rcases this.2 with h2 | h2 | h2
        · exact .inl h2
        · exact .inr (.inl h2)
        · rw [ha.1] at h2; cases h2.1
      · have := (h.own x (List.mem_of_getElem? hj)).2 b h1
        refine ⟨this.1, ?_⟩
        rcases this.2 with h2 | h2 | h2
        · exact .inl h2
        · exact .inr (.inl h2)
        · rw [ha.2] at h2; cases h2.1
    · exact h.own y (List.mem_of_getElem? hi)
  · refine List.pairwise_iff_getElem.2 fun i m hi hj' him => ?_
    have hi' : i < rs.length := by simpa using hi
    have hm' : m < rs.length := by simpa using hj'
    have key : ∀ n (hn : n < rs.length), n ≠ k → Sep r rs[n] := fun n hn hne hmm b h1 h2 => by
      have hmut : rs[n].mut = true := by rcases hmm with h | h; · rw [hm] at h; cases h
                                         · exact h
      have hgn := List.getElem?_eq_getElem hn
      rcases hfp b h1 with h3 | h3
      · exact sep_get h.sep hk hgn (Ne.symm hne) (.inr hmut) b h3 h2
      · have hjn : j ≠ n := fun e => by
          subst e
          rw [hgn] at hj
          injection hj with hj
          rw [hj, hxm] at hmut; cases hmut
        exact sep_get h.sep hj hgn hjn (.inr hmut) b h3 h2
    rw [List.getElem_set, List.getElem_set]
    split
    · rename_i e; subst e
      rw [if_neg (by omega)]
      exact key m hm' (by omega)
    · split
      · rename_i e; subst e
        exact (key i hi' (by omega)).symm
      · exact List.pairwise_iff_getElem.1 h.sep i m hi' hm' him
theorem Hp.fmPushR {w0 w : World} {B M : Nat → Prop} {ns rs : List Res} (h : Hp w0 B M ns rs w) {k j n m : Nat} {e : El α G} {xs : List α} {x : α} {u : G} {s s' : Gs G} {r : α → G → Res} {q : Res} (hk : rs[k]? = some (fm e n xs s r)) (hj : rs[j]? = some q) (hqa : q.mut = false ∧ q.isAl = false)
    (hn : n = xs.length) (hm : m = n + 1) (hs : ∀ i, i < n → s'.g i = s.g i) (hu : s'.g n = u) (hq : q = r x u) : Hp w0 B M ns (rs.set k (fm e m (xs ++ [x]) s' r)) w := by
  subst hm hq hu
  have hrl : ∀ i, i < n → (xs ++ [x]).getD i e.d = xs.getD i e.d := fun i hi => by simp [List.getElem?_append_left (show i < xs.length by omega)]
  have hrn : (xs ++ [x]).getD n e.d = x := by subst hn; simp
  have ok1 := (h.own _ (List.mem_of_getElem? hk)).1
  have ok2 := (h.own _ (List.mem_of_getElem? hj)).1
  refine h.setR hk hj rfl hqa.1 ⟨rfl, hqa.2⟩ rfl (fun i hi => ?_) fun b ⟨i, hi, hb⟩ => ?_
  · by_cases he : i < n
    · have := ok1 i he
      simp only [hrl i he, hs i he]
      exact this
    · have : i = n := by omega
      subst this
      simp only [hrn]
      exact ok2
  · by_cases he : i < n
    · simp only [hrl i he, hs i he] at hb
      exact .inl ⟨i, he, hb⟩
    · have : i = n := by omega
      subst this
      simp only [hrn] at hb
      exact .inr hb
theorem imp_headL {e : El α G} {n : Nat} {xs : List α} {s : Gs G} {hi : Nat} (hn : n = xs.length) (h2 : hi ≤ n) : Imp (vw e n xs s) (vw e (xs.take hi).length (xs.take hi) s) := imp_headS h2 (by simp; omega)
theorem imp_tailL {e : El α G} {n : Nat} {xs : List α} {s : Gs G} {lo : Nat} (hn : n = xs.length) (h2 : lo ≤ n) : Imp (vw e n xs s) (vw e (xs.drop lo).length (xs.drop lo) (cutS s lo e.size)) := imp_tailS h2 (by simp; omega)
theorem imp_cutL {e : El α G} {n : Nat} {xs : List α} {s : Gs G} {lo hi : Nat} (hn : n = xs.length) (h1 : lo ≤ hi) (h2 : hi ≤ n) : Imp (vw e n xs s) (vw e ((xs.take hi).drop lo).length ((xs.take hi).drop lo) (cutS s lo e.size)) := imp_cutS h1 h2 (by simp; omega)
theorem imp_fmHeadL {e : El α G} {n : Nat} {xs : List α} {s : Gs G} {r : α → G → Res} {hi : Nat} (hn : n = xs.length) (h2 : hi ≤ n) : Imp (fm e n xs s r) (fm e (xs.take hi).length (xs.take hi) s r) := imp_fmHead h2 (by simp; omega)
theorem imp_fmTailL {e : El α G} {n : Nat} {xs : List α} {s : Gs G} {r : α → G → Res} {lo : Nat} (hn : n = xs.length) (h2 : lo ≤ n) : Imp (fm e n xs s r) (fm e (xs.drop lo).length (xs.drop lo) (cutS s lo e.size) r) := imp_fmTail h2 (by simp; omega)
theorem imp_fmCutL {e : El α G} {n : Nat} {xs : List α} {s : Gs G} {r : α → G → Res} {lo hi : Nat} (hn : n = xs.length) (h1 : lo ≤ hi) (h2 : hi ≤ n) : Imp (fm e n xs s r) (fm e ((xs.take hi).drop lo).length ((xs.take hi).drop lo) (cutS s lo e.size) r) := imp_fmCut h1 h2 (by simp; omega)
theorem Hp.nilRw {w0 w : World} {B M : Nat → Prop} {ns rs : List Res} (h : Hp w0 B M ns rs w) (t : TypeId) (e : El α G) (s : Gs G) (ha : s.a = none) (hc : s.c = 0) : Hp w0 B M ns (rs ++ [rw t e 0 [] s]) w := by
  have := h.nilRow t e.size
  unfold rw
  rw [ha, hc]
  exact this
theorem Hp.boxRw {w0 w : World} {B M : Nat → Prop} {ns rs : List Res} (h : Hp w0 B M ns rs w) {k g : Nat} {t : TypeId} {cs : List Value} {e : El α G} {xs : List α} {s : Gs G} {n : Nat} (hk : rs[k]? = some (.box g t cs)) (hx : cs = rowC e xs s.g) (ha : s.a = some ⟨g, 0, none⟩) (hc : s.c = n) (hn : n = xs.length) (hm : n ≤ maxLen) :
    Hp w0 B M ns (rs.set k (rw t e n xs s)) w := by
  subst hx hn
  have := h.boxRow hk e.size xs.length xs.length (Nat.le_refl _) hm (rowC_len e xs s.g)
  rw [List.take_of_length_le (by rw [rowC_len]; exact Nat.le_refl _)] at this
  unfold rw
  rw [ha, hc]
  exact this
theorem wp_blockJ {P : Program} {c : Code} {Q : Exit → Act → World → Prop} {a : Act} {w : World} {id : Nat} (h : kd c = .block id) (J : Act → World → Prop) (k : (fst c).wp P (Exit.inBlock id (Exit.then J Q)) a w) (hJ : ∀ a w, J a w → Q .normal a w) : c.wp P Q a w :=
  wp_blockE h (Code.wp_mono (fun e a w q => by
    cases e with
    | normal => exact hJ a w q
    | exit i =>
      change (if i = id then Exit.then J Q .normal a w else Exit.then J Q (.exit i) a w) at q
      show (if i = id then Q .normal a w else Q (.exit i) a w)
      by_cases hi : i = id
      · rw [if_pos hi] at q ⊢; exact hJ a w q
      · rw [if_neg hi] at q ⊢; exact q
    | _ => exact q) k)
theorem nil_view {w : World} {e : El α G} {xs : List α} {c : Nat} {g : Nat → G} (h : (vw e xs.length xs ⟨none, c, g⟩).ok w) : xs = [] := by
  rcases Nat.eq_zero_or_pos xs.length with h0 | h0
  · exact List.eq_nil_of_length_eq_zero h0
  · obtain ⟨ad, hA, _⟩ := h.2.2 h0; cases hA
theorem Hp.nilVw {w0 w : World} {B M : Nat → Prop} {ns rs : List Res} (h : Hp w0 B M ns rs w) (e : El α G) (s : Gs G) (hs : s.c = 0) : Hp w0 B M (ns ++ [vw e 0 [] s]) rs w :=
  h.nilN rfl (fun _ => ⟨Nat.zero_le _, by rw [hs]; exact Nat.zero_le _, fun h => absurd h (by omega)⟩) fun _ ⟨h, _⟩ => absurd h (by omega)
end Go.Sym
