/-
  Rows of blocks looked at; the example's contracts.
-/
import Derived.Test.YtcccboodapgejaaTapeD
namespace Go.Proofs.Ytcccboodapgejaa
open Go.Sym

def blE (bl : List BT) (i : Nat) : List Value := (bl.getD i default).cells
theorem bl_row (bl : List BT) : ∀ (n : Nat), bl.length = n → ∀ i, i < n → (blE bl i).length = 18 ∧ ∀ j v, (blE bl i)[j]? = some v → (bl.flatMap BT.cells)[i * 18 + j]? = some v := by
  intro n hn i hi
  refine ⟨rfl, ?_⟩
  subst hn
  induction bl generalizing i with
  | nil => cases hi
  | cons x r ih =>
    intro j v hv
    cases i with
    | zero =>
      have hj : j < 18 := (List.getElem?_eq_some_iff.1 hv).1
      rw [List.flatMap_cons, Nat.zero_mul, Nat.zero_add, List.getElem?_append_left (show j < x.cells.length from hj)]
      exact hv
    | succ i =>
      have h2 := ih i (by simpa using hi) j v (by simpa [blE] using hv)
      have hc : x.cells.length = 18 := rfl
      rw [List.flatMap_cons, List.getElem?_append_right (by rw [hc]; omega), hc]
      rw [show (i + 1) * 18 + j - 18 = i * 18 + j by omega]
      exact h2

theorem put_ex (A : Option Addr) : CallOk Try.prog 18 [.agg #[.int .i64 exB.g, .int .i64 exB.n, .int .u8 exB.e, .int .u8 exB.t, .int .i64 exB.i.h, .int .i64 exB.i.m, .int .i64 exB.i.s, .int .i64 exB.i.f, .bool exB.i.d, .int .i64 exB.o.h, .int .i64 exB.o.m, .int .i64 exB.o.s, .int .i64 exB.o.f, .bool exB.o.d, .int .i64 exB.r, .int .u8 exB.a, .bool exB.c, .slice A 1 1]]
    [.view A 1 1 1 (byE exT)] (U := Option Addr × Nat) (fun u => .tuple #[.slice u.1 128 u.2, .int .i64 0]) (fun u => [.view u.1 128 u.2 1 (byE exPut)]) (fun _ => True) := by
  refine (put_c exB A 1 1 exT rfl).mono (fun _ h => h) fun u _ => ⟨u, by rw [ex_putN, ex_check], trivial, fun w w' h => h.look ?_⟩
  intro r' hr'
  simp only [List.mem_singleton] at hr'
  subst hr'
  refine ⟨rfl, _, List.mem_singleton.2 rfl, fun hr => ?_, fun b ⟨_, hb⟩ => hb⟩
  rw [ex_putN, ex_put] at hr
  exact row_view hr (by_rowN exPut rfl)

def exBT (p q : Option Addr × Nat) : List BT := [⟨{ exB with e := 0 }, p.1, p.2, List.replicate 112 0⟩, ⟨{ exB with e := 255 }, q.1, q.2, [0]⟩]
theorem split_ex (T : Option Addr) (g : Nat) : CallOk Try.prog 10 [.agg #[.int .i64 exB.g, .int .i64 exB.n, .int .u8 exB.e, .int .u8 exB.t, .int .i64 exB.i.h, .int .i64 exB.i.m, .int .i64 exB.i.s, .int .i64 exB.i.f, .bool exB.i.d, .int .i64 exB.o.h, .int .i64 exB.o.m, .int .i64 exB.o.s, .int .i64 exB.o.f, .bool exB.o.d, .int .i64 exB.r, .int .u8 exB.a, .bool exB.c, .slice T 1 1], .slice (some ⟨g, 0, none⟩) 113 113]
    [.row (some ⟨g, 0, none⟩) 113 5 1 113 (List.replicate 113 (.int .u8 0))] (U := Option Addr × Nat × (Option Addr × Nat) × (Option Addr × Nat)) (fun u => .tuple #[.slice u.1 2 u.2.1, .int .i64 0]) (fun u => [.view u.1 2 u.2.1 18 (blE (exBT u.2.2.1 u.2.2.2))]) (fun _ => True) := by
  refine (split_c exB T 1 1 (some ⟨g, 0, none⟩) 113 113 exZ rfl (by decide)).mono (fun w h => NeedOk.rowView (byE exZ) (by_rowN exZ rfl) h) fun ⟨A, c, bl⟩ hf => ?_
  simp only [ex_splitL] at hf
  obtain ⟨x, r, rfl⟩ : ∃ x r, bl = x :: r := by cases bl with | nil => simp at hf | cons x r => exact ⟨x, r, rfl⟩
  obtain ⟨y, r, rfl⟩ : ∃ y r', r = y :: r' := by cases r with | nil => simp at hf | cons x r => exact ⟨x, r, rfl⟩
  obtain rfl : r = [] := by cases r with | nil => rfl | cons x r => simp at hf
  obtain ⟨b1, A1, c1, t1⟩ := x
  obtain ⟨b2, A2, c2, t2⟩ := y
  simp only [List.map_cons, List.map_nil, BT.data, List.cons.injEq, Prod.mk.injEq, and_true] at hf
  obtain ⟨⟨rfl, rfl⟩, rfl, rfl⟩ := hf
  refine ⟨(A, c, (A1, c1), (A2, c2)), by rw [ex_splitL, ex_splitE]; rfl, trivial, fun w w' h => h.look ?_⟩
  intro r' hr'
  simp only [List.mem_singleton] at hr'
  subst hr'
  refine ⟨rfl, _, List.mem_cons_self .., fun hr => ?_, fun b ⟨_, hb⟩ => hb⟩
  rw [ex_splitL] at hr
  exact row_view hr (bl_row _ 2 rfl)
end Go.Proofs.Ytcccboodapgejaa
