/-
  Texts put together, in build order: WRa WRb WRc WRd WRe WE WM WB WV WS WH WXa WXb WK XA.
-/
import Derived.Test.YtihkkflfdblpcaaGreatDoorProg
import Derived.WalkKit
import Derived.WalkSpells
import Derived.LoopTactic
import Derived.Below
import Derived.Lib.Hide
import Derived.Lib.LazyBuf
import Derived.Lib.ConvBytes
import Derived.Laws.BytesArg
import Derived.Laws.LoneSync
import Derived.Defers
import Derived.Tactics
import Derived.Tactics2
import Derived.Test.YtihkkflfdblpcaaGreatDoorZC
import Derived.Laws.Rows
import Derived.Deep.WholeRow
import Derived.Laws.Pointers
import Derived.RegionTactic
import Derived.RegionCalls
import Derived.KernelRfl
import GoSem.PinnedTables
import Derived.Test.YtihkkflfdblpcaaGreatDoorChecked
import Derived.Lib.UnsafeStr
import Derived.Lib.Builder
import Derived.Lib.Walk
import Derived.Laws.Externs
import Derived.OrdersHeld
import Derived.Shelf.Unicode.ValidAny
import Derived.Shelf.Strings.Search3
import Derived.Shelf.Strings.Replace
import Derived.Shelf.Strings.SlTrimAscii
import Derived.Lib.Replace
import Derived.Lib.CountLaws
import Derived.Lib.IndexMore
set_option linter.all false

section
/-
  The replacer of the library at bytes: what its Replace does.
-/
set_option linter.all false
namespace Go.Mo
open Go Go.W Go.Proofs Go.RowKit

theorem flatB_two (x : UInt8) : flatB x = x ∨ (flatB x = 32 ∧ x ≠ 32) := by
  unfold flatB
  by_cases h1 : x = 9
  · subst h1; exact .inr (by decide)
  by_cases h2 : x = 10
  · subst h2; exact .inr (by decide)
  by_cases h3 : x = 13
  · subst h3; exact .inr (by decide)
  left
  have e1 : (x == 9) = false := by simpa using h1
  have e2 : (x == 10) = false := by simpa using h2
  have e3 : (x == 13) = false := by simpa using h3
  rw [e1, e2, e3]
  rfl
def BufIs (B n : Nat) (bs : List UInt8) (v : Value) (wr : World) : Prop := ∃ c cap, v = .slice (some ⟨c, 0, none⟩) n cap ∧ B ≤ c ∧ c < wr.heap.size ∧ (∀ j, j < n → wr.cell? ⟨c, j, none⟩ = some (.int .u8 ((bs.getD j 0).toNat : Nat))) ∧ (∀ j, j < n → wr.frozen? ⟨c, j, none⟩ = false)
def RelB (w : World) (n : Nat) (l : List UInt8) (v i : Value) (wr : World) : Prop := ∃ k : Nat, k ≤ l.length ∧ i = .int .i64 k ∧ Below w.heap.size w wr ∧ ((v = .slice none 0 0 ∧ (l.take k).map flatB = l.take k) ∨ BufIs w.heap.size n ((l.take k).map flatB ++ l.drop k) v wr)

theorem set_next (l : List UInt8) (f : UInt8 → UInt8) (k : Nat) (h : k < l.length) : (l.take (k + 1)).map f ++ l.drop (k + 1) = ((l.take k).map f ++ l.drop k).set k (f l[k]) := by
  have h1 : ((l.take k).map f).length = k := by simp; omega
  rw [List.take_succ_eq_append_getElem h, List.drop_eq_getElem_cons h, List.map_append, List.append_assoc, List.set_append_right _ _ (by omega), h1, Nat.sub_self]
  rfl
theorem same_next (l : List UInt8) (f : UInt8 → UInt8) (k : Nat) (h : k < l.length) (he : f l[k] = l[k]) : (l.take (k + 1)).map f ++ l.drop (k + 1) = (l.take k).map f ++ l.drop k := by
  rw [List.take_succ_eq_append_getElem h, List.drop_eq_getElem_cons h, List.map_append, List.append_assoc]
  simp [he]
theorem pre_next (l : List UInt8) (f : UInt8 → UInt8) (k : Nat) (h : k < l.length) (hp : (l.take k).map f = l.take k) (he : f l[k] = l[k]) : (l.take (k + 1)).map f = l.take (k + 1) := by
  rw [List.take_succ_eq_append_getElem h, List.map_append, hp]
  simp [he]
theorem pre_all (l : List UInt8) (f : UInt8 → UInt8) (k : Nat) (hp : (l.take k).map f = l.take k) : (l.take k).map f ++ l.drop k = l := by
  rw [hp, List.take_append_drop]
theorem buf_set {B n k : Nat} {bs : List UInt8} {c cap : Nat} {wr : World} (y : UInt8) (hk : k < bs.length) (h : BufIs B n bs (.slice (some ⟨c, 0, none⟩) n cap) wr) : BufIs B n (bs.set k y) (.slice (some ⟨c, 0, none⟩) n cap) (wr.setCell ⟨c, k, none⟩ (.int .u8 (y.toNat : Nat))) := by
  obtain ⟨c', cap', e, h1, h2, h3, h4⟩ := h
  simp only [Value.slice.injEq, Option.some.injEq, Addr.mk.injEq, and_true, true_and] at e
  obtain ⟨rfl, rfl⟩ := e
  refine ⟨c, cap, rfl, h1, by simpa [World.setCell] using h2, fun j hj => ?_, fun j hj => by rw [World.frozen?_setCell]; exact h4 j hj⟩
  by_cases e : j = k
  · subst e
    rw [World.cell?_setCell_same _ _ _ (h3 j hj)]
    simp [List.getD, hk]
  · rw [World.cell?_setCell_other _ _ _ _ (by simp <;> omega), h3 j hj]
    simp [List.getD, Ne.symm e]
theorem buf_new {B : Nat} (s : ByteArray) (wr : World) (hB : B ≤ wr.heap.size) : BufIs B s.size s.data.toList (.slice (some ⟨wr.heap.size, 0, none⟩) s.size (grownCap wr s.size 0 5)) (Lib.bytesWorld wr 5 s) := by
  refine ⟨_, _, rfl, hB, by rw [Lib.bytesWorld_size]; omega, fun j hj => Lib.bytesWorld_cell wr 5 s j hj, fun j hj => ?_⟩
  have h1 := Lib.bytesWorld_at_new wr 5 s
  have h2 : s.size ≤ (Lib.bytesCells wr 5 s).size := by
    unfold Lib.bytesCells
    rw [Array.size_append, Array.size_map]
    exact Nat.le_add_right _ _
  unfold World.frozen?
  simp only [h1]
  generalize (Lib.bytesCells wr 5 s).size = z at h2
  have : ¬ z ≤ j := by omega
  simp [this]
theorem buf_below {B : Nat} {w wr : World} (s : ByteArray) (h : Below B w wr) (hB : B ≤ wr.heap.size) : Below B w (Lib.bytesWorld wr 5 s) :=
  h.trans ⟨rfl, rfl, rfl, by rw [Lib.bytesWorld_size]; omega, fun k hk => Lib.bytesWorld_at_old wr 5 s k (by omega)⟩

theorem str_nums (l : List UInt8) : strOfNums (l.map fun x => (x.toNat : Int)) = ⟨l.toArray⟩ := by
  unfold strOfNums
  rw [List.map_map]
  have : ((fun n : Int => UInt8.ofNat n.toNat) ∘ fun x : UInt8 => (x.toNat : Int)) = id := by funext x; simp
  rw [this, List.map_id]

set_option maxHeartbeats 4000000 in
set_option maxRecDepth 1000000 in
theorem br_any (b : Nat) (s : ByteArray) (w : World) (hb : b < w.heap.size) (hs : s.size ≤ 4294967281) (htab : ∀ x : UInt8, w.cell? ⟨b, x.toNat, none⟩ = some (.int .u8 (flatB x).toNat)) :
    Calls Tryz.prog 195 #[.pointer (some ⟨b, 0, none⟩), .string s] w fun e w' => e = .returned (.string ⟨(s.data.toList.map flatB).toArray⟩) ∧ Below w.heap.size w w' := by
  have HT := Lib.hid htab
  clear htab
  have HB := Lib.hid hb
  go_enter Tryz.func195, Tryz.ntmps195
  go_wp2
  go_loopw [5, 6] (fun v i wr => RelB w s.size s.data.toList v i wr) (fun _ i _ => s.size - (intOf i).toNat)
  case atStart => exact ⟨0, Nat.zero_le _, rfl, Below.refl _ _, .inl ⟨rfl, rfl⟩⟩
  case round =>
    obtain ⟨k, hk, rfl, hbel, hor⟩ := hrel
    have hn : s.data.toList.length = s.size := (Lib.size_eq s).symm
    have HNl := Lib.hid hn
    clear hn
    have hkl : k ≤ s.size := by have := HNl.out; omega
    have hBw := hbel.size
    by_cases hlt : k < s.size
    · have hlk : k < s.data.toList.length := by have := HNl.out; omega
      have ht := HT.out (s[k]'hlt)
      have hc1 : wr.cell? ⟨b, (s[k]'hlt).toNat, none⟩ = some (.int .u8 (flatB (s[k]'hlt)).toNat) := (hbel.cell (p := ⟨b, (s[k]'hlt).toNat, none⟩) HB.out).trans ht
      clear ht
      have hx : ((s[k]'hlt).toNat : Int) < 256 := by have := (s[k]'hlt).toNat_lt; omega
      have hget : s.data.toList[k]'hlk = s[k]'hlt := rfl
      have HG := Lib.hid hget
      clear hget
      rcases flatB_two (s[k]'hlt) with hd | ⟨hd, hne⟩
      · -- the byte stays
        rw [hd] at hc1
        have HD := Lib.hid hd
        clear hd
        rcases hor with ⟨rfl, hpre⟩ | hbuf
        · have HP := Lib.hid hpre
          clear hpre
          go_wp2
          go_roundw
          case rel => exact ⟨k + 1, hlk, by go_num, hbel, .inl ⟨rfl, pre_next _ _ k hlk HP.out (by rw [HG.out]; exact HD.out)⟩⟩
          case measure => simp [intOf]; omega
        · have HP := Lib.hid hbuf
          clear hbuf
          go_wp2
          go_roundw
          case rel => exact ⟨k + 1, hlk, by go_num, hbel, .inr (by rw [same_next _ _ k hlk (by rw [HG.out]; exact HD.out)]; exact HP.out)⟩
          case measure => simp [intOf]; omega
      · rw [hd] at hc1
        have hc1 : wr.cell? ⟨b, (s[k]'hlt).toNat, none⟩ = some (.int .u8 32) := hc1
        have HD := Lib.hid hd
        clear hd
        have hne' : ((32 : Int) != ((s[k]'hlt).toNat : Int)) = true := by
          simp only [bne_iff_ne, ne_eq]
          intro e
          exact hne (UInt8.toNat_inj.1 (by show _ = 32; omega))
        have HN := Lib.hid hne
        clear hne
        rcases hor with ⟨rfl, hpre⟩ | hbuf
        · have HP := Lib.hid hpre
          clear hpre
          have hnl := fun w => run_eql_slice_nil (P := Tryz.prog) w 53 5 none 0 0 Tryz.underlying53
          have hcv := Lib.run_convert_string_bytes (P := Tryz.prog) wr 9 53 5 s Tryz.underlying9 Tryz.underlying53 Tryz.underlying5
          have hc2 : (Lib.bytesWorld wr 5 s).cell? ⟨b, (s[k]'hlt).toNat, none⟩ = some (.int .u8 32) := (Lib.bytesWorld_old wr 5 s _ (by show b < wr.heap.size; have := HB.out; omega)).trans hc1
          have hbn := buf_new (B := w.heap.size) s wr hBw
          have hc3 := Lib.bytesWorld_cell wr 5 s k hlt
          have hc4 : (Lib.bytesWorld wr 5 s).frozen? ⟨wr.heap.size, k, none⟩ = false := by
            obtain ⟨c, cap, e, _, _, _, h4⟩ := hbn
            simp only [Value.slice.injEq, Option.some.injEq, Addr.mk.injEq, and_true, true_and] at e
            obtain ⟨⟨rfl, _⟩, _⟩ := e
            exact h4 k hlt
          have hbb := buf_below s hbel hBw
          have HBn := Lib.hid hbn
          clear hbn
          go_wp2
          go_roundw
          case rel =>
            refine ⟨k + 1, hlk, by go_num, hbb.setCell (by exact hBw) _, .inr ?_⟩
            have h1 := set_next s.data.toList flatB k hlk
            rw [pre_all _ _ k HP.out, HG.out, HD.out] at h1
            rw [h1]
            exact buf_set 32 hlk HBn.out
          case measure => simp [intOf]; omega
        · obtain ⟨c, cap, rfl, q1, q2, q3, q4⟩ := hbuf
          have hnl := fun w => run_eql_slice_nil (P := Tryz.prog) w 53 5 (some ⟨c, 0, none⟩) s.size cap Tryz.underlying53
          have hc3 := q3 k hlt
          have hc4 := q4 k hlt
          have hQ : BufIs w.heap.size s.size ((s.data.toList.take k).map flatB ++ s.data.toList.drop k) (.slice (some ⟨c, 0, none⟩) s.size cap) wr := ⟨c, cap, rfl, q1, q2, q3, q4⟩
          have HQ := Lib.hid hQ
          clear hQ q3 q4
          go_wp2
          go_roundw
          case rel =>
            refine ⟨k + 1, hlk, by go_num, hbel.setCell (by exact q1) _, .inr ?_⟩
            have h1 := set_next s.data.toList flatB k hlk
            rw [HG.out, HD.out] at h1
            rw [h1]
            exact buf_set 32 (by simp; omega) HQ.out
          case measure => simp [intOf]; omega
    · rcases hor with ⟨rfl, hpre⟩ | hbuf
      · have HP := Lib.hid hpre
        clear hpre
        have hnl := fun w => run_eql_slice_nil (P := Tryz.prog) w 53 5 none 0 0 Tryz.underlying53
        go_wp2
        go_ret
        refine ⟨?_, hbel⟩
        have h1 := HP.out
        rw [List.take_of_length_le (by have := HNl.out; omega)] at h1
        rw [h1, Lib.mk_data]
        rfl
      · obtain ⟨c, cap, rfl, q1, q2, q3, q4⟩ := hbuf
        have hnl := fun w => run_eql_slice_nil (P := Tryz.prog) w 53 5 (some ⟨c, 0, none⟩) s.size cap Tryz.underlying53
        have h0 : (s.data.toList.take k).map flatB ++ s.data.toList.drop k = s.data.toList.map flatB := by
          rw [List.take_of_length_le (by have := HNl.out; omega), List.drop_of_length_le (by have := HNl.out; omega), List.append_nil]
        rw [h0] at q3
        clear h0
        have hcv := run_convert_bytes_arg (P := Tryz.prog) wr 53 5 Tryz.underlying53 Tryz.underlying5 c 0 s.size cap ((s.data.toList.map flatB).map fun x => (x.toNat : Int)) (by rw [List.length_map, List.length_map]; exact HNl.out) (fun i hi => by
          have h1 : i < s.data.toList.length := by have := HNl.out; omega
          rw [Nat.zero_add, q3 i hi]
          have h2 : i < (s.data.toList.map flatB).length := by simpa using h1
          rw [List.getD_eq_getElem?_getD, List.getD_eq_getElem?_getD, List.getElem?_map (f := fun x : UInt8 => (x.toNat : Int)), List.getElem?_eq_getElem h2]
          rfl) 9 Tryz.underlying9
        have hstr : strOfNums ((s.data.toList.map flatB).map fun x => (x.toNat : Int)) = ⟨(s.data.toList.map flatB).toArray⟩ := by
          exact str_nums _
        rw [hstr] at hcv
        clear hstr
        have HC := Lib.hid q3
        clear q3
        go_wp2
        go_ret
        exact ⟨rfl, hbel⟩
end Go.Mo
end

section
/-
  The replacer of the library: how it is built from three pairs.
-/
set_option linter.all false
namespace Go.Mo
open Go Go.W Go.Proofs Go.RowKit

theorem flatB_eq (b : UInt8) : flatB b = cond (b == 9) 32 (cond (b == 10) 32 (cond (b == 13) 32 b)) := by
  unfold flatB bsel
  cases (b == 9) <;> cases (b == 10) <;> cases (b == 13) <;> rfl
def TabW (B k : Nat) (wr : World) : Prop := ∃ cur : Array Value, wr.heap[B]? = some (.cells cur 174 (0, 0)) ∧ cur.size = 256 ∧ ∀ j, j < k → cur[j]? = some (.int .u8 (j : Nat))
def tabK (k : Nat) (x : UInt8) : UInt8 := match k with
  | 0 => flatB x
  | 1 => cond (x == 10) 32 (cond (x == 13) 32 x)
  | 2 => cond (x == 13) 32 x
  | _ => x
def TabV (B k : Nat) (wr : World) : Prop := ∃ cur : Array Value, wr.heap[B]? = some (.cells cur 174 (0, 0)) ∧ cur.size = 256 ∧ ∀ x : UInt8, cur[x.toNat]? = some (.int .u8 ((tabK k x).toNat : Nat))
/-- the six texts of the pairs -/
def sixAt (w : World) (g : Nat) : Prop := ∀ j v, #[Value.string ⟨#[9]⟩, .string ⟨#[32]⟩, .string ⟨#[10]⟩, .string ⟨#[32]⟩, .string ⟨#[13]⟩, .string ⟨#[32]⟩][j]? = some v → w.cell? ⟨g, j, none⟩ = some v

theorem tabw_cell {B k j : Nat} {wr : World} (h : TabW B k wr) (hj : j < 256) : (∃ v, wr.cell? ⟨B, j, none⟩ = some v) ∧ wr.frozen? ⟨B, j, none⟩ = false := by
  obtain ⟨cur, h1, h2, _⟩ := h
  refine ⟨⟨cur[j]'(by omega), ?_⟩, ?_⟩
  · simp [World.cell?, h1, h2, hj]
  · simp [World.frozen?, h1]
theorem tabw_set {B k : Nat} {wr : World} (h : TabW B k wr) (hk : k < 256) : TabW B (k + 1) (wr.setCell ⟨B, k, none⟩ (.int .u8 (k : Nat))) := by
  obtain ⟨cur, h1, h2, h3⟩ := h
  refine ⟨cur.setIfInBounds k (.int .u8 (k : Nat)), heap_setCell_same wr B k cur 174 _ h1, by simpa using h2, fun j hj => ?_⟩
  rw [Array.getElem?_setIfInBounds]
  by_cases e : k = j
  · subst e
    rw [if_pos rfl, if_pos (by omega)]
  · rw [if_neg e]
    exact h3 j (by omega)
theorem tabw_v {B : Nat} {wr : World} (h : TabW B 256 wr) : TabV B 3 wr := by
  obtain ⟨cur, h1, h2, h3⟩ := h
  exact ⟨cur, h1, h2, fun x => h3 x.toNat x.toNat_lt⟩
theorem tabv_cell {B k j : Nat} {wr : World} (h : TabV B k wr) (hj : j < 256) : (∃ v, wr.cell? ⟨B, j, none⟩ = some v) ∧ wr.frozen? ⟨B, j, none⟩ = false := by
  obtain ⟨cur, h1, h2, _⟩ := h
  refine ⟨⟨cur[j]'(by omega), ?_⟩, ?_⟩
  · simp [World.cell?, h1, h2, hj]
  · simp [World.frozen?, h1]
theorem tabv_set {B k : Nat} {wr : World} (b y : UInt8) (h : TabV B (k + 1) wr) (ht : ∀ x, tabK k x = if x = b then y else tabK (k + 1) x) : TabV B k (wr.setCell ⟨B, b.toNat, none⟩ (.int .u8 (y.toNat : Nat))) := by
  obtain ⟨cur, h1, h2, h3⟩ := h
  refine ⟨cur.setIfInBounds b.toNat (.int .u8 (y.toNat : Nat)), heap_setCell_same wr B b.toNat cur 174 _ h1, by simpa using h2, fun x => ?_⟩
  rw [Array.getElem?_setIfInBounds, ht x]
  by_cases e : x = b
  · subst e
    rw [if_pos rfl, if_pos (by rw [h2]; exact x.toNat_lt), if_pos rfl]
  · rw [if_neg (fun k => e (UInt8.toNat_inj.1 k.symm)), if_neg e]
    exact h3 x
theorem tk2 : ∀ x, tabK 2 x = if x = 13 then 32 else tabK 3 x := fun x => by
  by_cases e : x = 13
  · subst e; rfl
  · have e' : (x == 13) = false := by simpa using e
    rw [if_neg e]
    simp [tabK, e']
theorem tk1 : ∀ x, tabK 1 x = if x = 10 then 32 else tabK 2 x := fun x => by
  by_cases e : x = 10
  · subst e; rfl
  · have e' : (x == 10) = false := by simpa using e
    rw [if_neg e]
    simp [tabK, e']
theorem tk0 : ∀ x, tabK 0 x = if x = 9 then 32 else tabK 1 x := fun x => by
  by_cases e : x = 9
  · subst e; rfl
  · have e' : (x == 9) = false := by simpa using e
    rw [if_neg e]
    simp [tabK, flatB_eq, e']

set_option maxHeartbeats 4000000 in
set_option maxRecDepth 1000000 in
theorem build_any (b g cap : Nat) (w : World) (hb : b < w.heap.size) (hg : g < w.heap.size) (hold : w.cell? ⟨b, 4, none⟩ = some (.slice (some ⟨g, 0, none⟩) 6 cap)) (h6 : sixAt w g) :
    Calls Tryz.prog 143 #[.pointer (some ⟨b, 0, none⟩)] w fun e w' => e = .returned (.iface 175 (.pointer (some ⟨w.heap.size, 0, none⟩))) ∧ Below w.heap.size w w' ∧ TabV w.heap.size 0 w' := by
  have c0 := h6 0 (.string ⟨#[9]⟩) rfl
  have c1 := h6 1 (.string ⟨#[32]⟩) rfl
  have c2 := h6 2 (.string ⟨#[10]⟩) rfl
  have c3 := h6 3 (.string ⟨#[32]⟩) rfl
  have c4 := h6 4 (.string ⟨#[13]⟩) rfl
  have c5 := h6 5 (.string ⟨#[32]⟩) rfl
  have hsc := run_storeCells_new (P := Tryz.prog) w 174 Tryz.zeroCells174 Tryz.zeroCells174 (by kernel_rfl) rfl (by kernel_rfl)
  go_enter Tryz.func143, Tryz.ntmps143
  go_wp2
  go_loop [4, 5] (fun a i => ∃ k : Nat, k ≤ 3 ∧ i = .int .i64 ((2 * k : Nat) : Int) ∧ a = .bool true) (fun _ i => 6 - (intOf i).toNat)
  case atStart => exact ⟨0, by omega, rfl, rfl⟩
  case round =>
    obtain ⟨k, hk, rfl, rfl⟩ := hrel
    by_cases hlt : k < 3
    · obtain rfl | rfl | rfl : k = 0 ∨ k = 1 ∨ k = 2 := by omega
      all_goals
        go_wp2
        go_round
        case rel => first | exact ⟨1, by omega, rfl, rfl⟩ | exact ⟨2, by omega, rfl, rfl⟩ | exact ⟨3, by omega, rfl, rfl⟩
        case measure => simp [intOf]
    · obtain rfl : k = 3 := by omega
      go_wp2
      go_loopw [61] (fun i wr => ∃ k : Nat, k ≤ 256 ∧ i = .int .i64 (k : Nat) ∧ Below w.heap.size w wr ∧ TabW w.heap.size k wr) (fun i _ => 256 - (intOf i).toNat)
      case atStart => exact ⟨0, by omega, rfl, (Below.refl _ _).alloc (Nat.le_refl _) _, ⟨_, heap_alloc_new w _, Tryz.zeroCells174_size, fun j hj => absurd hj (Nat.not_lt_zero _)⟩⟩
      case round =>
        obtain ⟨k, hk, rfl, hbel, htab⟩ := hrel
        by_cases hlt : k < 256
        · obtain ⟨⟨v, hc⟩, hf⟩ := tabw_cell htab hlt
          have HT := Lib.hid htab
          clear htab
          go_wp2
          go_roundw
          case rel => exact ⟨k + 1, by omega, by go_num, hbel.setCell (by exact Nat.le_refl _) _, tabw_set HT.out hlt⟩
          case measure => simp [intOf]; omega
        · have hT3 : TabV w.heap.size 3 wr := by
            have h256 : k = 256 := by omega
            rw [h256] at htab
            exact tabw_v htab
          clear htab
          have HT := Lib.hid hT3
          clear hT3
          go_wp2
          obtain ⟨wo, rfl⟩ : ∃ wo : World, wo = wr := ⟨_, rfl⟩
          go_loopw [8] (fun i wr => ∃ m : Nat, m ≤ 3 ∧ i = .int .i64 (2 * (m : Nat) - 2 : Int) ∧ Below w.heap.size w wr ∧ TabV w.heap.size m wr) (fun i _ => (intOf i + 2).toNat)
          case atStart => exact ⟨3, by omega, rfl, hbel, HT.out⟩
          case round =>
            obtain ⟨m, hm, rfl, hbel2, htab2⟩ := hrel
            have d0 : wr.cell? ⟨g, 0, none⟩ = some (.string ⟨#[9]⟩) := (hbel2.cell (p := ⟨g, 0, none⟩) hg).trans c0
            have d1 : wr.cell? ⟨g, 1, none⟩ = some (.string ⟨#[32]⟩) := (hbel2.cell (p := ⟨g, 1, none⟩) hg).trans c1
            have d2 : wr.cell? ⟨g, 2, none⟩ = some (.string ⟨#[10]⟩) := (hbel2.cell (p := ⟨g, 2, none⟩) hg).trans c2
            have d3 : wr.cell? ⟨g, 3, none⟩ = some (.string ⟨#[32]⟩) := (hbel2.cell (p := ⟨g, 3, none⟩) hg).trans c3
            have d4 : wr.cell? ⟨g, 4, none⟩ = some (.string ⟨#[13]⟩) := (hbel2.cell (p := ⟨g, 4, none⟩) hg).trans c4
            have d5 : wr.cell? ⟨g, 5, none⟩ = some (.string ⟨#[32]⟩) := (hbel2.cell (p := ⟨g, 5, none⟩) hg).trans c5
            have k13 : ∀ h, ((⟨#[13]⟩ : ByteArray)[0]'h) = 13 := fun _ => rfl
            have k10 : ∀ h, ((⟨#[10]⟩ : ByteArray)[0]'h) = 10 := fun _ => rfl
            have k9 : ∀ h, ((⟨#[9]⟩ : ByteArray)[0]'h) = 9 := fun _ => rfl
            have k32 : ∀ h, ((⟨#[32]⟩ : ByteArray)[0]'h) = 32 := fun _ => rfl
            obtain rfl | rfl | rfl | rfl : m = 3 ∨ m = 2 ∨ m = 1 ∨ m = 0 := by omega
            · obtain ⟨⟨v, hc⟩, hf⟩ := tabv_cell (j := 13) htab2 (by omega)
              have HT2 := Lib.hid htab2
              clear htab2
              go_wp2
              go_roundw
              case rel => exact ⟨2, by omega, rfl, hbel2.setCell (by exact Nat.le_refl _) _, tabv_set 13 32 HT2.out tk2⟩
              case measure => simp [intOf]
            · obtain ⟨⟨v, hc⟩, hf⟩ := tabv_cell (j := 10) htab2 (by omega)
              have HT2 := Lib.hid htab2
              clear htab2
              go_wp2
              go_roundw
              case rel => exact ⟨1, by omega, rfl, hbel2.setCell (by exact Nat.le_refl _) _, tabv_set 10 32 HT2.out tk1⟩
              case measure => simp [intOf]
            · obtain ⟨⟨v, hc⟩, hf⟩ := tabv_cell (j := 9) htab2 (by omega)
              have HT2 := Lib.hid htab2
              clear htab2
              go_wp2
              go_roundw
              case rel => exact ⟨0, by omega, rfl, hbel2.setCell (by exact Nat.le_refl _) _, tabv_set 9 32 HT2.out tk0⟩
              case measure => simp [intOf]
            · have HT2 := Lib.hid htab2
              clear htab2
              go_wp2
              go_ret
              exact ⟨rfl, hbel2, HT2.out⟩
end Go.Mo
end

section
/-
  The locks under sync.Once.
-/
set_option linter.all false
namespace Go.Mo
open Go Go.W Go.Proofs Go.RowKit

theorem rd_disable (w : World) : (callFunc 156 #[]).run Tryz.prog w = .ok (.value (.tuple #[])) w := run_call_mark0 Tryz.func156 (by kernel_rfl) (by kernel_rfl) (by kernel_rfl) .disable (by kernel_rfl) w
theorem rd_enable (w : World) : (callFunc 158 #[]).run Tryz.prog w = .ok (.value (.tuple #[])) w := run_call_mark0 Tryz.func158 (by kernel_rfl) (by kernel_rfl) (by kernel_rfl) .enable (by kernel_rfl) w
theorem rd_acquire (a : Addr) (w : World) : (callFunc 159 #[.pointer (some a)]).run Tryz.prog w = .ok (.value (.tuple #[])) w := run_call_marked Tryz.func159 (by kernel_rfl) (by kernel_rfl) (by kernel_rfl) .acquire (by kernel_rfl) a w
theorem rd_release (a : Addr) (w : World) : (callFunc 161 #[.pointer (some a)]).run Tryz.prog w = .ok (.value (.tuple #[])) w := run_call_marked Tryz.func161 (by kernel_rfl) (by kernel_rfl) (by kernel_rfl) .releaseMerge (by kernel_rfl) a w

set_option maxHeartbeats 2000000 in
set_option maxRecDepth 1000000 in
theorem store_deferred (a : Addr) (x : Value) (u : FrameMode) (w : World) (hc : w.cell? a = some x) (hz : w.frozen? a = false) :
    CallsD Tryz.prog 147 #[.pointer (some a), .bool true] u w fun e u' w' => u' = u ∧ (e = .returned (.tuple #[]) ∧ w' = w.drew.setCell a (.int .u32 1)) := by
  have hc' : w.drew.cell? a = some x := by go_simp
  have hz' : w.drew.frozen? a = false := by go_simp
  have hst := run_call_store (P := Tryz.prog) Tryz.func152 (by kernel_rfl) (by kernel_rfl) (by kernel_rfl) (by kernel_rfl) (k := .u32) (y := 1) hc' hz'
  go_enter_d Tryz.func147, Tryz.ntmps147
  go_wp2
  go_region_calls
  all_goals (go_end0; exact ⟨rfl, rfl⟩)

set_option maxHeartbeats 2000000 in
set_option maxRecDepth 1000000 in
theorem unlock_deferred (a : Addr) (u : FrameMode) (w : World) (hc : w.cell? a = some (.int .i32 1)) (hz : w.frozen? a = false) :
    CallsD Tryz.prog 146 #[.pointer (some a)] u w fun e u' w' => u' = u ∧ (e = .returned (.tuple #[]) ∧ w' = w.setCell a (.int .i32 0)) := by
  have hd := rd_disable
  have he := rd_enable
  have hr := rd_release
  have hadd := run_call_add (P := Tryz.prog) Tryz.func162 (by kernel_rfl) (by kernel_rfl) (by kernel_rfl) .i32 (by kernel_rfl) (y := -1) (s := 0) hc hz (by simp [go_sem]; rfl)
  have hcv := run_convert_to_unsafe (P := Tryz.prog) (src := 194) (dst := 118) Tryz.underlying194 Tryz.underlying118 (by kernel_rfl) hc
  go_enter_d Tryz.func146, Tryz.ntmps146
  go_wp2
  go_end0
  go_wp2
  go_end0
  exact ⟨rfl, rfl⟩

set_option maxHeartbeats 2000000 in
set_option maxRecDepth 1000000 in
theorem lock_free (a : Addr) (w : World) (hc : w.cell? a = some (.int .i32 0)) (hz : w.frozen? a = false) :
    Calls Tryz.prog 145 #[.pointer (some a)] w fun e w' => e = .returned (.tuple #[]) ∧ w' = w.setCell a (.int .i32 1) := by
  have hd := rd_disable
  have he := rd_enable
  have ha := rd_acquire
  have hcas := run_call_cas_hit (P := Tryz.prog) Tryz.func157 (by kernel_rfl) (by kernel_rfl) (by kernel_rfl) .i32 (by kernel_rfl) (y := 1) hc hz
  have hc' : (w.setCell a (.int .i32 1)).cell? a = some (.int .i32 1) := World.cell?_setCell_same w a _ hc
  have hcv := run_convert_to_unsafe (P := Tryz.prog) (src := 194) (dst := 118) Tryz.underlying194 Tryz.underlying118 (by kernel_rfl) hc'
  go_enter Tryz.func145, Tryz.ntmps145
  go_wp2
  first | go_end0 | (simp only [Exit.inBlock, Exit.then]; refine bodyPost_ret (results_none rfl _ _ _) rfl ?_) | refine bodyPost_ret (results_none rfl _ _ _) rfl ?_
  go_wp2
  go_end0
  exact ⟨rfl, rfl⟩
end Go.Mo
end

section
/-
  The replacer of the library is built once: sync.Once.
-/
set_option linter.all false
namespace Go.Mo
open Go Go.W Go.Proofs Go.RowKit

theorem TabV.of_block {B k : Nat} {w w' : World} (h : TabV B k w) (hh : w'.heap[B]? = w.heap[B]?) : TabV B k w' := by
  obtain ⟨cur, h1, h2, h3⟩ := h
  exact ⟨cur, hh.trans h1, h2, h3⟩
theorem TabV.other {B k : Nat} {w : World} (h : TabV B k w) {a : Addr} (ha : B ≠ a.block) (u : Value) : TabV B k (w.setCell a u) :=
  h.of_block (Below.heap_setCell _ _ _ _ ha)
theorem sixAt.other {g : Nat} {w : World} (h : sixAt w g) {a : Addr} (ha : a.block ≠ g) (u : Value) : sixAt (w.setCell a u) g := fun j v hj =>
  (World.cell?_setCell_other w a ⟨g, j, none⟩ u (fun e => ha (by rw [e]))).trans (h j v hj)
/-- the interface value of the replacer -/
def ifa (c : Nat) : Value := .iface 175 (.pointer (some ⟨c, 0, none⟩))

set_option maxHeartbeats 2000000 in
set_option maxRecDepth 1000000 in
theorem once_any (b g cap : Nat) (x3 : Value) (w : World) (hb : b < w.heap.size) (hg : g < w.heap.size) (hold : w.cell? ⟨b, 4, none⟩ = some (.slice (some ⟨g, 0, none⟩) 6 cap)) (h3 : w.cell? ⟨b, 3, none⟩ = some x3)
    (f3 : w.frozen? ⟨b, 3, none⟩ = false) (f4 : w.frozen? ⟨b, 4, none⟩ = false) (h6 : sixAt w g) :
    Calls Tryz.prog 139 #[.pointer (some ⟨b, 0, none⟩)] w fun e w' => e = .returned (.tuple #[]) ∧ ∃ w1, Below w.heap.size w w1 ∧ TabV w.heap.size 0 w1 ∧ w' = (w1.setCell ⟨b, 3, none⟩ (ifa w.heap.size)).setCell ⟨b, 4, none⟩ (.slice none 0 0) := by
  have HB := Lib.hid (build_any b g cap w hb hg hold h6)
  go_enter Tryz.func139, Tryz.ntmps139
  go_wp2_with fail
  refine HB.out.mono ?_
  rintro e w1 ⟨rfl, hbel, htab⟩
  have c3 : w1.cell? ⟨b, 3, none⟩ = some x3 := (hbel.cell (p := ⟨b, 3, none⟩) hb).trans h3
  have c4 : w1.cell? ⟨b, 4, none⟩ = some (.slice (some ⟨g, 0, none⟩) 6 cap) := (hbel.cell (p := ⟨b, 4, none⟩) hb).trans hold
  have z3 : w1.frozen? ⟨b, 3, none⟩ = false := (hbel.frozen (p := ⟨b, 3, none⟩) hb).trans f3
  have z4 : w1.frozen? ⟨b, 4, none⟩ = false := (hbel.frozen (p := ⟨b, 4, none⟩) hb).trans f4
  have d4 : (w1.setCell ⟨b, 3, none⟩ (.iface 175 (.pointer (some ⟨w.heap.size, 0, none⟩)))).cell? ⟨b, 4, none⟩ = some (.slice (some ⟨g, 0, none⟩) 6 cap) := (World.cell?_setCell_other _ _ _ _ (by simp)).trans c4
  have HT := Lib.hid htab
  clear htab
  go_wp2
  go_end0
  exact ⟨rfl, w1, hbel, HT.out, rfl⟩

/-- what is left when it is built: from block b on -/
def Built (b c : Nat) (w w' : World) : Prop := Below b w w' ∧ w'.cell? ⟨b, 3, none⟩ = some (ifa c) ∧ TabV c 0 w' ∧ c < w'.heap.size ∧ w'.frozen? ⟨b, 3, none⟩ = false

theorem built_mk {b : Nat} {w w1 : World} {v x : Value} (hb : b < w.heap.size) (h : Below w.heap.size (w.setCell ⟨b, 1, none⟩ v) w1) (ht : TabV w.heap.size 0 w1) (h3 : w1.cell? ⟨b, 3, none⟩ = some x) (hz : ∀ o, w1.frozen? ⟨b, o, none⟩ = false) :
    Built b w.heap.size w ((((w1.setCell ⟨b, 3, none⟩ (ifa w.heap.size)).setCell ⟨b, 4, none⟩ (.slice none 0 0)).drew.setCell ⟨b, 0, none⟩ (.int .u32 1)).setCell ⟨b, 1, none⟩ (.int .i32 0)) := by
  have hne : w.heap.size ≠ b := by omega
  refine ⟨?_, ?_, ?_, ?_, ?_⟩
  · exact ((((((Below.refl b w).setCell (p := ⟨b, 1, none⟩) (Nat.le_refl _) v).trans (h.mono (Nat.le_of_lt hb))).setCell (p := ⟨b, 3, none⟩) (Nat.le_refl _) _).setCell (p := ⟨b, 4, none⟩) (Nat.le_refl _) _).drew.setCell (p := ⟨b, 0, none⟩) (Nat.le_refl _) _).setCell (p := ⟨b, 1, none⟩) (Nat.le_refl _) _
  · rw [World.cell?_setCell_other _ ⟨b, 1, none⟩ ⟨b, 3, none⟩ _ (by simp), World.cell?_setCell_other _ ⟨b, 0, none⟩ ⟨b, 3, none⟩ _ (by simp), World.cell?_drew, World.cell?_setCell_other _ ⟨b, 4, none⟩ ⟨b, 3, none⟩ _ (by simp)]
    exact World.cell?_setCell_same _ _ _ h3
  · exact (TabV.of_block (w := ((w1.setCell ⟨b, 3, none⟩ (ifa w.heap.size)).setCell ⟨b, 4, none⟩ (.slice none 0 0))) ((ht.other (by exact hne) _).other (by exact hne) _) rfl |>.other (by exact hne) _).other (by exact hne) _
  · obtain ⟨cur, q1, _⟩ := ht
    have := (Array.getElem?_eq_some_iff.1 q1).1
    simpa [World.setCell, World.drew] using this
  · simp only [World.frozen?_setCell, World.frozen?_drew]
    exact hz 3

set_option maxRecDepth 1000000 in
set_option maxHeartbeats 4000000 in
theorem slow_any (b g cap : Nat) (x3 : Value) (w : World) (hb : b < w.heap.size) (hg : g < w.heap.size) (hgb : g ≠ b) (hold : w.cell? ⟨b, 4, none⟩ = some (.slice (some ⟨g, 0, none⟩) 6 cap)) (h3 : w.cell? ⟨b, 3, none⟩ = some x3)
    (h0 : w.cell? ⟨b, 0, none⟩ = some (.int .u32 0)) (h1 : w.cell? ⟨b, 1, none⟩ = some (.int .i32 0)) (hz : ∀ o, w.frozen? ⟨b, o, none⟩ = false) (h6 : sixAt w g) :
    Calls Tryz.prog 142 #[.pointer (some ⟨b, 0, none⟩), .func (.func 139) #[.pointer (some ⟨b, 0, none⟩)] #[]] w fun e w' => e = .returned (.tuple #[]) ∧ Built b w.heap.size w w' := by
  have HL := Lib.hid (lock_free ⟨b, 1, none⟩ w h1 (hz 1))
  have hl := run_call_load (P := Tryz.prog) Tryz.func144 (by kernel_rfl) (by kernel_rfl) (by kernel_rfl) .u32 (by kernel_rfl) (w := w.setCell ⟨b, 1, none⟩ (.int .i32 1)) (a := ⟨b, 0, none⟩) (x := 0) ((World.cell?_setCell_other _ ⟨b, 1, none⟩ ⟨b, 0, none⟩ _ (by simp)).trans h0)
  have hnot : ∀ (x : Bool) (w : World), (Op.unary .not (.bool x)).run Tryz.prog w = .ok (.bool (!x)) w := fun _ _ => rfl
  have hs : (w.setCell ⟨b, 1, none⟩ (.int .i32 1)).heap.size = w.heap.size := by simp [World.setCell]
  have HO := Lib.hid (once_any b g cap x3 (w.setCell ⟨b, 1, none⟩ (.int .i32 1)) (by rw [hs]; exact hb) (by rw [hs]; exact hg) ((World.cell?_setCell_other _ ⟨b, 1, none⟩ ⟨b, 4, none⟩ _ (by simp)).trans hold) ((World.cell?_setCell_other _ ⟨b, 1, none⟩ ⟨b, 3, none⟩ _ (by simp)).trans h3)
    (by rw [World.frozen?_setCell]; exact hz 3) (by rw [World.frozen?_setCell]; exact hz 4) (h6.other (by exact fun e => hgb e.symm) _))
  rw [hs] at HO
  have HS := Lib.hid hs
  have H0 := Lib.hid h0
  have H1 := Lib.hid h1
  have H3 := Lib.hid h3
  have H4 := Lib.hid hold
  have HZ := Lib.hid hz
  clear hs h0 h1 h3 hold hz h6
  go_enter_defers Tryz.func142, Tryz.ntmps142
  go_wp2_with (go_at_call 145; refine HL.out.mono ?_; rintro e w' ⟨rfl, rfl⟩)
  go_wp2_with (first | (go_at_call 139; refine HO.out.mono ?_; rintro e w' ⟨rfl, w1, hbel, htab, rfl⟩; have HB1 := Lib.hid hbel; have HT := Lib.hid htab; clear hbel htab) | (go_at_call 141; go_in))
  have hsz : w.heap.size ≤ w1.heap.size := by
    have h1 := HB1.out.size
    have h2 := HS.out
    omega
  have hw1 : ∀ o v, o ≠ 1 → w.cell? ⟨b, o, none⟩ = some v → w1.cell? ⟨b, o, none⟩ = some v := fun o v ho hv =>
    (HB1.out.cell (p := ⟨b, o, none⟩) hb).trans ((World.cell?_setCell_other _ ⟨b, 1, none⟩ ⟨b, o, none⟩ _ (by simp <;> omega)).trans hv)
  have hw11 : w1.cell? ⟨b, 1, none⟩ = some (.int .i32 1) := (HB1.out.cell (p := ⟨b, 1, none⟩) hb).trans (World.cell?_setCell_same w ⟨b, 1, none⟩ _ H1.out)
  have hzz : ∀ o, w1.frozen? ⟨b, o, none⟩ = false := fun o => (HB1.out.frozen (p := ⟨b, o, none⟩) hb).trans ((World.frozen?_setCell _ _ _ _).trans (HZ.out o))
  refine leaves_cons (f := 147) (args := #[.pointer (some ⟨b, 0, none⟩), .bool true]) (by simp) (by simp [go_sem]) ?_
  refine (store_deferred ⟨b, 0, none⟩ (.int .u32 0) .returning _ ?_ (by simp [hzz])).mono ?_
  · exact (World.cell?_setCell_other _ ⟨b, 4, none⟩ ⟨b, 0, none⟩ _ (by simp)).trans ((World.cell?_setCell_other _ ⟨b, 3, none⟩ ⟨b, 0, none⟩ _ (by simp)).trans (hw1 0 _ (by decide) H0.out))
  rintro e u' w'' ⟨rfl, rfl, rfl⟩
  refine leaves_cons (f := 146) (args := #[.pointer (some ⟨b, 1, none⟩)]) (by simp [settle]) (by simp [go_sem]) ?_
  refine (unlock_deferred ⟨b, 1, none⟩ _ _ ?_ (by simp [hzz])).mono ?_
  · refine (World.cell?_setCell_other _ ⟨b, 0, none⟩ ⟨b, 1, none⟩ _ (by simp)).trans ?_
    rw [World.cell?_drew]
    exact (World.cell?_setCell_other _ ⟨b, 4, none⟩ ⟨b, 1, none⟩ _ (by simp)).trans ((World.cell?_setCell_other _ ⟨b, 3, none⟩ ⟨b, 1, none⟩ _ (by simp)).trans hw11)
  rintro e u' w'' ⟨rfl, rfl, rfl⟩
  simp [Leaves, settle, results, Tryz.results142]
  exact built_mk hb HB1.out HT.out (hw1 3 _ (by decide) H3.out) hzz

set_option maxRecDepth 1000000 in
set_option maxHeartbeats 4000000 in
theorem do_any (b g cap : Nat) (x3 : Value) (w : World) (hb : b < w.heap.size) (hg : g < w.heap.size) (hgb : g ≠ b) (hold : w.cell? ⟨b, 4, none⟩ = some (.slice (some ⟨g, 0, none⟩) 6 cap)) (h3 : w.cell? ⟨b, 3, none⟩ = some x3)
    (h0 : w.cell? ⟨b, 0, none⟩ = some (.int .u32 0)) (h1 : w.cell? ⟨b, 1, none⟩ = some (.int .i32 0)) (hz : ∀ o, w.frozen? ⟨b, o, none⟩ = false) (h6 : sixAt w g) :
    Calls Tryz.prog 138 #[.pointer (some ⟨b, 0, none⟩), .func (.func 139) #[.pointer (some ⟨b, 0, none⟩)] #[]] w fun e w' => e = .returned (.tuple #[]) ∧ Built b w.heap.size w w' := by
  have HS := Lib.hid (slow_any b g cap x3 w hb hg hgb hold h3 h0 h1 hz h6)
  have hl := run_call_load (P := Tryz.prog) Tryz.func144 (by kernel_rfl) (by kernel_rfl) (by kernel_rfl) .u32 (by kernel_rfl) h0
  have hnot : ∀ (x : Bool) (w : World), (Op.unary .not (.bool x)).run Tryz.prog w = .ok (.bool (!x)) w := fun _ _ => rfl
  clear hold h3 h0 h1 hz h6
  go_enter Tryz.func138, Tryz.ntmps138
  go_wp2_with (first | (go_at_call 142; refine HS.out.mono ?_; rintro e w' ⟨rfl, hbu⟩) | (go_at_call 141; go_in))
  go_end0
  exact ⟨rfl, hbu⟩

theorem method_rep (a : Addr) (w : World) : (method 333 175 (.pointer (some a)) "Replace").run Tryz.prog w = .ok (195, .pointer (some a)) w := by kernel_rfl

set_option maxRecDepth 1000000 in
set_option maxHeartbeats 4000000 in
theorem replacer_any (b g cap : Nat) (x3 : Value) (s : ByteArray) (w : World) (hsz : s.size ≤ 4294967281) (hb : b < w.heap.size) (hg : g < w.heap.size) (hgb : g ≠ b) (hold : w.cell? ⟨b, 4, none⟩ = some (.slice (some ⟨g, 0, none⟩) 6 cap)) (h3 : w.cell? ⟨b, 3, none⟩ = some x3)
    (h0 : w.cell? ⟨b, 0, none⟩ = some (.int .u32 0)) (h1 : w.cell? ⟨b, 1, none⟩ = some (.int .i32 0)) (hz : ∀ o, w.frozen? ⟨b, o, none⟩ = false) (h6 : sixAt w g) :
    Calls Tryz.prog 135 #[.pointer (some ⟨b, 0, none⟩), .string s] w fun e w' => e = .returned (.string ⟨(s.data.toList.map flatB).toArray⟩) ∧ Below b w w' := by
  have HS := Lib.hid (do_any b g cap x3 w hb hg hgb hold h3 h0 h1 hz h6)
  have hmf : ∀ (fn : Fn) (first cap : Array Value) (w : World), (Instr.makeFunc fn first cap).run Tryz.prog w = .ok (.func fn first cap) w := fun _ _ _ _ => rfl
  clear hold h3 h0 h1 hz h6
  go_enter Tryz.func135, Tryz.ntmps135
  go_wp2_with fail
  refine HS.out.mono ?_
  rintro e w1 ⟨rfl, hbel, hi, htab, hc, hf⟩
  replace hi : w1.cell? ⟨b, 3, none⟩ = some (.iface 175 (.pointer (some ⟨w.heap.size, 0, none⟩))) := hi
  have HR := Lib.hid (br_any w.heap.size s w1 hc hsz (fun x => by
    obtain ⟨cur, q1, q2, q3⟩ := htab
    have := q3 x
    simp only [World.cell?, q1]
    simpa [tabK] using this))
  have HT := Lib.hid htab
  clear htab
  have hm := method_rep ⟨w.heap.size, 0, none⟩ w1
  go_wp2_with (go_at_call 195; refine HR.out.mono ?_; rintro e w' ⟨rfl, hb2⟩)
  go_ret
  exact ⟨rfl, hbel.trans (hb2.mono (by have := hbel.size; omega))⟩
end Go.Mo
end

section
/-
  captioner/xml.flat: tabs, line feeds and carriage returns become blanks.
-/
set_option linter.all false
namespace Go.Mo
open Go Go.W Go.Proofs Go.RowKit

def six : List Value := [.string ⟨#[9]⟩, .string ⟨#[32]⟩, .string ⟨#[10]⟩, .string ⟨#[32]⟩, .string ⟨#[13]⟩, .string ⟨#[32]⟩]
def NewAt (w : World) (b : Nat) (w' : World) : Prop := ∃ g cap, w.heap.size ≤ b ∧ b < w'.heap.size ∧ g < w'.heap.size ∧ g ≠ b ∧ Below w.heap.size w w' ∧ w'.cell? ⟨b, 4, none⟩ = some (.slice (some ⟨g, 0, none⟩) 6 cap) ∧ w'.cell? ⟨b, 3, none⟩ = some .nilIface ∧
  w'.cell? ⟨b, 0, none⟩ = some (.int .u32 0) ∧ w'.cell? ⟨b, 1, none⟩ = some (.int .i32 0) ∧ (∀ o, w'.frozen? ⟨b, o, none⟩ = false) ∧ sixAt w' g
def NewP (w : World) (e : Ending) (w' : World) : Prop := ∃ b, e = .returned (.pointer (some ⟨b, 0, none⟩)) ∧ NewAt w b w'
theorem info9 : (Tryz.prog.info? 9).map (fun i => (i.zero, i.size, i.bytes)) = some (some (.string .empty), 1, 16) := by kernel_rfl

theorem new_at {w w1 : World} {v : Value} (h : w1.ownsRow w.heap.size 9 1 v 6 six) (hg : w.grownBy w1 none) : NewAt w w1.heap.size (w1.alloc (.cells #[.int .u32 0, .int .i32 0, .int .u32 0, .nilIface, v] 161)) := by
  rcases h.2 with ⟨_, h0⟩ | ⟨g, cap, cur, rfl, q1, q2, q3, q4, q5, q6⟩
  · cases h0
  have hgl := (Array.getElem?_eq_some_iff.1 q2).1
  refine ⟨g, cap, hg.size, by simp, by simp; omega, by omega, ?_, ?_, ?_, ?_, ?_, ?_, ?_⟩
  · exact ((Below.refl _ _).grown hg (Nat.le_refl _) (fun k hk => by cases hk)).alloc hg.size _
  · rw [World.cell?_alloc_at _ _ _ _ rfl]; rfl
  · rw [World.cell?_alloc_at _ _ _ _ rfl]; rfl
  · rw [World.cell?_alloc_at _ _ _ _ rfl]; rfl
  · rw [World.cell?_alloc_at _ _ _ _ rfl]; rfl
  · intro o
    exact World.frozen?_alloc_at _ _ _ _ rfl
  · intro j u hj
    rw [World.cell?_alloc_past _ _ _ hgl]
    have hj6 : j < 6 := by
      rcases Nat.lt_or_ge j 6 with h | h
      · exact h
      · rw [Array.getElem?_eq_none (by simpa using h)] at hj
        cases hj
    have := World.ownsRow.cellAt h j (by simpa using hj6)
    rw [this]
    have e : (#[Value.string ⟨#[9]⟩, .string ⟨#[32]⟩, .string ⟨#[10]⟩, .string ⟨#[32]⟩, .string ⟨#[13]⟩, .string ⟨#[32]⟩] : Array Value) = six.toArray := rfl
    rw [e] at hj
    simpa using hj

set_option maxRecDepth 1000000 in
set_option maxHeartbeats 4000000 in
theorem new_any (g : Nat) (w : World) (hc : ∀ j u, six[j]? = some u → w.cell? ((⟨g, 0, none⟩ : Addr).add j) = some u) : Calls Tryz.prog 134 #[.slice (some ⟨g, 0, none⟩) 6 6] w (NewP w) := by
  obtain ⟨i0, hi, hz0, hz1, hz2⟩ := info_parts info9
  have HC := Lib.hid hc
  clear hc
  go_enter Tryz.func134, Tryz.ntmps134
  go_wp2_with (first
      | (at_builtin; refine wpList_append_own _ rfl _ _ 68 rfl w.heap.size 9 i0 (.string .empty) 1 16 Tryz.underlying68 hi hz0 hz1 hz2 rfl (by decide) _ _ _ rfl (World.ownsRow_nil _ _ _ _) ⟨g, 0, none⟩ 6 6 six rfl rfl ?c1 ?c2 ?c3 ?c4 ?c5 ?_)
      | go_in)
  case c1 => exact HC.out
  case c2 => intro u hu; simp [six] at hu; rcases hu with rfl | rfl | rfl | rfl | rfl | rfl <;> rfl
  case c3 => unfold maxLen; omega
  case c4 => omega
  case c5 => exact Nat.le_refl _
  · intro v' w1 hown hgrow _
    obtain ⟨g2, cap2, rfl⟩ : ∃ g2 cap2, v' = .slice (some ⟨g2, 0, none⟩) 6 cap2 := by
      rcases hown.2 with ⟨_, h0⟩ | ⟨g2, cap2, cur, e, _⟩
      · cases h0
      · exact ⟨g2, cap2, e⟩
    have HO := Lib.hid hown
    have HG := Lib.hid hgrow
    clear hown hgrow
    go_wp2
    go_ret
    exact ⟨_, rfl, new_at HO.out HG.out⟩

set_option maxRecDepth 1000000 in
set_option maxHeartbeats 4000000 in
theorem flat_any (s : ByteArray) (w : World) (hs : s.size ≤ 4294967281) : Calls Tryz.prog 126 #[.string s] w fun e w' => e = .returned (.string ⟨(s.data.toList.map flatB).toArray⟩) ∧ Below w.heap.size w w' := by
  go_enter Tryz.func126, Tryz.ntmps126
  go_wp2_with fail
  have h0 : ∀ j u, six[j]? = some u → (w.alloc (.cells #[.string ⟨#[9]⟩, .string ⟨#[32]⟩, .string ⟨#[10]⟩, .string ⟨#[32]⟩, .string ⟨#[13]⟩, .string ⟨#[32]⟩] 9)).cell? ((⟨w.heap.size, 0, none⟩ : Addr).add j) = some u := fun j u hj => by
    have e : (⟨w.heap.size, 0, none⟩ : Addr).add j = ⟨w.heap.size, j, none⟩ := by simp [Addr.add, eq_comm]
    rw [e, World.cell?_alloc_at _ _ _ _ rfl]
    have : (#[Value.string ⟨#[9]⟩, .string ⟨#[32]⟩, .string ⟨#[10]⟩, .string ⟨#[32]⟩, .string ⟨#[13]⟩, .string ⟨#[32]⟩] : Array Value) = six.toArray := rfl
    rw [this]
    simpa using hj
  have hb0 : Below w.heap.size w (w.alloc (.cells #[.string ⟨#[9]⟩, .string ⟨#[32]⟩, .string ⟨#[10]⟩, .string ⟨#[32]⟩, .string ⟨#[13]⟩, .string ⟨#[32]⟩] 9)) := (Below.refl _ _).alloc (Nat.le_refl _) _
  refine (new_any w.heap.size _ h0).mono ?_
  rintro e w1 ⟨b, rfl, g, cap, p1, p2, p3, p4, p5, p6, p7, p8, p9, p10, p11⟩
  have HR := Lib.hid (replacer_any b g cap .nilIface s w1 hs p2 p3 p4 p6 p7 p8 p9 p10 p11)
  have hb1 : Below w.heap.size w w1 := hb0.trans (p5.mono (by simp))
  have hbb : w.heap.size ≤ b := Nat.le_trans (by simp) p1
  clear h0 hb0 p1 p2 p3 p4 p5 p6 p7 p8 p9 p10 p11
  go_wp2_with (go_at_call 135; refine HR.out.mono ?_; rintro e w' ⟨rfl, hb2⟩)
  go_ret
  exact ⟨rfl, hb1.trans (hb2.mono hbb)⟩
end Go.Mo
end

section
/-
  The table of types of this program, as the machine on plain values sees them, and the package variables that are known.
-/
namespace Go.Mo
open Go Go.W Go.Proofs
noncomputable section
def tt : List (Option Ty) := [none,
  none,
  some (.int .i64),
  some (.int .i64),
  some (.bool),
  some (.u8),
  none,
  none,
  none,
  some (.str),
  none,
  none,
  some (.int .u64),
  none,
  none,
  some (.nptr),
  some (.nptr),
  some (.nptr),
  none,
  none,
  some (.nif),
  some (.int .i32),
  none,
  none,
  some (.int .i64),
  none,
  none,
  none,
  some (.slice (.st (.pair (.str) (.pair (.str) (.pair (.slice (.st (.pair (.str) (.str)))) (.int .i64)))))),
  none,
  none,
  none,
  none,
  some (.slice (.st (.pair (.int .i64) (.pair (.int .i64) (.int .i64))))),
  none,
  none,
  none,
  none,
  some (.st (.pair (.int .i64) (.pair (.int .i64) (.int .i64)))),
  some (.st (.pair (.int .i64) (.pair (.int .i64) (.int .i64)))),
  none,
  some (.slice (.st (.pair (.str) (.str)))),
  some (.st (.pair (.str) (.pair (.str) (.pair (.slice (.st (.pair (.str) (.str)))) (.int .i64))))),
  some (.st (.pair (.str) (.pair (.str) (.pair (.slice (.st (.pair (.str) (.str)))) (.int .i64))))),
  some (.st (.pair (.str) (.str))),
  some (.st (.pair (.str) (.str))),
  some (.slice (.int .i64)),
  none,
  none,
  none,
  none,
  none,
  some (.nptr),
  some (.slice (.u8)),
  some (.st (.pair (.nptr) (.slice (.u8)))),
  some (.st (.pair (.nptr) (.slice (.u8)))),
  none,
  none,
  some (.nif),
  some (.nif),
  none,
  none,
  none,
  none,
  some (.arr 2 (.str)),
  some (.arr 5 (.arr 2 (.str))),
  none,
  none,
  some (.slice (.str)),
  none,
  none,
  none,
  none,
  none,
  some (.nptr),
  some (.st (.pair (.slice (.st (.pair (.str) (.pair (.str) (.pair (.slice (.st (.pair (.str) (.str)))) (.int .i64)))))) (.pair (.slice (.str)) (.bool)))),
  some (.st (.pair (.slice (.st (.pair (.str) (.pair (.str) (.pair (.slice (.st (.pair (.str) (.str)))) (.int .i64)))))) (.pair (.slice (.str)) (.bool)))),
  some (.st (.pair (.int .i64) (.pair (.str) (.pair (.slice (.st (.pair (.str) (.str)))) (.str))))),
  some (.st (.pair (.int .i64) (.pair (.str) (.pair (.slice (.st (.pair (.str) (.str)))) (.str))))),
  none,
  none,
  none,
  some (.nptr),
  some (.st (.pair (.slice (.st (.pair (.str) (.pair (.str) (.pair (.slice (.st (.pair (.str) (.str)))) (.int .i64)))))) (.pair (.slice (.str)) (.pair (.bool) (.bool))))),
  some (.st (.pair (.slice (.st (.pair (.str) (.pair (.str) (.pair (.slice (.st (.pair (.str) (.str)))) (.int .i64)))))) (.pair (.slice (.str)) (.pair (.bool) (.bool))))),
  some (.st (.pair (.int .i64) (.pair (.int .i64) (.pair (.str) (.slice (.st (.pair (.str) (.str)))))))),
  some (.st (.pair (.int .i64) (.pair (.int .i64) (.pair (.str) (.slice (.st (.pair (.str) (.str)))))))),
  none,
  none,
  none,
  none,
  none,
  none,
  none,
  some (.nptr),
  none,
  none,
  some (.slice (.int .i32)),
  none,
  none,
  none,
  none,
  some (.arr 2 (.arr 2 (.str))),
  none,
  none,
  none,
  none,
  none,
  none,
  none,
  none,
  none,
  some (.arr 256 (.u8)),
  some (.st (.pair (.u8) (.u8))),
  some (.st (.pair (.u8) (.u8))),
  some (.arr 16 (.st (.pair (.u8) (.u8)))),
  some (.int .u64),
  none,
  none,
  none,
  none,
  none,
  none,
  none,
  none,
  none,
  none,
  none,
  none,
  none,
  none,
  some (.int .u64),
  some (.int .u32),
  none,
  none,
  none,
  none,
  some (.arr 256 (.bool)),
  some (.arr 256 (.bool)),
  none,
  none,
  none,
  some (.nptr),
  none,
  none,
  some (.nptr),
  none,
  none,
  none,
  none,
  none,
  none,
  some (.st (.pair (.int .i32) (.int .u32))),
  some (.st (.pair (.int .i32) (.int .u32))),
  none,
  none,
  none,
  none,
  some (.nif),
  some (.nif),
  none,
  none,
  none,
  none,
  some (.nptr),
  none,
  some (.nptr),
  none,
  some (.nptr),
  none,
  some (.nptr),
  none,
  some (.nptr),
  none,
  some (.arr 256 (.u8)),
  some (.nptr),
  some (.arr 256 (.slice (.u8))),
  some (.st (.pair (.arr 256 (.slice (.u8))) (.slice (.str)))),
  some (.st (.pair (.arr 256 (.slice (.u8))) (.slice (.str)))),
  some (.nptr),
  some (.nptr),
  none,
  none,
  some (.nptr),
  none,
  some (.st (.pair (.nptr) (.str))),
  some (.st (.pair (.nptr) (.str))),
  some (.nptr),
  some (.slice (.nptr)),
  some (.st (.pair (.str) (.pair (.int .i64) (.pair (.str) (.pair (.nptr) (.slice (.nptr))))))),
  some (.st (.pair (.str) (.pair (.int .i64) (.pair (.str) (.pair (.nptr) (.slice (.nptr))))))),
  some (.st (.pair (.st (.pair (.str) (.pair (.int .i64) (.pair (.str) (.pair (.nptr) (.slice (.nptr))))))) (.pair (.int .i64) (.arr 256 (.u8))))),
  some (.st (.pair (.st (.pair (.str) (.pair (.int .i64) (.pair (.str) (.pair (.nptr) (.slice (.nptr))))))) (.pair (.int .i64) (.arr 256 (.u8))))),
  none,
  some (.nptr),
  none,
  some (.nptr),
  none,
  none,
  none,
  some (.arr 256 (.int .i64)),
  some (.st (.pair (.str) (.pair (.arr 256 (.int .i64)) (.slice (.int .i64))))),
  some (.st (.pair (.str) (.pair (.arr 256 (.int .i64)) (.slice (.int .i64))))),
  none,
  none,
  none,
  none,
  none,
  none,
  none,
  none,
  none,
  none,
  none,
  none,
  none,
  none,
  none,
  none,
  none,
  some (.slice (.u8)),
  some (.nptr),
  some (.nif),
  some (.nif),
  some (.nif),
  some (.nif),
  none,
  none,
  none,
  none,
  some (.st (.nif)),
  some (.st (.nif)),
  none]
def gl0 : List (List (List UInt8)) := [[[38, 97, 109, 112, 59], [38]], [[38, 108, 116, 59], [60]], [[38, 103, 116, 59], [62]], [[38, 113, 117, 111, 116, 59], [34]], [[38, 97, 112, 111, 115, 59], [39]]]
def gl1 : List UInt8 := Go.Pinned.utf8FirstZ.map fun n => UInt8.ofNat n
def gl2 : List (UInt8 × UInt8) := [(128, 191), (160, 191), (128, 159), (144, 191), (128, 143), (0, 0), (0, 0), (0, 0), (0, 0), (0, 0), (0, 0), (0, 0), (0, 0), (0, 0), (0, 0), (0, 0)]
noncomputable def E : Env := ⟨Tryz.prog, tt, [(0, ⟨.arr 5 (.arr 2 (.str)), gl0⟩), (1, ⟨.arr 256 (.u8), gl1⟩), (2, ⟨.arr 16 (.st (.pair (.u8) (.u8))), gl2⟩)], some 129, some (39, 55), [3]⟩
set_option maxRecDepth 100000 in
theorem chk : chkAll E 0 E.ty = true := by kernel_rfl
theorem mixed : E.P.follows .mixedOrders = true := by kernel_rfl
end
end Go.Mo
end

section
/-
  What the functions of the program compute, on plain values. Printed by a program.
-/
namespace Go.Mo
open Go Go.W
noncomputable section
def ps_utf8_RuneCountInString : List PK := [.k (.v (.str) [])]
def rs_utf8_RuneCountInString : List Kd := [.v (.int .i64) []]
def utf8_RuneCountInString (N : Nat) (x : List UInt8) : Option (Int) :=
 jn (fun (v0 : Int) =>
  some v0)
 fun v1 =>
 fixN (fun v2 (v3 : Int × (List UInt8) × Int) =>
  cnd (nlt (toN v3.2.2) (nlen v3.2.1))
   (v2 (w64 (iadd v3.1 (1 : Int)), v3.2.1, ofN (nadd (toN v3.2.2) (decW v3.2.1 (toN v3.2.2)))))
   (v1 v3.1)) N ((0 : Int), x, ofN 0)
def ps_bytealg_CountString : List PK := [.k (.v (.str) []), .k (.v (.u8) [])]
def rs_bytealg_CountString : List Kd := [.v (.int .i64) []]
def bytealg_CountString (N : Nat) (x : List UInt8 × UInt8) : Option (Int) := hand_bytealg_CountString N x
def ps_strings_Index : List PK := [.k (.v (.str) []), .k (.v (.str) [])]
def rs_strings_Index : List Kd := [.v (.int .i64) []]
def strings_Index (N : Nat) (x : List UInt8 × List UInt8) : Option (Int) := hand_strings_Index N x
def ps_strings_Count : List PK := [.k (.v (.str) []), .k (.v (.str) [])]
def rs_strings_Count : List Kd := [.v (.int .i64) []]
def strings_Count (N : Nat) (x : List UInt8 × List UInt8) : Option (Int) :=
 cnd (ieq (len x.2) (0 : Int))
  (bnd (utf8_RuneCountInString N x.1) fun v0 =>
  some (w64 (iadd v0 (1 : Int))))
  (cnd (ieq (len x.2) (1 : Int))
   (grd (inb (0 : Int) (len x.2))
    (bnd (bytealg_CountString N (x.1, lget x.2 (toN (0 : Int)) (0 : UInt8))) fun v1 =>
    some v1))
   (fixN (fun v2 (v3 : (List UInt8) × Int) =>
    bnd (strings_Index N (v3.1, x.2)) fun v4 =>
    cnd (ieq v4 (-1 : Int))
     (some v3.2)
     (grd (in2 (w64 (iadd v4 (len x.2))) (len v3.1))
      (v2 (ldrop (toN (w64 (iadd v4 (len x.2)))) v3.1, w64 (iadd v3.2 (1 : Int)))))) N (x.1, (0 : Int))))
def ps_bytealg_LastIndexByteString : List PK := [.k (.v (.str) []), .k (.v (.u8) [])]
def rs_bytealg_LastIndexByteString : List Kd := [.v (.int .i64) []]
def bytealg_LastIndexByteString (N : Nat) (x : List UInt8 × UInt8) : Option (Int) :=
 jn (fun (v0 : Unit) =>
  some (-1 : Int))
 fun v1 =>
 fixN (fun v2 (v3 : Int) =>
  cnd (ile (0 : Int) v3)
   (grd (inb v3 (len x.1))
    (cnd (ieq (n8 (lget x.1 (toN v3) (0 : UInt8))) (n8 x.2))
     (some v3)
     (v2 (w64 (isub v3 (1 : Int))))))
   (v1 ())) N (w64 (isub (len x.1) (1 : Int)))
def ps_bytealg_hashStrRev_string : List PK := [.k (.v (.str) [])]
def rs_bytealg_hashStrRev_string : List Kd := [.v (.int .u32) [], .v (.int .u32) []]
def bytealg_hashStrRev_string (N : Nat) (x : List UInt8) : Option (Int × Int) :=
 jn (fun (v0 : Int) =>
  jn (fun (v1 : Int) =>
   some (v0, v1))
  fun v2 =>
  fixN (fun v3 (v4 : Int × Int × Int) =>
   cnd (ilt (0 : Int) v4.2.2)
    (cnd (ine (bitb .and .i64 v4.2.2 (1 : Int)) (0 : Int))
     (v3 (wr .u32 (imul v4.1 v4.2.1), wr .u32 (imul v4.2.1 v4.2.1), shrk .i64 v4.2.2 (1 : Int)))
     (v3 (v4.1, wr .u32 (imul v4.2.1 v4.2.1), shrk .i64 v4.2.2 (1 : Int))))
    (v2 v4.1)) N ((1 : Int), (16777619 : Int), len x))
 fun v5 =>
 fixN (fun v6 (v7 : Int × Int) =>
  cnd (ile (0 : Int) v7.2)
   (grd (inb v7.2 (len x))
    (v6 (wr .u32 (iadd (wr .u32 (imul v7.1 (16777619 : Int))) (wr .u32 (n8 (lget x (toN v7.2) (0 : UInt8))))), w64 (isub v7.2 (1 : Int)))))
   (v5 v7.1)) N ((0 : Int), w64 (isub (len x) (1 : Int)))
def ps_bytealg_LastIndexRabinKarp_string : List PK := [.k (.v (.str) []), .k (.v (.str) [])]
def rs_bytealg_LastIndexRabinKarp_string : List Kd := [.v (.int .i64) []]
def bytealg_LastIndexRabinKarp_string (N : Nat) (x : List UInt8 × List UInt8) : Option (Int) :=
 bnd (bytealg_hashStrRev_string N x.2) fun v0 =>
 jn (fun (v1 : Int) =>
  jn (fun (v2 : Unit) =>
   jn (fun (v3 : Unit) =>
    some (-1 : Int))
   fun v4 =>
   fixN (fun v5 (v6 : Int × Int) =>
    cnd (ile (0 : Int) v6.2)
     (grd (inb v6.2 (len x.1))
      (grd (inb (w64 (iadd v6.2 (len x.2))) (len x.1))
       (cnd (ieq (wr .u32 (isub (wr .u32 (iadd (wr .u32 (imul v6.1 (16777619 : Int))) (wr .u32 (n8 (lget x.1 (toN v6.2) (0 : UInt8)))))) (wr .u32 (imul v0.2 (wr .u32 (n8 (lget x.1 (toN (w64 (iadd v6.2 (len x.2)))) (0 : UInt8)))))))) v0.1)
        (grd (in3 v6.2 (w64 (iadd v6.2 (len x.2))) (len x.1))
         (cnd (seq (ldrop (toN v6.2) (ltake (toN (w64 (iadd v6.2 (len x.2)))) x.1)) x.2)
          (some v6.2)
          (v5 (wr .u32 (isub (wr .u32 (iadd (wr .u32 (imul v6.1 (16777619 : Int))) (wr .u32 (n8 (lget x.1 (toN v6.2) (0 : UInt8)))))) (wr .u32 (imul v0.2 (wr .u32 (n8 (lget x.1 (toN (w64 (iadd v6.2 (len x.2)))) (0 : UInt8))))))), w64 (isub v6.2 (1 : Int))))))
        (v5 (wr .u32 (isub (wr .u32 (iadd (wr .u32 (imul v6.1 (16777619 : Int))) (wr .u32 (n8 (lget x.1 (toN v6.2) (0 : UInt8)))))) (wr .u32 (imul v0.2 (wr .u32 (n8 (lget x.1 (toN (w64 (iadd v6.2 (len x.2)))) (0 : UInt8))))))), w64 (isub v6.2 (1 : Int)))))))
     (v4 ())) N (v1, w64 (isub (w64 (isub (len x.1) (len x.2))) (1 : Int))))
  fun v7 =>
  cnd (ieq v1 v0.1)
   (grd (in2 (w64 (isub (len x.1) (len x.2))) (len x.1))
    (cnd (seq (ldrop (toN (w64 (isub (len x.1) (len x.2)))) x.1) x.2)
     (some (w64 (isub (len x.1) (len x.2))))
     (v7 ())))
   (v7 ()))
 fun v8 =>
 fixN (fun v9 (v10 : Int × Int) =>
  cnd (ile (w64 (isub (len x.1) (len x.2))) v10.2)
   (grd (inb v10.2 (len x.1))
    (v9 (wr .u32 (iadd (wr .u32 (imul v10.1 (16777619 : Int))) (wr .u32 (n8 (lget x.1 (toN v10.2) (0 : UInt8))))), w64 (isub v10.2 (1 : Int)))))
   (v8 v10.1)) N ((0 : Int), w64 (isub (len x.1) (1 : Int)))
def ps_strings_LastIndex : List PK := [.k (.v (.str) []), .k (.v (.str) [])]
def rs_strings_LastIndex : List Kd := [.v (.int .i64) []]
def strings_LastIndex (N : Nat) (x : List UInt8 × List UInt8) : Option (Int) :=
 cnd (ieq (len x.2) (0 : Int))
  (some (len x.1))
  (cnd (ieq (len x.2) (1 : Int))
   (grd (inb (0 : Int) (len x.2))
    (bnd (bytealg_LastIndexByteString N (x.1, lget x.2 (toN (0 : Int)) (0 : UInt8))) fun v0 =>
    some v0))
   (cnd (ieq (len x.2) (len x.1))
    (cnd (seq x.2 x.1)
     (some (0 : Int))
     (some (-1 : Int)))
    (cnd (ilt (len x.1) (len x.2))
     (some (-1 : Int))
     (bnd (bytealg_LastIndexRabinKarp_string N x) fun v1 =>
     some v1))))
def ps_xml_at : List PK := [.k (.v (.str) []), .k (.v (.int .i64) []), .k (.v (.int .i64) [])]
def rs_xml_at : List Kd := [.v (.slice (.st (.pair (.int .i64) (.pair (.int .i64) (.int .i64))))) [0]]
def xml_at (N : Nat) (x : List UInt8 × Int × Int) : Option (List (Int × Int × Int)) :=
 grd (in2 x.2.1 (len x.1)) <|
 bnd (strings_Count N (ltake (toN x.2.1) x.1, ([10] : List UInt8))) fun v0 =>
 grd (in2 x.2.1 (len x.1)) <|
 bnd (strings_LastIndex N (ltake (toN x.2.1) x.1, ([10] : List UInt8))) fun v1 =>
 some ([(w64 (iadd (1 : Int) v0), w64 (isub x.2.1 v1), x.2.2)] : List (Int × Int × Int))
def ps_bytealg_IndexByteString : List PK := [.k (.v (.str) []), .k (.v (.u8) [])]
def rs_bytealg_IndexByteString : List Kd := [.v (.int .i64) []]
def bytealg_IndexByteString (N : Nat) (x : List UInt8 × UInt8) : Option (Int) := hand_bytealg_IndexByteString N x
def ps_stringslite_IndexByte : List PK := [.k (.v (.str) []), .k (.v (.u8) [])]
def rs_stringslite_IndexByte : List Kd := [.v (.int .i64) []]
def stringslite_IndexByte (N : Nat) (x : List UInt8 × UInt8) : Option (Int) :=
 bnd (bytealg_IndexByteString N x) fun v0 =>
 some v0
def ps_strings_IndexByte : List PK := [.k (.v (.str) []), .k (.v (.u8) [])]
def rs_strings_IndexByte : List Kd := [.v (.int .i64) []]
def strings_IndexByte (N : Nat) (x : List UInt8 × UInt8) : Option (Int) :=
 bnd (stringslite_IndexByte N x) fun v0 =>
 some v0
def ps_stringslite_HasPrefix : List PK := [.k (.v (.str) []), .k (.v (.str) [])]
def rs_stringslite_HasPrefix : List Kd := [.v (.bool) []]
def stringslite_HasPrefix (N : Nat) (x : List UInt8 × List UInt8) : Option (Bool) :=
 cnd (ile (len x.2) (len x.1))
  (grd (in2 (len x.2) (len x.1))
   (some (seq (ltake (toN (len x.2)) x.1) x.2)))
  (some false)
def ps_strings_HasPrefix : List PK := [.k (.v (.str) []), .k (.v (.str) [])]
def rs_strings_HasPrefix : List Kd := [.v (.bool) []]
def strings_HasPrefix (N : Nat) (x : List UInt8 × List UInt8) : Option (Bool) :=
 bnd (stringslite_HasPrefix N x) fun v0 =>
 some v0
def ps_xml_letter : List PK := [.k (.v (.u8) [])]
def rs_xml_letter : List Kd := [.v (.bool) []]
def xml_letter (N : Nat) (x : UInt8) : Option (Bool) :=
 cnd (ile (n8 (97 : UInt8)) (n8 x))
  (cnd (ile (n8 x) (n8 (122 : UInt8)))
   (some true)
   (cnd (ile (n8 (65 : UInt8)) (n8 x))
    (some (ile (n8 x) (n8 (90 : UInt8))))
    (some false)))
  (cnd (ile (n8 (65 : UInt8)) (n8 x))
   (some (ile (n8 x) (n8 (90 : UInt8))))
   (some false))
def ps_xml_nameByte : List PK := [.k (.v (.u8) [])]
def rs_xml_nameByte : List Kd := [.v (.bool) []]
def xml_nameByte (N : Nat) (x : UInt8) : Option (Bool) :=
 bnd (xml_letter N x) fun v0 =>
 cnd v0
  (some true)
  (cnd (ile (n8 (48 : UInt8)) (n8 x))
   (cnd (ile (n8 x) (n8 (57 : UInt8)))
    (some true)
    (some (ieq (n8 x) (n8 (45 : UInt8)))))
   (some (ieq (n8 x) (n8 (45 : UInt8)))))
def ps_xml_word : List PK := [.k (.v (.str) []), .k (.v (.int .i64) [])]
def rs_xml_word : List Kd := [.v (.str) [], .v (.int .i64) []]
def xml_word (N : Nat) (x : List UInt8 × Int) : Option (List UInt8 × Int) :=
 cnd (ile (len x.1) x.2)
  (some (([] : List UInt8), x.2))
  (grd (inb x.2 (len x.1))
   (bnd (xml_letter N (lget x.1 (toN x.2) (0 : UInt8))) fun v0 =>
   cnd (bnot v0)
    (some (([] : List UInt8), x.2))
    (jn (fun (v1 : Int) =>
     grd (in3 x.2 v1 (len x.1)) <|
     some (ldrop (toN x.2) (ltake (toN v1) x.1), v1))
    fun v2 =>
    fixN (fun v3 (v4 : Int) =>
     cnd (ilt v4 (len x.1))
      (grd (inb v4 (len x.1))
       (bnd (xml_nameByte N (lget x.1 (toN v4) (0 : UInt8))) fun v5 =>
       cnd v5
        (v3 (w64 (iadd v4 (1 : Int))))
        (v2 v4)))
      (v2 v4)) N x.2)))
def ps_xml_white : List PK := [.k (.v (.u8) [])]
def rs_xml_white : List Kd := [.v (.bool) []]
def xml_white (N : Nat) (x : UInt8) : Option (Bool) :=
 cnd (ieq (n8 x) (n8 (9 : UInt8)))
  (some true)
  (cnd (ieq (n8 x) (n8 (10 : UInt8)))
   (some true)
   (cnd (ieq (n8 x) (n8 (13 : UInt8)))
    (some true)
    (some (ieq (n8 x) (n8 (32 : UInt8))))))
def ps_xml_blanks : List PK := [.k (.v (.str) []), .k (.v (.int .i64) [])]
def rs_xml_blanks : List Kd := [.v (.int .i64) []]
def xml_blanks (N : Nat) (x : List UInt8 × Int) : Option (Int) :=
 jn (fun (v0 : Int) =>
  some v0)
 fun v1 =>
 fixN (fun v2 (v3 : Int) =>
  cnd (ilt v3 (len x.1))
   (grd (inb v3 (len x.1))
    (bnd (xml_white N (lget x.1 (toN v3) (0 : UInt8))) fun v4 =>
    cnd v4
     (v2 (w64 (iadd v3 (1 : Int))))
     (v1 v3)))
   (v1 v3)) N x.2
def ps_xml_attribute : List PK := [.k (.v (.str) []), .k (.v (.int .i64) [])]
def rs_xml_attribute : List Kd := [.v (.st (.pair (.str) (.str))) [], .v (.int .i64) [], .v (.bool) []]
def xml_attribute (N : Nat) (x : List UInt8 × Int) : Option (((List UInt8) × List UInt8) × Int × Bool) :=
 bnd (xml_word N x) fun v0 =>
 cnd (seq v0.1 ([] : List UInt8))
  (some ((([] : List UInt8), ([] : List UInt8)), (0 : Int), false))
  (bnd (xml_blanks N (x.1, v0.2)) fun v1 =>
  cnd (ile (len x.1) v1)
   (some ((([] : List UInt8), ([] : List UInt8)), (0 : Int), false))
   (grd (inb v1 (len x.1))
    (cnd (ine (n8 (lget x.1 (toN v1) (0 : UInt8))) (n8 (61 : UInt8)))
     (some ((([] : List UInt8), ([] : List UInt8)), (0 : Int), false))
     (bnd (xml_blanks N (x.1, w64 (iadd v1 (1 : Int)))) fun v2 =>
     jn (fun (v3 : Unit) =>
      jn (fun (v4 : Int) =>
       cnd (ile (len x.1) v4)
        (some ((([] : List UInt8), ([] : List UInt8)), (0 : Int), false))
        (grd (inb v4 (len x.1))
         (grd (inb v2 (len x.1))
          (cnd (ine (n8 (lget x.1 (toN v4) (0 : UInt8))) (n8 (lget x.1 (toN v2) (0 : UInt8))))
           (some ((([] : List UInt8), ([] : List UInt8)), (0 : Int), false))
           (grd (in3 (w64 (iadd v2 (1 : Int))) v4 (len x.1))
            (some ((v0.1, ldrop (toN (w64 (iadd v2 (1 : Int)))) (ltake (toN v4) x.1)), w64 (iadd v4 (1 : Int)), true)))))))
      fun v5 =>
      fixN (fun v6 (v7 : Int) =>
       cnd (ilt v7 (len x.1))
        (grd (inb v7 (len x.1))
         (grd (inb v2 (len x.1))
          (cnd (ine (n8 (lget x.1 (toN v7) (0 : UInt8))) (n8 (lget x.1 (toN v2) (0 : UInt8))))
           (grd (inb v7 (len x.1))
            (cnd (ine (n8 (lget x.1 (toN v7) (0 : UInt8))) (n8 (60 : UInt8)))
             (v6 (w64 (iadd v7 (1 : Int))))
             (v5 v7)))
           (v5 v7))))
        (v5 v7)) N (w64 (iadd v2 (1 : Int))))
     fun v8 =>
     cnd (ile (len x.1) v2)
      (some ((([] : List UInt8), ([] : List UInt8)), (0 : Int), false))
      (grd (inb v2 (len x.1))
       (cnd (ine (n8 (lget x.1 (toN v2) (0 : UInt8))) (n8 (34 : UInt8)))
        (grd (inb v2 (len x.1))
         (cnd (ine (n8 (lget x.1 (toN v2) (0 : UInt8))) (n8 (39 : UInt8)))
          (some ((([] : List UInt8), ([] : List UInt8)), (0 : Int), false))
          (v8 ())))
        (v8 ())))))))
def ps_xml_startTag : List PK := [.k (.v (.str) [])]
def rs_xml_startTag : List Kd := [.v (.st (.pair (.int .i64) (.pair (.str) (.pair (.slice (.st (.pair (.str) (.str)))) (.str))))) [2], .v (.int .i64) [], .v (.bool) []]
def xml_startTag (N : Nat) (x : List UInt8) : Option ((Int × (List UInt8) × (List ((List UInt8) × List UInt8)) × List UInt8) × Int × Bool) :=
 bnd (xml_word N (x, (1 : Int))) fun v0 =>
 cnd (seq v0.1 ([] : List UInt8))
  (some (((0 : Int), ([] : List UInt8), ([] : List ((List UInt8) × List UInt8)), ([] : List UInt8)), (0 : Int), false))
  (fixN (fun v1 (v2 : Int × Int × (List UInt8) × (List ((List UInt8) × List UInt8)) × List UInt8) =>
   bnd (xml_blanks N (x, v2.1)) fun v3 =>
   jn (fun (v4 : Bool) =>
    cnd v4
     (some (v2.2, w64 (iadd v3 (1 : Int)), true))
     (jn (fun (v5 : Bool) =>
      cnd v5
       (some (((3 : Int), v2.2.2), w64 (iadd v3 (2 : Int)), true))
       (cnd (ieq v3 v2.1)
        (some (((0 : Int), ([] : List UInt8), ([] : List ((List UInt8) × List UInt8)), ([] : List UInt8)), (0 : Int), false))
        (bnd (xml_attribute N (x, v3)) fun v6 =>
        cnd (bnot v6.2.2)
         (some (((0 : Int), ([] : List UInt8), ([] : List ((List UInt8) × List UInt8)), ([] : List UInt8)), (0 : Int), false))
         (grd (room (iadd (len v2.2.2.2.1) (len ([v6.1] : List ((List UInt8) × List UInt8)))) 32)
          (v1 (v6.2.1, v2.2.1, v2.2.2.1, lapp v2.2.2.2.1 ([v6.1] : List ((List UInt8) × List UInt8)), v2.2.2.2.2))))))
     fun v7 =>
     cnd (ilt (w64 (iadd v3 (1 : Int))) (len x))
      (grd (inb v3 (len x))
       (cnd (ieq (n8 (lget x (toN v3) (0 : UInt8))) (n8 (47 : UInt8)))
        (grd (inb (w64 (iadd v3 (1 : Int))) (len x))
         (v7 (ieq (n8 (lget x (toN (w64 (iadd v3 (1 : Int)))) (0 : UInt8))) (n8 (62 : UInt8)))))
        (v7 false)))
      (v7 false)))
   fun v8 =>
   cnd (ilt v3 (len x))
    (grd (inb v3 (len x))
     (v8 (ieq (n8 (lget x (toN v3) (0 : UInt8))) (n8 (62 : UInt8)))))
    (v8 false)) N (v0.2, (1 : Int), v0.1, ([] : List ((List UInt8) × List UInt8)), ([] : List UInt8)))
def ps_xml_next : List PK := [.k (.v (.str) [])]
def rs_xml_next : List Kd := [.v (.st (.pair (.int .i64) (.pair (.str) (.pair (.slice (.st (.pair (.str) (.str)))) (.str))))) [2], .v (.int .i64) [], .v (.bool) []]
def xml_next (N : Nat) (x : List UInt8) : Option ((Int × (List UInt8) × (List ((List UInt8) × List UInt8)) × List UInt8) × Int × Bool) :=
 grd (inb (0 : Int) (len x)) <|
 cnd (ine (n8 (lget x (toN (0 : Int)) (0 : UInt8))) (n8 (60 : UInt8)))
  (bnd (strings_IndexByte N (x, (60 : UInt8))) fun v0 =>
  cnd (ilt v0 (0 : Int))
   (grd (in2 (len x) (len x))
    (some (((0 : Int), ([] : List UInt8), ([] : List ((List UInt8) × List UInt8)), ltake (toN (len x)) x), len x, true)))
   (grd (in2 v0 (len x))
    (some (((0 : Int), ([] : List UInt8), ([] : List ((List UInt8) × List UInt8)), ltake (toN v0) x), v0, true))))
  (jn (fun (v1 : Unit) =>
   bnd (strings_HasPrefix N (x, ([60, 47] : List UInt8))) fun v2 =>
   cnd v2
    (bnd (xml_word N (x, (2 : Int))) fun v3 =>
    bnd (xml_blanks N (x, v3.2)) fun v4 =>
    cnd (seq v3.1 ([] : List UInt8))
     (some (((0 : Int), ([] : List UInt8), ([] : List ((List UInt8) × List UInt8)), ([] : List UInt8)), (0 : Int), false))
     (cnd (ile (len x) v4)
      (some (((0 : Int), ([] : List UInt8), ([] : List ((List UInt8) × List UInt8)), ([] : List UInt8)), (0 : Int), false))
      (grd (inb v4 (len x))
       (cnd (ine (n8 (lget x (toN v4) (0 : UInt8))) (n8 (62 : UInt8)))
        (some (((0 : Int), ([] : List UInt8), ([] : List ((List UInt8) × List UInt8)), ([] : List UInt8)), (0 : Int), false))
        (some (((2 : Int), v3.1, ([] : List ((List UInt8) × List UInt8)), ([] : List UInt8)), w64 (iadd v4 (1 : Int)), true))))))
    (bnd (xml_startTag N x) fun v5 =>
    some v5))
  fun v6 =>
  fixN (fun v7 (v8 : Int) =>
   cnd (ilt v8 (2 : Int))
    (grd (inb v8 (ofN 2))
     (grd (ieq (len (lrep 2 ([] : List UInt8))) (ofN 2))
      (grd (inb (0 : Int) (ofN 2))
       (grd (ilt (0 : Int) (len ([lget (lget ([([([60, 63] : List UInt8), ([63, 62] : List UInt8)] : List (List UInt8)), ([([60, 33, 45, 45] : List UInt8), ([45, 45, 62] : List UInt8)] : List (List UInt8))] : List (List (List UInt8))) (toN v8) (lrep 2 [])) 0 [], lget (lget ([([([60, 63] : List UInt8), ([63, 62] : List UInt8)] : List (List UInt8)), ([([60, 33, 45, 45] : List UInt8), ([45, 45, 62] : List UInt8)] : List (List UInt8))] : List (List (List UInt8))) (toN v8) (lrep 2 [])) 1 []] : List (List UInt8))))
        (bnd (strings_HasPrefix N (x, lget ([lget (lget ([([([60, 63] : List UInt8), ([63, 62] : List UInt8)] : List (List UInt8)), ([([60, 33, 45, 45] : List UInt8), ([45, 45, 62] : List UInt8)] : List (List UInt8))] : List (List (List UInt8))) (toN v8) (lrep 2 [])) 0 [], lget (lget ([([([60, 63] : List UInt8), ([63, 62] : List UInt8)] : List (List UInt8)), ([([60, 33, 45, 45] : List UInt8), ([45, 45, 62] : List UInt8)] : List (List UInt8))] : List (List (List UInt8))) (toN v8) (lrep 2 [])) 1 []] : List (List UInt8)) (toN (0 : Int)) [])) fun v9 =>
        cnd v9
         (grd (inb (0 : Int) (ofN 2))
          (grd (ilt (0 : Int) (len ([lget (lget ([([([60, 63] : List UInt8), ([63, 62] : List UInt8)] : List (List UInt8)), ([([60, 33, 45, 45] : List UInt8), ([45, 45, 62] : List UInt8)] : List (List UInt8))] : List (List (List UInt8))) (toN v8) (lrep 2 [])) 0 [], lget (lget ([([([60, 63] : List UInt8), ([63, 62] : List UInt8)] : List (List UInt8)), ([([60, 33, 45, 45] : List UInt8), ([45, 45, 62] : List UInt8)] : List (List UInt8))] : List (List (List UInt8))) (toN v8) (lrep 2 [])) 1 []] : List (List UInt8))))
           (grd (in2 (len (lget ([lget (lget ([([([60, 63] : List UInt8), ([63, 62] : List UInt8)] : List (List UInt8)), ([([60, 33, 45, 45] : List UInt8), ([45, 45, 62] : List UInt8)] : List (List UInt8))] : List (List (List UInt8))) (toN v8) (lrep 2 [])) 0 [], lget (lget ([([([60, 63] : List UInt8), ([63, 62] : List UInt8)] : List (List UInt8)), ([([60, 33, 45, 45] : List UInt8), ([45, 45, 62] : List UInt8)] : List (List UInt8))] : List (List (List UInt8))) (toN v8) (lrep 2 [])) 1 []] : List (List UInt8)) (toN (0 : Int)) [])) (len x))
            (grd (inb (1 : Int) (ofN 2))
             (grd (ilt (1 : Int) (len ([lget (lget ([([([60, 63] : List UInt8), ([63, 62] : List UInt8)] : List (List UInt8)), ([([60, 33, 45, 45] : List UInt8), ([45, 45, 62] : List UInt8)] : List (List UInt8))] : List (List (List UInt8))) (toN v8) (lrep 2 [])) 0 [], lget (lget ([([([60, 63] : List UInt8), ([63, 62] : List UInt8)] : List (List UInt8)), ([([60, 33, 45, 45] : List UInt8), ([45, 45, 62] : List UInt8)] : List (List UInt8))] : List (List (List UInt8))) (toN v8) (lrep 2 [])) 1 []] : List (List UInt8))))
              (bnd (strings_Index N (ldrop (toN (len (lget ([lget (lget ([([([60, 63] : List UInt8), ([63, 62] : List UInt8)] : List (List UInt8)), ([([60, 33, 45, 45] : List UInt8), ([45, 45, 62] : List UInt8)] : List (List UInt8))] : List (List (List UInt8))) (toN v8) (lrep 2 [])) 0 [], lget (lget ([([([60, 63] : List UInt8), ([63, 62] : List UInt8)] : List (List UInt8)), ([([60, 33, 45, 45] : List UInt8), ([45, 45, 62] : List UInt8)] : List (List UInt8))] : List (List (List UInt8))) (toN v8) (lrep 2 [])) 1 []] : List (List UInt8)) (toN (0 : Int)) []))) x, lget ([lget (lget ([([([60, 63] : List UInt8), ([63, 62] : List UInt8)] : List (List UInt8)), ([([60, 33, 45, 45] : List UInt8), ([45, 45, 62] : List UInt8)] : List (List UInt8))] : List (List (List UInt8))) (toN v8) (lrep 2 [])) 0 [], lget (lget ([([([60, 63] : List UInt8), ([63, 62] : List UInt8)] : List (List UInt8)), ([([60, 33, 45, 45] : List UInt8), ([45, 45, 62] : List UInt8)] : List (List UInt8))] : List (List (List UInt8))) (toN v8) (lrep 2 [])) 1 []] : List (List UInt8)) (toN (1 : Int)) [])) fun v10 =>
              grd (inb (0 : Int) (ofN 2)) <|
              grd (ilt (0 : Int) (len ([lget (lget ([([([60, 63] : List UInt8), ([63, 62] : List UInt8)] : List (List UInt8)), ([([60, 33, 45, 45] : List UInt8), ([45, 45, 62] : List UInt8)] : List (List UInt8))] : List (List (List UInt8))) (toN v8) (lrep 2 [])) 0 [], lget (lget ([([([60, 63] : List UInt8), ([63, 62] : List UInt8)] : List (List UInt8)), ([([60, 33, 45, 45] : List UInt8), ([45, 45, 62] : List UInt8)] : List (List UInt8))] : List (List (List UInt8))) (toN v8) (lrep 2 [])) 1 []] : List (List UInt8)))) <|
              grd (inb (0 : Int) (ofN 2)) <|
              grd (ilt (0 : Int) (len ([lget (lget ([([([60, 63] : List UInt8), ([63, 62] : List UInt8)] : List (List UInt8)), ([([60, 33, 45, 45] : List UInt8), ([45, 45, 62] : List UInt8)] : List (List UInt8))] : List (List (List UInt8))) (toN v8) (lrep 2 [])) 0 [], lget (lget ([([([60, 63] : List UInt8), ([63, 62] : List UInt8)] : List (List UInt8)), ([([60, 33, 45, 45] : List UInt8), ([45, 45, 62] : List UInt8)] : List (List UInt8))] : List (List (List UInt8))) (toN v8) (lrep 2 [])) 1 []] : List (List UInt8)))) <|
              grd (inb (1 : Int) (ofN 2)) <|
              grd (ilt (1 : Int) (len ([lget (lget ([([([60, 63] : List UInt8), ([63, 62] : List UInt8)] : List (List UInt8)), ([([60, 33, 45, 45] : List UInt8), ([45, 45, 62] : List UInt8)] : List (List UInt8))] : List (List (List UInt8))) (toN v8) (lrep 2 [])) 0 [], lget (lget ([([([60, 63] : List UInt8), ([63, 62] : List UInt8)] : List (List UInt8)), ([([60, 33, 45, 45] : List UInt8), ([45, 45, 62] : List UInt8)] : List (List UInt8))] : List (List (List UInt8))) (toN v8) (lrep 2 [])) 1 []] : List (List UInt8)))) <|
              some (((4 : Int), ([] : List UInt8), ([] : List ((List UInt8) × List UInt8)), lget ([lget (lget ([([([60, 63] : List UInt8), ([63, 62] : List UInt8)] : List (List UInt8)), ([([60, 33, 45, 45] : List UInt8), ([45, 45, 62] : List UInt8)] : List (List UInt8))] : List (List (List UInt8))) (toN v8) (lrep 2 [])) 0 [], lget (lget ([([([60, 63] : List UInt8), ([63, 62] : List UInt8)] : List (List UInt8)), ([([60, 33, 45, 45] : List UInt8), ([45, 45, 62] : List UInt8)] : List (List UInt8))] : List (List (List UInt8))) (toN v8) (lrep 2 [])) 1 []] : List (List UInt8)) (toN (0 : Int)) []), w64 (iadd (w64 (iadd (len (lget ([lget (lget ([([([60, 63] : List UInt8), ([63, 62] : List UInt8)] : List (List UInt8)), ([([60, 33, 45, 45] : List UInt8), ([45, 45, 62] : List UInt8)] : List (List UInt8))] : List (List (List UInt8))) (toN v8) (lrep 2 [])) 0 [], lget (lget ([([([60, 63] : List UInt8), ([63, 62] : List UInt8)] : List (List UInt8)), ([([60, 33, 45, 45] : List UInt8), ([45, 45, 62] : List UInt8)] : List (List UInt8))] : List (List (List UInt8))) (toN v8) (lrep 2 [])) 1 []] : List (List UInt8)) (toN (0 : Int)) [])) v10)) (len (lget ([lget (lget ([([([60, 63] : List UInt8), ([63, 62] : List UInt8)] : List (List UInt8)), ([([60, 33, 45, 45] : List UInt8), ([45, 45, 62] : List UInt8)] : List (List UInt8))] : List (List (List UInt8))) (toN v8) (lrep 2 [])) 0 [], lget (lget ([([([60, 63] : List UInt8), ([63, 62] : List UInt8)] : List (List UInt8)), ([([60, 33, 45, 45] : List UInt8), ([45, 45, 62] : List UInt8)] : List (List UInt8))] : List (List (List UInt8))) (toN v8) (lrep 2 [])) 1 []] : List (List UInt8)) (toN (1 : Int)) []))), ile (0 : Int) v10)))))))
         (v7 (w64 (iadd v8 (1 : Int)))))))))
    (v6 ())) N (0 : Int))
def ps_strings_Trim : List PK := [.k (.v (.str) []), .k (.v (.str) [])]
def rs_strings_Trim : List Kd := [.v (.str) []]
def strings_Trim (N : Nat) (x : List UInt8 × List UInt8) : Option (List UInt8) := hand_strings_Trim N x
def ps_strings_Contains : List PK := [.k (.v (.str) []), .k (.v (.str) [])]
def rs_strings_Contains : List Kd := [.v (.bool) []]
def strings_Contains (N : Nat) (x : List UInt8 × List UInt8) : Option (Bool) := hand_strings_Contains N x
def ps_xml_flat : List PK := [.k (.v (.str) [])]
def rs_xml_flat : List Kd := [.v (.str) []]
def xml_flat (N : Nat) (x : List UInt8) : Option (List UInt8) := hand_xml_flat N x
def ps_xml_digit : List PK := [.k (.v (.u8) []), .k (.v (.int .i64) [])]
def rs_xml_digit : List Kd := [.v (.int .i64) []]
def xml_digit (N : Nat) (x : UInt8 × Int) : Option (Int) :=
 jn (fun (v0 : Int) =>
  cnd (ile x.2 v0)
   (some (-1 : Int))
   (some v0))
 fun v1 =>
 jn (fun (v2 : Bool) =>
  cnd v2
   (v1 (w64 (n8 (b8 (isub (n8 x.1) (n8 (48 : UInt8)))))))
   (jn (fun (v3 : Bool) =>
    cnd v3
     (v1 (w64 (iadd (w64 (n8 (b8 (isub (n8 x.1) (n8 (97 : UInt8)))))) (10 : Int))))
     (cnd (ile (n8 (65 : UInt8)) (n8 x.1))
      (cnd (ile (n8 x.1) (n8 (70 : UInt8)))
       (v1 (w64 (iadd (w64 (n8 (b8 (isub (n8 x.1) (n8 (65 : UInt8)))))) (10 : Int))))
       (v1 (-1 : Int)))
      (v1 (-1 : Int))))
   fun v4 =>
   cnd (ile (n8 (97 : UInt8)) (n8 x.1))
    (v4 (ile (n8 x.1) (n8 (102 : UInt8))))
    (v4 false)))
 fun v5 =>
 cnd (ile (n8 (48 : UInt8)) (n8 x.1))
  (v5 (ile (n8 x.1) (n8 (57 : UInt8))))
  (v5 false)
def ps_charset_place : List PK := [.k (.v (.str) []), .k (.v (.int .i32) [])]
def rs_charset_place : List Kd := [.v (.int .i64) []]
def charset_place (N : Nat) (x : List UInt8 × Int) : Option (Int) :=
 jn (fun (v0 : Unit) =>
  some (-1 : Int))
 fun v1 =>
 fixN (fun v2 (v3 : Int × (List UInt8) × Int) =>
  cnd (nlt (toN v3.2.2) (nlen v3.2.1))
   (cnd (ieq (decR v3.2.1 (toN v3.2.2)) x.2)
    (some v3.1)
    (v2 (w64 (iadd v3.1 (1 : Int)), v3.2.1, ofN (nadd (toN v3.2.2) (decW v3.2.1 (toN v3.2.2))))))
   (v1 ())) N ((0 : Int), x.1, ofN 0)
def ps_charset_Index : List PK := [.k (.v (.int .i32) [])]
def rs_charset_Index : List Kd := [.v (.int .i64) []]
def charset_Index (N : Nat) (x : Int) : Option (Int) :=
 cnd (ile (32 : Int) x)
  (cnd (ile x (126 : Int))
   (some (w64 (wr .i32 (isub x (32 : Int)))))
   (bnd (charset_place N (([32, 33, 34, 35, 36, 37, 38, 39, 40, 41, 42, 43, 44, 45, 46, 47, 48, 49, 50, 51, 52, 53, 54, 55, 56, 57, 58, 59, 60, 61, 62, 63, 64, 65, 66, 67, 68, 69, 70, 71, 72, 73, 74, 75, 76, 77, 78, 79, 80, 81, 82, 83, 84, 85, 86, 87, 88, 89, 90, 91, 92, 93, 94, 95, 96, 97, 98, 99, 100, 101, 102, 103, 104, 105, 106, 107, 108, 109, 110, 111, 112, 113, 114, 115, 116, 117, 118, 119, 120, 121, 122, 123, 124, 125, 126, 194, 161, 194, 162, 194, 163, 194, 164, 194, 165, 194, 166, 194, 167, 194, 169, 194, 171, 194, 174, 194, 176, 194, 183, 194, 187, 194, 189, 194, 191, 195, 128, 195, 129, 195, 130, 195, 131, 195, 132, 195, 133, 195, 134, 195, 135, 195, 136, 195, 137, 195, 138, 195, 139, 195, 140, 195, 141, 195, 142, 195, 143, 195, 145, 195, 146, 195, 147, 195, 148, 195, 149, 195, 150, 195, 152, 195, 153, 195, 154, 195, 155, 195, 156, 195, 159, 195, 160, 195, 161, 195, 162, 195, 163, 195, 164, 195, 165, 195, 166, 195, 167, 195, 168, 195, 169, 195, 170, 195, 171, 195, 172, 195, 173, 195, 174, 195, 175, 195, 177, 195, 178, 195, 179, 195, 180, 195, 181, 195, 182, 195, 184, 195, 185, 195, 186, 195, 187, 195, 188, 197, 146, 197, 147, 226, 128, 148, 226, 128, 152, 226, 128, 153, 226, 128, 156, 226, 128, 157, 226, 128, 162, 226, 128, 166, 226, 132, 162, 226, 153, 170] : List UInt8), x)) fun v0 =>
   some v0))
  (bnd (charset_place N (([32, 33, 34, 35, 36, 37, 38, 39, 40, 41, 42, 43, 44, 45, 46, 47, 48, 49, 50, 51, 52, 53, 54, 55, 56, 57, 58, 59, 60, 61, 62, 63, 64, 65, 66, 67, 68, 69, 70, 71, 72, 73, 74, 75, 76, 77, 78, 79, 80, 81, 82, 83, 84, 85, 86, 87, 88, 89, 90, 91, 92, 93, 94, 95, 96, 97, 98, 99, 100, 101, 102, 103, 104, 105, 106, 107, 108, 109, 110, 111, 112, 113, 114, 115, 116, 117, 118, 119, 120, 121, 122, 123, 124, 125, 126, 194, 161, 194, 162, 194, 163, 194, 164, 194, 165, 194, 166, 194, 167, 194, 169, 194, 171, 194, 174, 194, 176, 194, 183, 194, 187, 194, 189, 194, 191, 195, 128, 195, 129, 195, 130, 195, 131, 195, 132, 195, 133, 195, 134, 195, 135, 195, 136, 195, 137, 195, 138, 195, 139, 195, 140, 195, 141, 195, 142, 195, 143, 195, 145, 195, 146, 195, 147, 195, 148, 195, 149, 195, 150, 195, 152, 195, 153, 195, 154, 195, 155, 195, 156, 195, 159, 195, 160, 195, 161, 195, 162, 195, 163, 195, 164, 195, 165, 195, 166, 195, 167, 195, 168, 195, 169, 195, 170, 195, 171, 195, 172, 195, 173, 195, 174, 195, 175, 195, 177, 195, 178, 195, 179, 195, 180, 195, 181, 195, 182, 195, 184, 195, 185, 195, 186, 195, 187, 195, 188, 197, 146, 197, 147, 226, 128, 148, 226, 128, 152, 226, 128, 153, 226, 128, 156, 226, 128, 157, 226, 128, 162, 226, 128, 166, 226, 132, 162, 226, 153, 170] : List UInt8), x)) fun v1 =>
  some v1)
def ps_xml_reference : List PK := [.k (.v (.str) [])]
def rs_xml_reference : List Kd := [.v (.str) [], .v (.int .i64) [], .v (.int .i64) []]
def xml_reference (N : Nat) (x : List UInt8) : Option (List UInt8 × Int × Int) :=
 jn (fun (v0 : Unit) =>
  jn (fun (v1 : Int × Int × Int) =>
   jn (fun (v2 : Int × Int) =>
    cnd (ieq v2.1 v1.1)
     (some (([] : List UInt8), (0 : Int), (4 : Int)))
     (cnd (ilt v1.2.2 (w64 (isub v2.1 v1.1)))
      (some (([] : List UInt8), (0 : Int), (4 : Int)))
      (cnd (ieq v2.1 (len x))
       (some (([] : List UInt8), (0 : Int), (4 : Int)))
       (grd (inb v2.1 (len x))
        (cnd (ine (n8 (lget x (toN v2.1) (0 : UInt8))) (n8 (59 : UInt8)))
         (some (([] : List UInt8), (0 : Int), (4 : Int)))
         (bnd (charset_Index N (wr .i32 v2.2)) fun v3 =>
         cnd (ilt v3 (0 : Int))
          (some (([] : List UInt8), (0 : Int), (10 : Int)))
          (some (enc (wr .i32 v2.2), w64 (iadd v2.1 (1 : Int)), (0 : Int)))))))))
   fun v4 =>
   fixN (fun v5 (v6 : Int × Int) =>
    cnd (ilt v6.1 (len x))
     (grd (inb v6.1 (len x))
      (bnd (xml_digit N (lget x (toN v6.1) (0 : UInt8), v1.2.1)) fun v7 =>
      cnd (ile (0 : Int) v7)
       (grd (inb v6.1 (len x))
        (bnd (xml_digit N (lget x (toN v6.1) (0 : UInt8), v1.2.1)) fun v8 =>
        v5 (w64 (iadd v6.1 (1 : Int)), imin (w64 (iadd (w64 (imul v6.2 v1.2.1)) v8)) (16777216 : Int))))
       (v4 v6)))
     (v4 v6)) N (v1.1, (0 : Int)))
  fun v9 =>
  bnd (strings_HasPrefix N (x, ([38, 35, 120] : List UInt8))) fun v10 =>
  cnd v10
   (v9 ((3 : Int), (16 : Int), (5 : Int)))
   (bnd (strings_HasPrefix N (x, ([38, 35] : List UInt8))) fun v11 =>
   cnd (bnot v11)
    (some (([] : List UInt8), (0 : Int), (4 : Int)))
    (v9 ((2 : Int), (10 : Int), (6 : Int)))))
 fun v12 =>
 fixN (fun v13 (v14 : Int) =>
  cnd (ilt v14 (5 : Int))
   (grd (inb v14 (ofN 5))
    (grd (ieq (len (lrep 2 ([] : List UInt8))) (ofN 2))
     (grd (inb (0 : Int) (ofN 2))
      (grd (ilt (0 : Int) (len ([lget (lget ([([lget (lget gl0 0 (lrep 2 [])) 0 [], lget (lget gl0 0 (lrep 2 [])) 1 []] : List (List UInt8)), ([lget (lget gl0 1 (lrep 2 [])) 0 [], lget (lget gl0 1 (lrep 2 [])) 1 []] : List (List UInt8)), ([lget (lget gl0 2 (lrep 2 [])) 0 [], lget (lget gl0 2 (lrep 2 [])) 1 []] : List (List UInt8)), ([lget (lget gl0 3 (lrep 2 [])) 0 [], lget (lget gl0 3 (lrep 2 [])) 1 []] : List (List UInt8)), ([lget (lget gl0 4 (lrep 2 [])) 0 [], lget (lget gl0 4 (lrep 2 [])) 1 []] : List (List UInt8))] : List (List (List UInt8))) (toN v14) (lrep 2 [])) 0 [], lget (lget ([([lget (lget gl0 0 (lrep 2 [])) 0 [], lget (lget gl0 0 (lrep 2 [])) 1 []] : List (List UInt8)), ([lget (lget gl0 1 (lrep 2 [])) 0 [], lget (lget gl0 1 (lrep 2 [])) 1 []] : List (List UInt8)), ([lget (lget gl0 2 (lrep 2 [])) 0 [], lget (lget gl0 2 (lrep 2 [])) 1 []] : List (List UInt8)), ([lget (lget gl0 3 (lrep 2 [])) 0 [], lget (lget gl0 3 (lrep 2 [])) 1 []] : List (List UInt8)), ([lget (lget gl0 4 (lrep 2 [])) 0 [], lget (lget gl0 4 (lrep 2 [])) 1 []] : List (List UInt8))] : List (List (List UInt8))) (toN v14) (lrep 2 [])) 1 []] : List (List UInt8))))
       (bnd (strings_HasPrefix N (x, lget ([lget (lget ([([lget (lget gl0 0 (lrep 2 [])) 0 [], lget (lget gl0 0 (lrep 2 [])) 1 []] : List (List UInt8)), ([lget (lget gl0 1 (lrep 2 [])) 0 [], lget (lget gl0 1 (lrep 2 [])) 1 []] : List (List UInt8)), ([lget (lget gl0 2 (lrep 2 [])) 0 [], lget (lget gl0 2 (lrep 2 [])) 1 []] : List (List UInt8)), ([lget (lget gl0 3 (lrep 2 [])) 0 [], lget (lget gl0 3 (lrep 2 [])) 1 []] : List (List UInt8)), ([lget (lget gl0 4 (lrep 2 [])) 0 [], lget (lget gl0 4 (lrep 2 [])) 1 []] : List (List UInt8))] : List (List (List UInt8))) (toN v14) (lrep 2 [])) 0 [], lget (lget ([([lget (lget gl0 0 (lrep 2 [])) 0 [], lget (lget gl0 0 (lrep 2 [])) 1 []] : List (List UInt8)), ([lget (lget gl0 1 (lrep 2 [])) 0 [], lget (lget gl0 1 (lrep 2 [])) 1 []] : List (List UInt8)), ([lget (lget gl0 2 (lrep 2 [])) 0 [], lget (lget gl0 2 (lrep 2 [])) 1 []] : List (List UInt8)), ([lget (lget gl0 3 (lrep 2 [])) 0 [], lget (lget gl0 3 (lrep 2 [])) 1 []] : List (List UInt8)), ([lget (lget gl0 4 (lrep 2 [])) 0 [], lget (lget gl0 4 (lrep 2 [])) 1 []] : List (List UInt8))] : List (List (List UInt8))) (toN v14) (lrep 2 [])) 1 []] : List (List UInt8)) (toN (0 : Int)) [])) fun v15 =>
       cnd v15
        (grd (inb (1 : Int) (ofN 2))
         (grd (ilt (1 : Int) (len ([lget (lget ([([lget (lget gl0 0 (lrep 2 [])) 0 [], lget (lget gl0 0 (lrep 2 [])) 1 []] : List (List UInt8)), ([lget (lget gl0 1 (lrep 2 [])) 0 [], lget (lget gl0 1 (lrep 2 [])) 1 []] : List (List UInt8)), ([lget (lget gl0 2 (lrep 2 [])) 0 [], lget (lget gl0 2 (lrep 2 [])) 1 []] : List (List UInt8)), ([lget (lget gl0 3 (lrep 2 [])) 0 [], lget (lget gl0 3 (lrep 2 [])) 1 []] : List (List UInt8)), ([lget (lget gl0 4 (lrep 2 [])) 0 [], lget (lget gl0 4 (lrep 2 [])) 1 []] : List (List UInt8))] : List (List (List UInt8))) (toN v14) (lrep 2 [])) 0 [], lget (lget ([([lget (lget gl0 0 (lrep 2 [])) 0 [], lget (lget gl0 0 (lrep 2 [])) 1 []] : List (List UInt8)), ([lget (lget gl0 1 (lrep 2 [])) 0 [], lget (lget gl0 1 (lrep 2 [])) 1 []] : List (List UInt8)), ([lget (lget gl0 2 (lrep 2 [])) 0 [], lget (lget gl0 2 (lrep 2 [])) 1 []] : List (List UInt8)), ([lget (lget gl0 3 (lrep 2 [])) 0 [], lget (lget gl0 3 (lrep 2 [])) 1 []] : List (List UInt8)), ([lget (lget gl0 4 (lrep 2 [])) 0 [], lget (lget gl0 4 (lrep 2 [])) 1 []] : List (List UInt8))] : List (List (List UInt8))) (toN v14) (lrep 2 [])) 1 []] : List (List UInt8))))
          (grd (inb (0 : Int) (ofN 2))
           (grd (ilt (0 : Int) (len ([lget (lget ([([lget (lget gl0 0 (lrep 2 [])) 0 [], lget (lget gl0 0 (lrep 2 [])) 1 []] : List (List UInt8)), ([lget (lget gl0 1 (lrep 2 [])) 0 [], lget (lget gl0 1 (lrep 2 [])) 1 []] : List (List UInt8)), ([lget (lget gl0 2 (lrep 2 [])) 0 [], lget (lget gl0 2 (lrep 2 [])) 1 []] : List (List UInt8)), ([lget (lget gl0 3 (lrep 2 [])) 0 [], lget (lget gl0 3 (lrep 2 [])) 1 []] : List (List UInt8)), ([lget (lget gl0 4 (lrep 2 [])) 0 [], lget (lget gl0 4 (lrep 2 [])) 1 []] : List (List UInt8))] : List (List (List UInt8))) (toN v14) (lrep 2 [])) 0 [], lget (lget ([([lget (lget gl0 0 (lrep 2 [])) 0 [], lget (lget gl0 0 (lrep 2 [])) 1 []] : List (List UInt8)), ([lget (lget gl0 1 (lrep 2 [])) 0 [], lget (lget gl0 1 (lrep 2 [])) 1 []] : List (List UInt8)), ([lget (lget gl0 2 (lrep 2 [])) 0 [], lget (lget gl0 2 (lrep 2 [])) 1 []] : List (List UInt8)), ([lget (lget gl0 3 (lrep 2 [])) 0 [], lget (lget gl0 3 (lrep 2 [])) 1 []] : List (List UInt8)), ([lget (lget gl0 4 (lrep 2 [])) 0 [], lget (lget gl0 4 (lrep 2 [])) 1 []] : List (List UInt8))] : List (List (List UInt8))) (toN v14) (lrep 2 [])) 1 []] : List (List UInt8))))
            (some (lget ([lget (lget ([([lget (lget gl0 0 (lrep 2 [])) 0 [], lget (lget gl0 0 (lrep 2 [])) 1 []] : List (List UInt8)), ([lget (lget gl0 1 (lrep 2 [])) 0 [], lget (lget gl0 1 (lrep 2 [])) 1 []] : List (List UInt8)), ([lget (lget gl0 2 (lrep 2 [])) 0 [], lget (lget gl0 2 (lrep 2 [])) 1 []] : List (List UInt8)), ([lget (lget gl0 3 (lrep 2 [])) 0 [], lget (lget gl0 3 (lrep 2 [])) 1 []] : List (List UInt8)), ([lget (lget gl0 4 (lrep 2 [])) 0 [], lget (lget gl0 4 (lrep 2 [])) 1 []] : List (List UInt8))] : List (List (List UInt8))) (toN v14) (lrep 2 [])) 0 [], lget (lget ([([lget (lget gl0 0 (lrep 2 [])) 0 [], lget (lget gl0 0 (lrep 2 [])) 1 []] : List (List UInt8)), ([lget (lget gl0 1 (lrep 2 [])) 0 [], lget (lget gl0 1 (lrep 2 [])) 1 []] : List (List UInt8)), ([lget (lget gl0 2 (lrep 2 [])) 0 [], lget (lget gl0 2 (lrep 2 [])) 1 []] : List (List UInt8)), ([lget (lget gl0 3 (lrep 2 [])) 0 [], lget (lget gl0 3 (lrep 2 [])) 1 []] : List (List UInt8)), ([lget (lget gl0 4 (lrep 2 [])) 0 [], lget (lget gl0 4 (lrep 2 [])) 1 []] : List (List UInt8))] : List (List (List UInt8))) (toN v14) (lrep 2 [])) 1 []] : List (List UInt8)) (toN (1 : Int)) [], len (lget ([lget (lget ([([lget (lget gl0 0 (lrep 2 [])) 0 [], lget (lget gl0 0 (lrep 2 [])) 1 []] : List (List UInt8)), ([lget (lget gl0 1 (lrep 2 [])) 0 [], lget (lget gl0 1 (lrep 2 [])) 1 []] : List (List UInt8)), ([lget (lget gl0 2 (lrep 2 [])) 0 [], lget (lget gl0 2 (lrep 2 [])) 1 []] : List (List UInt8)), ([lget (lget gl0 3 (lrep 2 [])) 0 [], lget (lget gl0 3 (lrep 2 [])) 1 []] : List (List UInt8)), ([lget (lget gl0 4 (lrep 2 [])) 0 [], lget (lget gl0 4 (lrep 2 [])) 1 []] : List (List UInt8))] : List (List (List UInt8))) (toN v14) (lrep 2 [])) 0 [], lget (lget ([([lget (lget gl0 0 (lrep 2 [])) 0 [], lget (lget gl0 0 (lrep 2 [])) 1 []] : List (List UInt8)), ([lget (lget gl0 1 (lrep 2 [])) 0 [], lget (lget gl0 1 (lrep 2 [])) 1 []] : List (List UInt8)), ([lget (lget gl0 2 (lrep 2 [])) 0 [], lget (lget gl0 2 (lrep 2 [])) 1 []] : List (List UInt8)), ([lget (lget gl0 3 (lrep 2 [])) 0 [], lget (lget gl0 3 (lrep 2 [])) 1 []] : List (List UInt8)), ([lget (lget gl0 4 (lrep 2 [])) 0 [], lget (lget gl0 4 (lrep 2 [])) 1 []] : List (List UInt8))] : List (List (List UInt8))) (toN v14) (lrep 2 [])) 1 []] : List (List UInt8)) (toN (0 : Int)) []), (0 : Int)))))))
        (v13 (w64 (iadd v14 (1 : Int)))))))))
   (v12 ())) N (0 : Int)
def ps_strings_Builder_copyCheck : List PK := [.k (.b 55 (.st (.pair (.nptr) (.slice (.u8)))) [1])]
def rs_strings_Builder_copyCheck : List Kd := []
def strings_Builder_copyCheck (N : Nat) (x : Unit × List UInt8) : Option (Unit × List UInt8) := hand_strings_Builder_copyCheck N x
def ps_strings_Builder_WriteString : List PK := [.k (.b 55 (.st (.pair (.nptr) (.slice (.u8)))) [1]), .k (.v (.str) [])]
def rs_strings_Builder_WriteString : List Kd := [.v (.int .i64) [], .v (.nif) []]
def strings_Builder_WriteString (N : Nat) (x : (Unit × List UInt8) × List UInt8) : Option (Int × Unit × Unit × List UInt8) :=
 bnd (strings_Builder_copyCheck N ((), x.1.2)) fun v0 =>
 grd (room (iadd (len v0.2) (len x.2)) 1) <|
 some (len x.2, (), (), lapp v0.2 x.2)
def ps_strings_Builder_WriteByte : List PK := [.k (.b 55 (.st (.pair (.nptr) (.slice (.u8)))) [1]), .k (.v (.u8) [])]
def rs_strings_Builder_WriteByte : List Kd := [.v (.nif) []]
def strings_Builder_WriteByte (N : Nat) (x : (Unit × List UInt8) × UInt8) : Option (Unit × Unit × List UInt8) :=
 bnd (strings_Builder_copyCheck N ((), x.1.2)) fun v0 =>
 grd (room (iadd (len v0.2) (len ([x.2] : List UInt8))) 1) <|
 some ((), (), lapp v0.2 ([x.2] : List UInt8))
def ps_xml_Unescape : List PK := [.k (.v (.str) [])]
def rs_xml_Unescape : List Kd := [.v (.str) [], .v (.int .i64) []]
def xml_Unescape (N : Nat) (x : List UInt8) : Option (List UInt8 × Int) :=
 jn (fun (v0 : Unit × List UInt8) =>
  some (v0.2, (0 : Int)))
 fun v1 =>
 fixN (fun v2 (v3 : Int × Unit × List UInt8) =>
  cnd (ilt v3.1 (len x))
   (grd (inb v3.1 (len x))
    (cnd (ieq (n8 (lget x (toN v3.1) (0 : UInt8))) (n8 (60 : UInt8)))
     (some (([] : List UInt8), (4 : Int)))
     (cnd (ieq (n8 (lget x (toN v3.1) (0 : UInt8))) (n8 (38 : UInt8)))
      (grd (in2 v3.1 (len x))
       (bnd (xml_reference N (ldrop (toN v3.1) x)) fun v4 =>
       cnd (ine v4.2.2 (0 : Int))
        (some (([] : List UInt8), v4.2.2))
        (bnd (strings_Builder_WriteString N (((), v3.2.2), v4.1)) fun v5 =>
        v2 (w64 (iadd v3.1 v4.2.1), (), v5.2.2.2))))
      (grd (inb v3.1 (len x))
       (bnd (strings_Builder_WriteByte N (((), v3.2.2), lget x (toN v3.1) (0 : UInt8))) fun v6 =>
       v2 (w64 (iadd v3.1 (1 : Int)), (), v6.2.2))))))
   (v1 ((), v3.2.2))) N ((0 : Int), (), ([] : List UInt8))
def ps_utf8_ValidString : List PK := [.k (.v (.str) [])]
def rs_utf8_ValidString : List Kd := [.v (.bool) []]
def utf8_ValidString (N : Nat) (x : List UInt8) : Option (Bool) := hand_utf8_ValidString N x
def ps_charset_Valid : List PK := [.k (.v (.str) [])]
def rs_charset_Valid : List Kd := [.v (.bool) []]
def charset_Valid (N : Nat) (x : List UInt8) : Option (Bool) :=
 bnd (utf8_ValidString N x) fun v0 =>
 cnd (bnot v0)
  (some false)
  (jn (fun (v1 : Unit) =>
   some true)
  fun v2 =>
  fixN (fun v3 (v4 : (List UInt8) × Int) =>
   cnd (nlt (toN v4.2) (nlen v4.1))
    (bnd (charset_Index N (decR v4.1 (toN v4.2))) fun v5 =>
    cnd (ilt v5 (0 : Int))
     (some false)
     (v3 (v4.1, ofN (nadd (toN v4.2) (decW v4.1 (toN v4.2))))))
    (v2 ())) N (x, ofN 0))
def ps_xml_meaning : List PK := [.k (.v (.str) [])]
def rs_xml_meaning : List Kd := [.v (.str) [], .v (.int .i64) []]
def xml_meaning (N : Nat) (x : List UInt8) : Option (List UInt8 × Int) :=
 bnd (xml_flat N x) fun v0 =>
 bnd (xml_Unescape N v0) fun v1 =>
 cnd (ine v1.2 (0 : Int))
  (some (([] : List UInt8), v1.2))
  (bnd (charset_Valid N v1.1) fun v2 =>
  cnd (bnot v2)
   (some (([] : List UInt8), (10 : Int)))
   (some (v1.1, (0 : Int))))
def ps_xml_parser_room : List PK := [.k (.b 76 (.st (.pair (.slice (.st (.pair (.str) (.pair (.str) (.pair (.slice (.st (.pair (.str) (.str)))) (.int .i64)))))) (.pair (.slice (.str)) (.bool)))) [0, 1]), .k (.v (.bool) [])]
def rs_xml_parser_room : List Kd := [.v (.int .i64) []]
def xml_parser_room (N : Nat) (x : ((List ((List UInt8) × (List UInt8) × (List ((List UInt8) × List UInt8)) × Int)) × (List (List UInt8)) × Bool) × Bool) : Option (Int × (List ((List UInt8) × (List UInt8) × (List ((List UInt8) × List UInt8)) × Int)) × (List (List UInt8)) × Bool) :=
 jn (fun (v0 : Bool) =>
  cnd v0
   (some ((8 : Int), x.1))
   (cnd (ilt (15 : Int) (len x.1.2.1))
    (some ((9 : Int), x.1))
    (cnd (ile (8192 : Int) (len x.1.1))
     (cnd x.2
      (cnd (bnot x.1.2.2)
       (some ((9 : Int), x.1))
       (some ((0 : Int), x.1)))
      (cnd (bnot false)
       (some ((9 : Int), x.1))
       (some ((0 : Int), x.1))))
     (some ((0 : Int), x.1)))))
 fun v1 =>
 cnd (ieq (len x.1.2.1) (0 : Int))
  (cnd x.2
   (v1 true)
   (v1 (ilt (0 : Int) (len x.1.1))))
  (v1 false)
def ps_xml_parser_text : List PK := [.k (.b 76 (.st (.pair (.slice (.st (.pair (.str) (.pair (.str) (.pair (.slice (.st (.pair (.str) (.str)))) (.int .i64)))))) (.pair (.slice (.str)) (.bool)))) [0, 1]), .k (.v (.str) [])]
def rs_xml_parser_text : List Kd := [.v (.int .i64) []]
def xml_parser_text (N : Nat) (x : ((List ((List UInt8) × (List UInt8) × (List ((List UInt8) × List UInt8)) × Int)) × (List (List UInt8)) × Bool) × List UInt8) : Option (Int × (List ((List UInt8) × (List UInt8) × (List ((List UInt8) × List UInt8)) × Int)) × (List (List UInt8)) × Bool) :=
 jn (fun (v0 : Unit) =>
  bnd (xml_meaning N x.2) fun v1 =>
  cnd (ine v1.2 (0 : Int))
   (some (v1.2, x.1))
   (bnd (xml_parser_room N (x.1, true)) fun v2 =>
   cnd (ine v2.1 (0 : Int))
    (some v2)
    (cnd v2.2.2.2
     (grd (inb (w64 (isub (len v2.2.1) (1 : Int))) (len v2.2.1))
      (grd (catOk (iadd (len (lget v2.2.1 (toN (w64 (isub (len v2.2.1) (1 : Int)))) ([], ([], ([], (0 : Int))))).2.1) (len v1.1)))
       (grd (inb (w64 (isub (len v2.2.1) (1 : Int))) (len v2.2.1))
        (some ((0 : Int), lset v2.2.1 (toN (w64 (isub (len v2.2.1) (1 : Int)))) ((lget v2.2.1 (toN (w64 (isub (len v2.2.1) (1 : Int)))) ([], ([], ([], (0 : Int))))).1, lapp (lget v2.2.1 (toN (w64 (isub (len v2.2.1) (1 : Int)))) ([], ([], ([], (0 : Int))))).2.1 v1.1, (lget v2.2.1 (toN (w64 (isub (len v2.2.1) (1 : Int)))) ([], ([], ([], (0 : Int))))).2.2), v2.2.2)))))
     (grd (room (iadd (len v2.2.1) (len ([(([] : List UInt8), v1.1, ([] : List ((List UInt8) × List UInt8)), len v2.2.2.1)] : List ((List UInt8) × (List UInt8) × (List ((List UInt8) × List UInt8)) × Int)))) 64)
      (some ((0 : Int), lapp v2.2.1 ([(([] : List UInt8), v1.1, ([] : List ((List UInt8) × List UInt8)), len v2.2.2.1)] : List ((List UInt8) × (List UInt8) × (List ((List UInt8) × List UInt8)) × Int)), v2.2.2.1, true))))))
 fun v3 =>
 bnd (strings_Trim N (x.2, ([9, 10, 13, 32] : List UInt8))) fun v4 =>
 cnd (seq v4 ([] : List UInt8))
  (bnd (strings_Contains N (x.2, ([10] : List UInt8))) fun v5 =>
  cnd v5
   (some ((0 : Int), x.1))
   (cnd (ieq (len x.1.2.1) (0 : Int))
    (some ((0 : Int), x.1))
    (v3 ())))
  (v3 ())
def ps_xml_Name : List PK := [.k (.v (.str) [])]
def rs_xml_Name : List Kd := [.v (.bool) []]
def xml_Name (N : Nat) (x : List UInt8) : Option (Bool) :=
 cnd (ilt (len x) (1 : Int))
  (some false)
  (cnd (ilt (32 : Int) (len x))
   (some false)
   (grd (inb (0 : Int) (len x))
    (bnd (xml_letter N (lget x (toN (0 : Int)) (0 : UInt8))) fun v0 =>
    cnd (bnot v0)
     (some false)
     (jn (fun (v1 : Unit) =>
      some true)
     fun v2 =>
     fixN (fun v3 (v4 : Int) =>
      cnd (ilt v4 (len x))
       (grd (inb v4 (len x))
        (bnd (xml_nameByte N (lget x (toN v4) (0 : UInt8))) fun v5 =>
        cnd (bnot v5)
         (some false)
         (v3 (w64 (iadd v4 (1 : Int))))))
       (v2 ())) N (0 : Int)))))
def ps_xml_parser_end : List PK := [.k (.b 76 (.st (.pair (.slice (.st (.pair (.str) (.pair (.str) (.pair (.slice (.st (.pair (.str) (.str)))) (.int .i64)))))) (.pair (.slice (.str)) (.bool)))) [0, 1]), .k (.v (.st (.pair (.int .i64) (.pair (.str) (.pair (.slice (.st (.pair (.str) (.str)))) (.str))))) [])]
def rs_xml_parser_end : List Kd := [.v (.int .i64) []]
def xml_parser_end (N : Nat) (x : ((List ((List UInt8) × (List UInt8) × (List ((List UInt8) × List UInt8)) × Int)) × (List (List UInt8)) × Bool) × Int × (List UInt8) × (List ((List UInt8) × List UInt8)) × List UInt8) : Option (Int × (List ((List UInt8) × (List UInt8) × (List ((List UInt8) × List UInt8)) × Int)) × (List (List UInt8)) × Bool) :=
 bnd (xml_Name N x.2.2.1) fun v0 =>
 cnd (bnot v0)
  (some ((5 : Int), x.1))
  (cnd (ieq (len x.1.2.1) (0 : Int))
   (some ((8 : Int), x.1))
   (grd (inb (w64 (isub (len x.1.2.1) (1 : Int))) (len x.1.2.1))
    (cnd (sne (lget x.1.2.1 (toN (w64 (isub (len x.1.2.1) (1 : Int)))) []) x.2.2.1)
     (some ((8 : Int), x.1))
     (grd (in2 (w64 (isub (len x.1.2.1) (1 : Int))) (ofN (nlen x.1.2.1)))
      (some ((0 : Int), x.1.1, cutl x.1.2.1 0 (toN (w64 (isub (len x.1.2.1) (1 : Int)))), false))))))
def ps_xml_parser_start : List PK := [.k (.b 76 (.st (.pair (.slice (.st (.pair (.str) (.pair (.str) (.pair (.slice (.st (.pair (.str) (.str)))) (.int .i64)))))) (.pair (.slice (.str)) (.bool)))) [0, 1]), .k (.v (.st (.pair (.int .i64) (.pair (.str) (.pair (.slice (.st (.pair (.str) (.str)))) (.str))))) [])]
def rs_xml_parser_start : List Kd := [.v (.int .i64) []]
def xml_parser_start (N : Nat) (x : ((List ((List UInt8) × (List UInt8) × (List ((List UInt8) × List UInt8)) × Int)) × (List (List UInt8)) × Bool) × Int × (List UInt8) × (List ((List UInt8) × List UInt8)) × List UInt8) : Option (Int × (List ((List UInt8) × (List UInt8) × (List ((List UInt8) × List UInt8)) × Int)) × (List (List UInt8)) × Bool) :=
 jn (fun (v0 : List (List UInt8)) =>
  jn (fun (v1 : Unit) =>
   cnd (ilt (16 : Int) (len x.2.2.2.1))
    (some ((9 : Int), x.1))
    (jn (fun (v2 : (List UInt8) × (List UInt8) × (List ((List UInt8) × List UInt8)) × Int) =>
     bnd (xml_parser_room N (x.1, false)) fun v3 =>
     cnd (ine v3.1 (0 : Int))
      (some v3)
      (grd (room (iadd (len v3.2.1) (len ([v2] : List ((List UInt8) × (List UInt8) × (List ((List UInt8) × List UInt8)) × Int)))) 64)
       (cnd (ieq x.2.1 (1 : Int))
        (grd (room (iadd (len v3.2.2.1) (len ([x.2.2.1] : List (List UInt8)))) 16)
         (some ((0 : Int), lapp v3.2.1 ([v2] : List ((List UInt8) × (List UInt8) × (List ((List UInt8) × List UInt8)) × Int)), lapp v3.2.2.1 ([x.2.2.1] : List (List UInt8)), false)))
        (some ((0 : Int), lapp v3.2.1 ([v2] : List ((List UInt8) × (List UInt8) × (List ((List UInt8) × List UInt8)) × Int)), v3.2.2.1, false)))))
    fun v4 =>
    fixN (fun v5 (v6 : Int × (List UInt8) × (List UInt8) × (List ((List UInt8) × List UInt8)) × Int) =>
     cnd (ilt v6.1 (len x.2.2.2.1))
      (jn (fun (v7 : (List UInt8) × (List UInt8) × (List ((List UInt8) × List UInt8)) × Int) =>
       v5 (w64 (iadd v6.1 (1 : Int)), v7))
      fun v8 =>
      grd (inb v6.1 (len x.2.2.2.1)) <|
      jn (fun (v9 : Unit) =>
       bnd (xml_meaning N (lget x.2.2.2.1 (toN v6.1) ([], [])).2) fun v10 =>
       cnd (ine v10.2 (0 : Int))
        (some (v10.2, x.1))
        (grd (room (iadd (len v6.2.2.2.1) (len ([((lget x.2.2.2.1 (toN v6.1) ([], [])).1, v10.1)] : List ((List UInt8) × List UInt8)))) 32)
         (v8 (v6.2.1, v6.2.2.1, lapp v6.2.2.2.1 ([((lget x.2.2.2.1 (toN v6.1) ([], [])).1, v10.1)] : List ((List UInt8) × List UInt8)), v6.2.2.2.2))))
      fun v11 =>
      grd (in2 v6.1 (len x.2.2.2.1)) <|
      fixN (fun v12 (v13 : Int) =>
       cnd (ilt v13 (len (ltake (toN v6.1) x.2.2.2.1)))
        (grd (inb v13 (len (ltake (toN v6.1) x.2.2.2.1)))
         (cnd (seq (lget (ltake (toN v6.1) x.2.2.2.1) (toN v13) ([], [])).1 (lget x.2.2.2.1 (toN v6.1) ([], [])).1)
          (some ((7 : Int), x.1))
          (v12 (w64 (iadd v13 (1 : Int))))))
        (v11 ())) N (0 : Int))
      (v4 v6.2)) N ((0 : Int), x.2.2.1, ([] : List UInt8), ([] : List ((List UInt8) × List UInt8)), len x.1.2.1)))
  fun v14 =>
  fixN (fun v15 (v16 : Int) =>
   cnd (ilt v16 (len v0))
    (grd (inb v16 (len v0))
     (bnd (xml_Name N (lget v0 (toN v16) [])) fun v17 =>
     cnd (bnot v17)
      (some ((5 : Int), x.1))
      (v15 (w64 (iadd v16 (1 : Int))))))
    (v14 ())) N (0 : Int))
 fun v18 =>
 fixN (fun v19 (v20 : (List (List UInt8)) × Int) =>
  cnd (ilt v20.2 (len x.2.2.2.1))
   (grd (inb v20.2 (len x.2.2.2.1))
    (grd (room (iadd (len v20.1) (len ([(lget x.2.2.2.1 (toN v20.2) ([], [])).1] : List (List UInt8)))) 16)
     (v19 (lapp v20.1 ([(lget x.2.2.2.1 (toN v20.2) ([], [])).1] : List (List UInt8)), w64 (iadd v20.2 (1 : Int))))))
   (v18 v20.1)) N (([x.2.2.1] : List (List UInt8)), (0 : Int))
def ps_xml_parser_take : List PK := [.k (.b 76 (.st (.pair (.slice (.st (.pair (.str) (.pair (.str) (.pair (.slice (.st (.pair (.str) (.str)))) (.int .i64)))))) (.pair (.slice (.str)) (.bool)))) [0, 1]), .k (.v (.st (.pair (.int .i64) (.pair (.str) (.pair (.slice (.st (.pair (.str) (.str)))) (.str))))) []), .k (.v (.bool) [])]
def rs_xml_parser_take : List Kd := [.v (.int .i64) []]
def xml_parser_take (N : Nat) (x : ((List ((List UInt8) × (List UInt8) × (List ((List UInt8) × List UInt8)) × Int)) × (List (List UInt8)) × Bool) × (Int × (List UInt8) × (List ((List UInt8) × List UInt8)) × List UInt8) × Bool) : Option (Int × (List ((List UInt8) × (List UInt8) × (List ((List UInt8) × List UInt8)) × Int)) × (List (List UInt8)) × Bool) :=
 cnd (ieq x.2.1.1 (0 : Int))
  (bnd (xml_parser_text N (x.1, x.2.1.2.2.2)) fun v0 =>
  some v0)
  (cnd (ieq x.2.1.1 (2 : Int))
   (bnd (xml_parser_end N (x.1, x.2.1)) fun v1 =>
   some v1)
   (cnd (ieq x.2.1.1 (4 : Int))
    (cnd (seq x.2.1.2.2.2 ([60, 63] : List UInt8))
     (cnd (bnot x.2.2)
      (some ((4 : Int), x.1))
      (some ((0 : Int), x.1)))
     (some ((0 : Int), x.1)))
    (bnd (xml_parser_start N (x.1, x.2.1)) fun v2 =>
    some v2)))
def ps_xml_Parse : List PK := [.k (.v (.str) [])]
def rs_xml_Parse : List Kd := [.v (.slice (.st (.pair (.str) (.pair (.str) (.pair (.slice (.st (.pair (.str) (.str)))) (.int .i64)))))) [0], .v (.slice (.st (.pair (.int .i64) (.pair (.int .i64) (.int .i64))))) [0]]
def xml_Parse (N : Nat) (x : List UInt8) : Option ((List ((List UInt8) × (List UInt8) × (List ((List UInt8) × List UInt8)) × Int)) × List (Int × Int × Int)) :=
 cnd (ilt (262144 : Int) (len x))
  (bnd (xml_at N (x, (0 : Int), (9 : Int))) fun v0 =>
  some (([] : List ((List UInt8) × (List UInt8) × (List ((List UInt8) × List UInt8)) × Int)), v0))
  (jn (fun (v1 : (List ((List UInt8) × (List UInt8) × (List ((List UInt8) × List UInt8)) × Int)) × (List (List UInt8)) × Bool) =>
   cnd (ieq (len v1.1) (0 : Int))
    (bnd (xml_at N (x, len x, (4 : Int))) fun v2 =>
    some (([] : List ((List UInt8) × (List UInt8) × (List ((List UInt8) × List UInt8)) × Int)), v2))
    (cnd (ilt (0 : Int) (len v1.2.1))
     (bnd (xml_at N (x, len x, (4 : Int))) fun v3 =>
     some (([] : List ((List UInt8) × (List UInt8) × (List ((List UInt8) × List UInt8)) × Int)), v3))
     (some (v1.1, ([] : List (Int × Int × Int))))))
  fun v4 =>
  fixN (fun v5 (v6 : Int × (List ((List UInt8) × (List UInt8) × (List ((List UInt8) × List UInt8)) × Int)) × (List (List UInt8)) × Bool) =>
   cnd (ilt v6.1 (len x))
    (grd (in2 v6.1 (len x))
     (bnd (xml_next N (ldrop (toN v6.1) x)) fun v7 =>
     cnd (bnot v7.2.2)
      (bnd (xml_at N (x, v6.1, (4 : Int))) fun v8 =>
      some (([] : List ((List UInt8) × (List UInt8) × (List ((List UInt8) × List UInt8)) × Int)), v8))
      (bnd (xml_parser_take N (v6.2, v7.1, ieq v6.1 (0 : Int))) fun v9 =>
      cnd (ine v9.1 (0 : Int))
       (bnd (xml_at N (x, v6.1, v9.1)) fun v10 =>
       some (([] : List ((List UInt8) × (List UInt8) × (List ((List UInt8) × List UInt8)) × Int)), v10))
       (v5 (w64 (iadd v6.1 v7.2.1), v9.2)))))
    (v4 v6.2)) N ((0 : Int), ([] : List ((List UInt8) × (List UInt8) × (List ((List UInt8) × List UInt8)) × Int)), ([] : List (List UInt8)), false))
def ps_xml_checkDepth : List PK := [.k (.v (.slice (.st (.pair (.str) (.pair (.str) (.pair (.slice (.st (.pair (.str) (.str)))) (.int .i64)))))) []), .k (.v (.int .i64) [])]
def rs_xml_checkDepth : List Kd := [.v (.int .i64) []]
def xml_checkDepth (N : Nat) (x : (List ((List UInt8) × (List UInt8) × (List ((List UInt8) × List UInt8)) × Int)) × Int) : Option (Int) :=
 grd (inb x.2 (len x.1)) <|
 cnd (ieq x.2 (0 : Int))
  (cnd (ine (lget x.1 (toN x.2) ([], ([], ([], (0 : Int))))).2.2.2 (0 : Int))
   (some (8 : Int))
   (some (0 : Int)))
  (grd (inb (w64 (isub x.2 (1 : Int))) (len x.1))
   (jn (fun (v0 : Int) =>
    cnd (ilt (lget x.1 (toN x.2) ([], ([], ([], (0 : Int))))).2.2.2 (1 : Int))
     (some (8 : Int))
     (cnd (ilt v0 (lget x.1 (toN x.2) ([], ([], ([], (0 : Int))))).2.2.2)
      (some (8 : Int))
      (cnd (ilt (15 : Int) (lget x.1 (toN x.2) ([], ([], ([], (0 : Int))))).2.2.2)
       (some (9 : Int))
       (some (0 : Int)))))
   fun v1 =>
   grd (inb (w64 (isub x.2 (1 : Int))) (len x.1)) <|
   cnd (sne (lget x.1 (toN (w64 (isub x.2 (1 : Int)))) ([], ([], ([], (0 : Int))))).1 ([] : List UInt8))
    (v1 (w64 (iadd (lget x.1 (toN (w64 (isub x.2 (1 : Int)))) ([], ([], ([], (0 : Int))))).2.2.2 (1 : Int))))
    (v1 (lget x.1 (toN (w64 (isub x.2 (1 : Int)))) ([], ([], ([], (0 : Int))))).2.2.2)))
def ps_xml_checkElement : List PK := [.k (.v (.st (.pair (.str) (.pair (.str) (.pair (.slice (.st (.pair (.str) (.str)))) (.int .i64))))) [])]
def rs_xml_checkElement : List Kd := [.v (.int .i64) []]
def xml_checkElement (N : Nat) (x : (List UInt8) × (List UInt8) × (List ((List UInt8) × List UInt8)) × Int) : Option (Int) :=
 bnd (xml_Name N x.1) fun v0 =>
 cnd (bnot v0)
  (some (5 : Int))
  (cnd (sne x.2.1 ([] : List UInt8))
   (some (4 : Int))
   (cnd (ilt (16 : Int) (len x.2.2.1))
    (some (9 : Int))
    (jn (fun (v1 : Unit) =>
     some (0 : Int))
    fun v2 =>
    fixN (fun v3 (v4 : Int × List ((List UInt8) × Bool)) =>
     cnd (ilt v4.1 (len x.2.2.1))
      (grd (inb v4.1 (len x.2.2.1))
       (bnd (xml_Name N (lget x.2.2.1 (toN v4.1) ([], [])).1) fun v5 =>
       cnd (bnot v5)
        (some (5 : Int))
        (cnd (mget seq false v4.2 (lget x.2.2.1 (toN v4.1) ([], [])).1)
         (some (7 : Int))
         (bnd (charset_Valid N (lget x.2.2.1 (toN v4.1) ([], [])).2) fun v6 =>
         cnd (bnot v6)
          (some (10 : Int))
          (v3 (w64 (iadd v4.1 (1 : Int)), mput seq v4.2 (lget x.2.2.1 (toN v4.1) ([], [])).1 true))))))
      (v2 ())) N ((0 : Int), ([] : List ((List UInt8) × Bool))))))
def ps_xml_checkText : List PK := [.k (.v (.slice (.st (.pair (.str) (.pair (.str) (.pair (.slice (.st (.pair (.str) (.str)))) (.int .i64)))))) []), .k (.v (.int .i64) [])]
def rs_xml_checkText : List Kd := [.v (.int .i64) []]
def xml_checkText (N : Nat) (x : (List ((List UInt8) × (List UInt8) × (List ((List UInt8) × List UInt8)) × Int)) × Int) : Option (Int) :=
 grd (inb x.2 (len x.1)) <|
 jn (fun (v0 : Bool) =>
  cnd v0
   (some (8 : Int))
   (cnd (seq (lget x.1 (toN x.2) ([], ([], ([], (0 : Int))))).2.1 ([] : List UInt8))
    (some (4 : Int))
    (cnd (ilt (0 : Int) (len (lget x.1 (toN x.2) ([], ([], ([], (0 : Int))))).2.2.1))
     (some (4 : Int))
     (bnd (charset_Valid N (lget x.1 (toN x.2) ([], ([], ([], (0 : Int))))).2.1) fun v1 =>
     cnd (bnot v1)
      (some (10 : Int))
      (some (0 : Int))))))
 fun v2 =>
 cnd (ieq x.2 (0 : Int))
  (v2 true)
  (grd (inb (w64 (isub x.2 (1 : Int))) (len x.1))
   (cnd (seq (lget x.1 (toN (w64 (isub x.2 (1 : Int)))) ([], ([], ([], (0 : Int))))).1 ([] : List UInt8))
    (grd (inb (w64 (isub x.2 (1 : Int))) (len x.1))
     (v2 (ieq (lget x.1 (toN (w64 (isub x.2 (1 : Int)))) ([], ([], ([], (0 : Int))))).2.2.2 (lget x.1 (toN x.2) ([], ([], ([], (0 : Int))))).2.2.2)))
    (v2 false)))
def ps_xml_Check : List PK := [.k (.v (.slice (.st (.pair (.str) (.pair (.str) (.pair (.slice (.st (.pair (.str) (.str)))) (.int .i64)))))) [])]
def rs_xml_Check : List Kd := [.v (.int .i64) []]
def xml_Check (N : Nat) (x : List ((List UInt8) × (List UInt8) × (List ((List UInt8) × List UInt8)) × Int)) : Option (Int) :=
 cnd (ieq (len x) (0 : Int))
  (some (6 : Int))
  (cnd (ilt (8192 : Int) (len x))
   (some (9 : Int))
   (jn (fun (v0 : Unit) =>
    some (0 : Int))
   fun v1 =>
   fixN (fun v2 (v3 : Int) =>
    cnd (ilt v3 (len x))
     (grd (inb v3 (len x))
      (bnd (xml_checkDepth N (x, v3)) fun v4 =>
      cnd (ine v4 (0 : Int))
       (some v4)
       (cnd (sne (lget x (toN v3) ([], ([], ([], (0 : Int))))).1 ([] : List UInt8))
        (bnd (xml_checkElement N (lget x (toN v3) ([], ([], ([], (0 : Int)))))) fun v5 =>
        cnd (ine v5 (0 : Int))
         (some v5)
         (v2 (w64 (iadd v3 (1 : Int)))))
        (bnd (xml_checkText N (x, v3)) fun v6 =>
        cnd (ine v6 (0 : Int))
         (some v6)
         (v2 (w64 (iadd v3 (1 : Int))))))))
     (v1 ())) N (0 : Int)))
def ps_strings_Replace : List PK := [.k (.v (.str) []), .k (.v (.str) []), .k (.v (.str) []), .k (.v (.int .i64) [])]
def rs_strings_Replace : List Kd := [.v (.str) []]
def strings_Replace (N : Nat) (x : List UInt8 × List UInt8 × List UInt8 × Int) : Option (List UInt8) := hand_strings_Replace N x
def ps_strings_ReplaceAll : List PK := [.k (.v (.str) []), .k (.v (.str) []), .k (.v (.str) [])]
def rs_strings_ReplaceAll : List Kd := [.v (.str) []]
def strings_ReplaceAll (N : Nat) (x : List UInt8 × List UInt8 × List UInt8) : Option (List UInt8) :=
 bnd (strings_Replace N (x.1, x.2.1, x.2.2, (-1 : Int))) fun v0 =>
 some v0
def ps_xml_Escape : List PK := [.k (.v (.str) [])]
def rs_xml_Escape : List Kd := [.v (.str) []]
def xml_Escape (N : Nat) (x : List UInt8) : Option (List UInt8) :=
 jn (fun (v0 : List UInt8) =>
  some v0)
 fun v1 =>
 fixN (fun v2 (v3 : (List UInt8) × Int) =>
  cnd (ilt v3.2 (5 : Int))
   (grd (inb v3.2 (ofN 5))
    (grd (ieq (len (lrep 2 ([] : List UInt8))) (ofN 2))
     (grd (inb (1 : Int) (ofN 2))
      (grd (ilt (1 : Int) (len ([lget (lget ([([lget (lget gl0 0 (lrep 2 [])) 0 [], lget (lget gl0 0 (lrep 2 [])) 1 []] : List (List UInt8)), ([lget (lget gl0 1 (lrep 2 [])) 0 [], lget (lget gl0 1 (lrep 2 [])) 1 []] : List (List UInt8)), ([lget (lget gl0 2 (lrep 2 [])) 0 [], lget (lget gl0 2 (lrep 2 [])) 1 []] : List (List UInt8)), ([lget (lget gl0 3 (lrep 2 [])) 0 [], lget (lget gl0 3 (lrep 2 [])) 1 []] : List (List UInt8)), ([lget (lget gl0 4 (lrep 2 [])) 0 [], lget (lget gl0 4 (lrep 2 [])) 1 []] : List (List UInt8))] : List (List (List UInt8))) (toN v3.2) (lrep 2 [])) 0 [], lget (lget ([([lget (lget gl0 0 (lrep 2 [])) 0 [], lget (lget gl0 0 (lrep 2 [])) 1 []] : List (List UInt8)), ([lget (lget gl0 1 (lrep 2 [])) 0 [], lget (lget gl0 1 (lrep 2 [])) 1 []] : List (List UInt8)), ([lget (lget gl0 2 (lrep 2 [])) 0 [], lget (lget gl0 2 (lrep 2 [])) 1 []] : List (List UInt8)), ([lget (lget gl0 3 (lrep 2 [])) 0 [], lget (lget gl0 3 (lrep 2 [])) 1 []] : List (List UInt8)), ([lget (lget gl0 4 (lrep 2 [])) 0 [], lget (lget gl0 4 (lrep 2 [])) 1 []] : List (List UInt8))] : List (List (List UInt8))) (toN v3.2) (lrep 2 [])) 1 []] : List (List UInt8))))
       (grd (inb (0 : Int) (ofN 2))
        (grd (ilt (0 : Int) (len ([lget (lget ([([lget (lget gl0 0 (lrep 2 [])) 0 [], lget (lget gl0 0 (lrep 2 [])) 1 []] : List (List UInt8)), ([lget (lget gl0 1 (lrep 2 [])) 0 [], lget (lget gl0 1 (lrep 2 [])) 1 []] : List (List UInt8)), ([lget (lget gl0 2 (lrep 2 [])) 0 [], lget (lget gl0 2 (lrep 2 [])) 1 []] : List (List UInt8)), ([lget (lget gl0 3 (lrep 2 [])) 0 [], lget (lget gl0 3 (lrep 2 [])) 1 []] : List (List UInt8)), ([lget (lget gl0 4 (lrep 2 [])) 0 [], lget (lget gl0 4 (lrep 2 [])) 1 []] : List (List UInt8))] : List (List (List UInt8))) (toN v3.2) (lrep 2 [])) 0 [], lget (lget ([([lget (lget gl0 0 (lrep 2 [])) 0 [], lget (lget gl0 0 (lrep 2 [])) 1 []] : List (List UInt8)), ([lget (lget gl0 1 (lrep 2 [])) 0 [], lget (lget gl0 1 (lrep 2 [])) 1 []] : List (List UInt8)), ([lget (lget gl0 2 (lrep 2 [])) 0 [], lget (lget gl0 2 (lrep 2 [])) 1 []] : List (List UInt8)), ([lget (lget gl0 3 (lrep 2 [])) 0 [], lget (lget gl0 3 (lrep 2 [])) 1 []] : List (List UInt8)), ([lget (lget gl0 4 (lrep 2 [])) 0 [], lget (lget gl0 4 (lrep 2 [])) 1 []] : List (List UInt8))] : List (List (List UInt8))) (toN v3.2) (lrep 2 [])) 1 []] : List (List UInt8))))
         (bnd (strings_ReplaceAll N (v3.1, lget ([lget (lget ([([lget (lget gl0 0 (lrep 2 [])) 0 [], lget (lget gl0 0 (lrep 2 [])) 1 []] : List (List UInt8)), ([lget (lget gl0 1 (lrep 2 [])) 0 [], lget (lget gl0 1 (lrep 2 [])) 1 []] : List (List UInt8)), ([lget (lget gl0 2 (lrep 2 [])) 0 [], lget (lget gl0 2 (lrep 2 [])) 1 []] : List (List UInt8)), ([lget (lget gl0 3 (lrep 2 [])) 0 [], lget (lget gl0 3 (lrep 2 [])) 1 []] : List (List UInt8)), ([lget (lget gl0 4 (lrep 2 [])) 0 [], lget (lget gl0 4 (lrep 2 [])) 1 []] : List (List UInt8))] : List (List (List UInt8))) (toN v3.2) (lrep 2 [])) 0 [], lget (lget ([([lget (lget gl0 0 (lrep 2 [])) 0 [], lget (lget gl0 0 (lrep 2 [])) 1 []] : List (List UInt8)), ([lget (lget gl0 1 (lrep 2 [])) 0 [], lget (lget gl0 1 (lrep 2 [])) 1 []] : List (List UInt8)), ([lget (lget gl0 2 (lrep 2 [])) 0 [], lget (lget gl0 2 (lrep 2 [])) 1 []] : List (List UInt8)), ([lget (lget gl0 3 (lrep 2 [])) 0 [], lget (lget gl0 3 (lrep 2 [])) 1 []] : List (List UInt8)), ([lget (lget gl0 4 (lrep 2 [])) 0 [], lget (lget gl0 4 (lrep 2 [])) 1 []] : List (List UInt8))] : List (List (List UInt8))) (toN v3.2) (lrep 2 [])) 1 []] : List (List UInt8)) (toN (1 : Int)) [], lget ([lget (lget ([([lget (lget gl0 0 (lrep 2 [])) 0 [], lget (lget gl0 0 (lrep 2 [])) 1 []] : List (List UInt8)), ([lget (lget gl0 1 (lrep 2 [])) 0 [], lget (lget gl0 1 (lrep 2 [])) 1 []] : List (List UInt8)), ([lget (lget gl0 2 (lrep 2 [])) 0 [], lget (lget gl0 2 (lrep 2 [])) 1 []] : List (List UInt8)), ([lget (lget gl0 3 (lrep 2 [])) 0 [], lget (lget gl0 3 (lrep 2 [])) 1 []] : List (List UInt8)), ([lget (lget gl0 4 (lrep 2 [])) 0 [], lget (lget gl0 4 (lrep 2 [])) 1 []] : List (List UInt8))] : List (List (List UInt8))) (toN v3.2) (lrep 2 [])) 0 [], lget (lget ([([lget (lget gl0 0 (lrep 2 [])) 0 [], lget (lget gl0 0 (lrep 2 [])) 1 []] : List (List UInt8)), ([lget (lget gl0 1 (lrep 2 [])) 0 [], lget (lget gl0 1 (lrep 2 [])) 1 []] : List (List UInt8)), ([lget (lget gl0 2 (lrep 2 [])) 0 [], lget (lget gl0 2 (lrep 2 [])) 1 []] : List (List UInt8)), ([lget (lget gl0 3 (lrep 2 [])) 0 [], lget (lget gl0 3 (lrep 2 [])) 1 []] : List (List UInt8)), ([lget (lget gl0 4 (lrep 2 [])) 0 [], lget (lget gl0 4 (lrep 2 [])) 1 []] : List (List UInt8))] : List (List (List UInt8))) (toN v3.2) (lrep 2 [])) 1 []] : List (List UInt8)) (toN (0 : Int)) [])) fun v4 =>
         v2 (v4, w64 (iadd v3.2 (1 : Int))))))))))
   (v1 v3.1)) N (x, (0 : Int))
def ps_strings_Builder_Len : List PK := [.k (.b 55 (.st (.pair (.nptr) (.slice (.u8)))) [1])]
def rs_strings_Builder_Len : List Kd := [.v (.int .i64) []]
def strings_Builder_Len (N : Nat) (x : Unit × List UInt8) : Option (Int × Unit × List UInt8) :=
 some (len x.2, (), x.2)
def ps_xml_Print : List PK := [.k (.v (.slice (.st (.pair (.str) (.pair (.str) (.pair (.slice (.st (.pair (.str) (.str)))) (.int .i64)))))) [])]
def rs_xml_Print : List Kd := [.v (.str) [], .v (.int .i64) []]
def xml_Print (N : Nat) (x : List ((List UInt8) × (List UInt8) × (List ((List UInt8) × List UInt8)) × Int)) : Option (List UInt8 × Int) :=
 bnd (xml_Check N x) fun v0 =>
 cnd (ine v0 (0 : Int))
  (some (([] : List UInt8), v0))
  (jn (fun (v1 : (List (List UInt8)) × Unit × List UInt8) =>
   jn (fun (v2 : Unit × List UInt8) =>
    bnd (strings_Builder_Len N ((), v2.2)) fun v3 =>
    cnd (ilt (262144 : Int) v3.1)
     (some (([] : List UInt8), (9 : Int)))
     (some (v3.2.2, (0 : Int))))
   fun v4 =>
   fixN (fun v5 (v6 : Int × Unit × List UInt8) =>
    cnd (ile (0 : Int) v6.1)
     (grd (inb v6.1 (len v1.1))
      (grd (catOk (iadd (len ([60, 47] : List UInt8)) (len (lget v1.1 (toN v6.1) []))))
       (grd (catOk (iadd (len (lapp ([60, 47] : List UInt8) (lget v1.1 (toN v6.1) []))) (len ([62] : List UInt8))))
        (bnd (strings_Builder_WriteString N (((), v6.2.2), lapp (lapp ([60, 47] : List UInt8) (lget v1.1 (toN v6.1) [])) ([62] : List UInt8))) fun v7 =>
        v5 (w64 (isub v6.1 (1 : Int)), (), v7.2.2.2)))))
     (v4 ((), v6.2.2))) N (w64 (isub (len v1.1) (1 : Int)), (), v1.2.2))
  fun v8 =>
  fixN (fun v9 (v10 : (List (List UInt8)) × Int × Unit × List UInt8) =>
   cnd (ilt v10.2.1 (len x))
    (jn (fun (v11 : (List (List UInt8)) × Unit × List UInt8) =>
     v9 (v11.1, w64 (iadd v10.2.1 (1 : Int)), (), v11.2.2))
    fun v12 =>
    grd (inb v10.2.1 (len x)) <|
    jn (fun (v13 : (List (List UInt8)) × Unit × List UInt8) =>
     cnd (seq (lget x (toN v10.2.1) ([], ([], ([], (0 : Int))))).1 ([] : List UInt8))
      (bnd (xml_Escape N (lget x (toN v10.2.1) ([], ([], ([], (0 : Int))))).2.1) fun v14 =>
      bnd (strings_Builder_WriteString N (((), v13.2.2), v14)) fun v15 =>
      v12 (v13.1, (), v15.2.2.2))
      (grd (catOk (iadd (len ([60] : List UInt8)) (len (lget x (toN v10.2.1) ([], ([], ([], (0 : Int))))).1)))
       (bnd (strings_Builder_WriteString N (((), v13.2.2), lapp ([60] : List UInt8) (lget x (toN v10.2.1) ([], ([], ([], (0 : Int))))).1)) fun v16 =>
       jn (fun (v17 : Unit × List UInt8) =>
        cnd (ilt (w64 (iadd v10.2.1 (1 : Int))) (len x))
         (grd (inb (w64 (iadd v10.2.1 (1 : Int))) (len x))
          (cnd (ilt (lget x (toN v10.2.1) ([], ([], ([], (0 : Int))))).2.2.2 (lget x (toN (w64 (iadd v10.2.1 (1 : Int)))) ([], ([], ([], (0 : Int))))).2.2.2)
           (bnd (strings_Builder_WriteString N (((), v17.2), ([62] : List UInt8))) fun v18 =>
           grd (room (iadd (len v13.1) (len ([(lget x (toN v10.2.1) ([], ([], ([], (0 : Int))))).1] : List (List UInt8)))) 16) <|
           v12 (lapp v13.1 ([(lget x (toN v10.2.1) ([], ([], ([], (0 : Int))))).1] : List (List UInt8)), (), v18.2.2.2))
           (bnd (strings_Builder_WriteString N (((), v17.2), ([47, 62] : List UInt8))) fun v19 =>
           v12 (v13.1, (), v19.2.2.2))))
         (bnd (strings_Builder_WriteString N (((), v17.2), ([47, 62] : List UInt8))) fun v20 =>
         v12 (v13.1, (), v20.2.2.2)))
       fun v21 =>
       fixN (fun v22 (v23 : Int × Unit × List UInt8) =>
        cnd (ilt v23.1 (len (lget x (toN v10.2.1) ([], ([], ([], (0 : Int))))).2.2.1))
         (grd (inb v23.1 (len (lget x (toN v10.2.1) ([], ([], ([], (0 : Int))))).2.2.1))
          (grd (catOk (iadd (len ([32] : List UInt8)) (len (lget (lget x (toN v10.2.1) ([], ([], ([], (0 : Int))))).2.2.1 (toN v23.1) ([], [])).1)))
           (grd (catOk (iadd (len (lapp ([32] : List UInt8) (lget (lget x (toN v10.2.1) ([], ([], ([], (0 : Int))))).2.2.1 (toN v23.1) ([], [])).1)) (len ([61, 34] : List UInt8))))
            (bnd (xml_Escape N (lget (lget x (toN v10.2.1) ([], ([], ([], (0 : Int))))).2.2.1 (toN v23.1) ([], [])).2) fun v24 =>
            grd (catOk (iadd (len (lapp (lapp ([32] : List UInt8) (lget (lget x (toN v10.2.1) ([], ([], ([], (0 : Int))))).2.2.1 (toN v23.1) ([], [])).1) ([61, 34] : List UInt8))) (len v24))) <|
            grd (catOk (iadd (len (lapp (lapp (lapp ([32] : List UInt8) (lget (lget x (toN v10.2.1) ([], ([], ([], (0 : Int))))).2.2.1 (toN v23.1) ([], [])).1) ([61, 34] : List UInt8)) v24)) (len ([34] : List UInt8)))) <|
            bnd (strings_Builder_WriteString N (((), v23.2.2), lapp (lapp (lapp (lapp ([32] : List UInt8) (lget (lget x (toN v10.2.1) ([], ([], ([], (0 : Int))))).2.2.1 (toN v23.1) ([], [])).1) ([61, 34] : List UInt8)) v24) ([34] : List UInt8))) fun v25 =>
            v22 (w64 (iadd v23.1 (1 : Int)), (), v25.2.2.2)))))
         (v21 ((), v23.2.2))) N ((0 : Int), (), v16.2.2.2))))
    fun v26 =>
    fixN (fun v27 (v28 : (List (List UInt8)) × Unit × List UInt8) =>
     cnd (ilt (lget x (toN v10.2.1) ([], ([], ([], (0 : Int))))).2.2.2 (len v28.1))
      (grd (inb (w64 (isub (len v28.1) (1 : Int))) (len v28.1))
       (grd (catOk (iadd (len ([60, 47] : List UInt8)) (len (lget v28.1 (toN (w64 (isub (len v28.1) (1 : Int)))) []))))
        (grd (catOk (iadd (len (lapp ([60, 47] : List UInt8) (lget v28.1 (toN (w64 (isub (len v28.1) (1 : Int)))) []))) (len ([62] : List UInt8))))
         (bnd (strings_Builder_WriteString N (((), v28.2.2), lapp (lapp ([60, 47] : List UInt8) (lget v28.1 (toN (w64 (isub (len v28.1) (1 : Int)))) [])) ([62] : List UInt8))) fun v29 =>
         grd (in2 (w64 (isub (len v28.1) (1 : Int))) (ofN (nlen v28.1))) <|
         v27 (cutl v28.1 0 (toN (w64 (isub (len v28.1) (1 : Int)))), (), v29.2.2.2)))))
      (v26 (v28.1, (), v28.2.2))) N (v10.1, (), v10.2.2.2))
    (v8 (v10.1, (), v10.2.2.2))) N (([] : List (List UInt8)), (0 : Int), (), ([] : List UInt8)))
def ps_slices_Equal_Lapi_Attr_api_Attr : List PK := [.k (.v (.slice (.st (.pair (.str) (.str)))) []), .k (.v (.slice (.st (.pair (.str) (.str)))) [])]
def rs_slices_Equal_Lapi_Attr_api_Attr : List Kd := [.v (.bool) []]
def slices_Equal_Lapi_Attr_api_Attr (N : Nat) (x : (List ((List UInt8) × List UInt8)) × List ((List UInt8) × List UInt8)) : Option (Bool) :=
 cnd (ine (len x.1) (len x.2))
  (some false)
  (jn (fun (v0 : Unit) =>
   some true)
  fun v1 =>
  fixN (fun v2 (v3 : Int) =>
   cnd (ilt v3 (len x.1))
    (grd (inb v3 (len x.1))
     (grd (inb v3 (len x.2))
      (cnd (bnot (band (seq (lget x.1 (toN v3) ([], [])).1 (lget x.2 (toN v3) ([], [])).1) (seq (lget x.1 (toN v3) ([], [])).2 (lget x.2 (toN v3) ([], [])).2)))
       (some false)
       (v2 (w64 (iadd v3 (1 : Int)))))))
    (v1 ())) N (0 : Int))
def ps_l20_equal : List PK := [.k (.v (.st (.pair (.str) (.pair (.str) (.pair (.slice (.st (.pair (.str) (.str)))) (.int .i64))))) []), .k (.v (.st (.pair (.str) (.pair (.str) (.pair (.slice (.st (.pair (.str) (.str)))) (.int .i64))))) [])]
def rs_l20_equal : List Kd := [.v (.bool) []]
def l20_equal (N : Nat) (x : ((List UInt8) × (List UInt8) × (List ((List UInt8) × List UInt8)) × Int) × (List UInt8) × (List UInt8) × (List ((List UInt8) × List UInt8)) × Int) : Option (Bool) :=
 cnd (seq x.1.1 x.2.1)
  (cnd (seq x.1.2.1 x.2.2.1)
   (cnd (ieq x.1.2.2.2 x.2.2.2.2)
    (bnd (slices_Equal_Lapi_Attr_api_Attr N (x.1.2.2.1, x.2.2.2.1)) fun v0 =>
    some v0)
    (some false))
   (some false))
  (some false)
def ps_slices_EqualFunc_Lapi_Node_Lapi_Node_api_Node_api_Node : List PK := [.k (.v (.slice (.st (.pair (.str) (.pair (.str) (.pair (.slice (.st (.pair (.str) (.str)))) (.int .i64)))))) []), .k (.v (.slice (.st (.pair (.str) (.pair (.str) (.pair (.slice (.st (.pair (.str) (.str)))) (.int .i64)))))) []), .fn 59]
def rs_slices_EqualFunc_Lapi_Node_Lapi_Node_api_Node_api_Node : List Kd := [.v (.bool) []]
def slices_EqualFunc_Lapi_Node_Lapi_Node_api_Node_api_Node (N : Nat) (x : (List ((List UInt8) × (List UInt8) × (List ((List UInt8) × List UInt8)) × Int)) × List ((List UInt8) × (List UInt8) × (List ((List UInt8) × List UInt8)) × Int)) : Option (Bool) :=
 cnd (ine (len x.1) (len x.2))
  (some false)
  (jn (fun (v0 : Unit) =>
   some true)
  fun v1 =>
  fixN (fun v2 (v3 : Int) =>
   cnd (ilt v3 (len x.1))
    (grd (inb v3 (len x.1))
     (grd (inb v3 (len x.2))
      (bnd (l20_equal N (lget x.1 (toN v3) ([], ([], ([], (0 : Int)))), lget x.2 (toN v3) ([], ([], ([], (0 : Int)))))) fun v4 =>
      cnd (bnot v4)
       (some false)
       (v2 (w64 (iadd v3 (1 : Int)))))))
    (v1 ())) N (0 : Int))
def ps_l20_same : List PK := [.k (.v (.slice (.st (.pair (.str) (.pair (.str) (.pair (.slice (.st (.pair (.str) (.str)))) (.int .i64)))))) []), .k (.v (.slice (.st (.pair (.str) (.pair (.str) (.pair (.slice (.st (.pair (.str) (.str)))) (.int .i64)))))) [])]
def rs_l20_same : List Kd := [.v (.bool) []]
def l20_same (N : Nat) (x : (List ((List UInt8) × (List UInt8) × (List ((List UInt8) × List UInt8)) × Int)) × List ((List UInt8) × (List UInt8) × (List ((List UInt8) × List UInt8)) × Int)) : Option (Bool) :=
 bnd (slices_EqualFunc_Lapi_Node_Lapi_Node_api_Node_api_Node N x) fun v0 =>
 some v0
def ps_slices_Equal_Lapi_Diag_api_Diag : List PK := [.k (.v (.slice (.st (.pair (.int .i64) (.pair (.int .i64) (.int .i64))))) []), .k (.v (.slice (.st (.pair (.int .i64) (.pair (.int .i64) (.int .i64))))) [])]
def rs_slices_Equal_Lapi_Diag_api_Diag : List Kd := [.v (.bool) []]
def slices_Equal_Lapi_Diag_api_Diag (N : Nat) (x : (List (Int × Int × Int)) × List (Int × Int × Int)) : Option (Bool) :=
 cnd (ine (len x.1) (len x.2))
  (some false)
  (jn (fun (v0 : Unit) =>
   some true)
  fun v1 =>
  fixN (fun v2 (v3 : Int) =>
   cnd (ilt v3 (len x.1))
    (grd (inb v3 (len x.1))
     (grd (inb v3 (len x.2))
      (cnd (bnot (band (ieq (lget x.1 (toN v3) ((0 : Int), ((0 : Int), (0 : Int)))).1 (lget x.2 (toN v3) ((0 : Int), ((0 : Int), (0 : Int)))).1) (band (ieq (lget x.1 (toN v3) ((0 : Int), ((0 : Int), (0 : Int)))).2.1 (lget x.2 (toN v3) ((0 : Int), ((0 : Int), (0 : Int)))).2.1) (ieq (lget x.1 (toN v3) ((0 : Int), ((0 : Int), (0 : Int)))).2.2 (lget x.2 (toN v3) ((0 : Int), ((0 : Int), (0 : Int)))).2.2))))
       (some false)
       (v2 (w64 (iadd v3 (1 : Int)))))))
    (v1 ())) N (0 : Int))
def ps_l20_awake : List PK := []
def rs_l20_awake : List Kd := [.v (.bool) []]
def l20_awake (N : Nat) (x : Unit) : Option (Bool) :=
 bnd (xml_Parse N ([60, 63, 118, 63, 62, 60, 97, 32, 98, 61, 39, 49, 32, 38, 97, 109, 112, 59, 32, 50, 39, 62, 10, 32, 60, 99, 47, 62, 120, 60, 33, 45, 45, 32, 121, 32, 45, 45, 62, 122, 60, 47, 97, 62, 10] : List UInt8)) fun v0 =>
 bnd (xml_Print N ([(([97] : List UInt8), ([] : List UInt8), ([(([98] : List UInt8), ([49, 32, 38, 32, 50] : List UInt8))] : List ((List UInt8) × List UInt8)), (0 : Int)), (([99] : List UInt8), ([] : List UInt8), ([] : List ((List UInt8) × List UInt8)), (1 : Int)), (([] : List UInt8), ([120, 122] : List UInt8), ([] : List ((List UInt8) × List UInt8)), (1 : Int))] : List ((List UInt8) × (List UInt8) × (List ((List UInt8) × List UInt8)) × Int))) fun v1 =>
 cnd (ine (len v0.2) (0 : Int))
  (some false)
  (bnd (l20_same N (v0.1, ([(([97] : List UInt8), ([] : List UInt8), ([(([98] : List UInt8), ([49, 32, 38, 32, 50] : List UInt8))] : List ((List UInt8) × List UInt8)), (0 : Int)), (([99] : List UInt8), ([] : List UInt8), ([] : List ((List UInt8) × List UInt8)), (1 : Int)), (([] : List UInt8), ([120, 122] : List UInt8), ([] : List ((List UInt8) × List UInt8)), (1 : Int))] : List ((List UInt8) × (List UInt8) × (List ((List UInt8) × List UInt8)) × Int)))) fun v2 =>
  cnd (bnot v2)
   (some false)
   (cnd (ine v1.2 (0 : Int))
    (some false)
    (cnd (sne v1.1 ([60, 97, 32, 98, 61, 34, 49, 32, 38, 97, 109, 112, 59, 32, 50, 34, 62, 60, 99, 47, 62, 120, 122, 60, 47, 97, 62] : List UInt8))
     (some false)
     (bnd (xml_Parse N ([60, 97, 62, 60, 47, 98, 62] : List UInt8)) fun v3 =>
     bnd (xml_Parse N ([60, 97, 62] : List UInt8)) fun v4 =>
     bnd (xml_Parse N ([60, 97, 47, 62, 10, 120] : List UInt8)) fun v5 =>
     bnd (slices_Equal_Lapi_Diag_api_Diag N (v3.2, ([((1 : Int), (4 : Int), (8 : Int))] : List (Int × Int × Int)))) fun v6 =>
     cnd v6
      (bnd (slices_Equal_Lapi_Diag_api_Diag N (v4.2, ([((1 : Int), (4 : Int), (4 : Int))] : List (Int × Int × Int)))) fun v7 =>
      cnd v7
       (bnd (slices_Equal_Lapi_Diag_api_Diag N (v5.2, ([((1 : Int), (5 : Int), (8 : Int))] : List (Int × Int × Int)))) fun v8 =>
       some v8)
       (some false))
      (some false)))))
def ps_l20_short : List PK := [.k (.v (.str) [])]
def rs_l20_short : List Kd := [.v (.str) []]
def l20_short (N : Nat) (x : List UInt8) : Option (List UInt8) :=
 grd (in2 (imin (len x) (400 : Int)) (len x)) <|
 some (ltake (toN (imin (len x) (400 : Int))) x)
def ps_l20_XmlValid : List PK := [.k (.v (.str) [])]
def rs_l20_XmlValid : List Kd := [.v (.bool) []]
def l20_XmlValid (N : Nat) (x : List UInt8) : Option (Bool) :=
 bnd (l20_awake N ()) fun v0 =>
 cnd (bnot v0)
  (some false)
  (bnd (l20_short N x) fun v1 =>
  bnd (xml_Parse N v1) fun v2 =>
  cnd (ilt (0 : Int) (len v2.2))
   (cnd (ieq (len v2.1) (0 : Int))
    (some (ieq (len v2.2) (1 : Int)))
    (some false))
   (bnd (xml_Print N v2.1) fun v3 =>
   bnd (xml_Parse N v3.1) fun v4 =>
   bnd (xml_Check N v2.1) fun v5 =>
   cnd (ieq v5 (0 : Int))
    (cnd (ieq v3.2 (0 : Int))
     (cnd (ieq (len v4.2) (0 : Int))
      (bnd (l20_same N (v2.1, v4.1)) fun v6 =>
      some v6)
      (some false))
     (some false))
    (some false)))
def ps_r20_digit : List PK := [.k (.v (.u8) [])]
def rs_r20_digit : List Kd := [.v (.bool) []]
def r20_digit (N : Nat) (x : UInt8) : Option (Bool) :=
 cnd (ile (n8 (48 : UInt8)) (n8 x))
  (some (ile (n8 x) (n8 (57 : UInt8))))
  (some false)
def ps_r20_hex : List PK := [.k (.v (.u8) [])]
def rs_r20_hex : List Kd := [.v (.int .i64) []]
def r20_hex (N : Nat) (x : UInt8) : Option (Int) :=
 bnd (r20_digit N x) fun v0 =>
 cnd v0
  (some (w64 (n8 (b8 (isub (n8 x) (n8 (48 : UInt8)))))))
  (jn (fun (v1 : Bool) =>
   cnd v1
    (some (w64 (iadd (w64 (n8 (b8 (isub (n8 x) (n8 (97 : UInt8)))))) (10 : Int))))
    (cnd (ile (n8 (65 : UInt8)) (n8 x))
     (cnd (ile (n8 x) (n8 (70 : UInt8)))
      (some (w64 (iadd (w64 (n8 (b8 (isub (n8 x) (n8 (65 : UInt8)))))) (10 : Int))))
      (some (-1 : Int)))
     (some (-1 : Int))))
  fun v2 =>
  cnd (ile (n8 (97 : UInt8)) (n8 x))
   (v2 (ile (n8 x) (n8 (102 : UInt8))))
   (v2 false))
def ps_r20_code : List PK := [.k (.v (.str) []), .k (.v (.int .i64) []), .k (.v (.int .i64) [])]
def rs_r20_code : List Kd := [.v (.int .i64) []]
def r20_code (N : Nat) (x : List UInt8 × Int × Int) : Option (Int) :=
 cnd (seq x.1 ([] : List UInt8))
  (some (-1 : Int))
  (cnd (ilt x.2.2 (len x.1))
   (some (-1 : Int))
   (jn (fun (v0 : Int) =>
    some v0)
   fun v1 =>
   fixN (fun v2 (v3 : Int × Int) =>
    cnd (ilt v3.2 (len x.1))
     (grd (inb v3.2 (len x.1))
      (bnd (r20_hex N (lget x.1 (toN v3.2) (0 : UInt8))) fun v4 =>
      cnd (ilt v4 (0 : Int))
       (some (-1 : Int))
       (cnd (ile x.2.1 v4)
        (some (-1 : Int))
        (v2 (w64 (iadd (w64 (imul v3.1 x.2.1)) v4), w64 (iadd v3.2 (1 : Int)))))))
     (v1 v3.1)) N ((0 : Int), (0 : Int))))
def ps_r08_Repertoire : List PK := []
def rs_r08_Repertoire : List Kd := [.v (.str) []]
def r08_Repertoire (N : Nat) (x : Unit) : Option (List UInt8) :=
 some ([32, 33, 34, 35, 36, 37, 38, 39, 40, 41, 42, 43, 44, 45, 46, 47, 48, 49, 50, 51, 52, 53, 54, 55, 56, 57, 58, 59, 60, 61, 62, 63, 64, 65, 66, 67, 68, 69, 70, 71, 72, 73, 74, 75, 76, 77, 78, 79, 80, 81, 82, 83, 84, 85, 86, 87, 88, 89, 90, 91, 92, 93, 94, 95, 96, 97, 98, 99, 100, 101, 102, 103, 104, 105, 106, 107, 108, 109, 110, 111, 112, 113, 114, 115, 116, 117, 118, 119, 120, 121, 122, 123, 124, 125, 126, 194, 161, 194, 162, 194, 163, 194, 164, 194, 165, 194, 166, 194, 167, 194, 169, 194, 171, 194, 174, 194, 176, 194, 183, 194, 187, 194, 189, 194, 191, 195, 128, 195, 129, 195, 130, 195, 131, 195, 132, 195, 133, 195, 134, 195, 135, 195, 136, 195, 137, 195, 138, 195, 139, 195, 140, 195, 141, 195, 142, 195, 143, 195, 145, 195, 146, 195, 147, 195, 148, 195, 149, 195, 150, 195, 152, 195, 153, 195, 154, 195, 155, 195, 156, 195, 159, 195, 160, 195, 161, 195, 162, 195, 163, 195, 164, 195, 165, 195, 166, 195, 167, 195, 168, 195, 169, 195, 170, 195, 171, 195, 172, 195, 173, 195, 174, 195, 175, 195, 177, 195, 178, 195, 179, 195, 180, 195, 181, 195, 182, 195, 184, 195, 185, 195, 186, 195, 187, 195, 188, 197, 146, 197, 147, 226, 128, 148, 226, 128, 152, 226, 128, 153, 226, 128, 156, 226, 128, 157, 226, 128, 162, 226, 128, 166, 226, 132, 162, 226, 153, 170] : List UInt8)
def ps_r08_Index : List PK := [.k (.v (.int .i32) [])]
def rs_r08_Index : List Kd := [.v (.int .i64) []]
def r08_Index (N : Nat) (x : Int) : Option (Int) :=
 jn (fun (v0 : Unit) =>
  jn (fun (v1 : Unit) =>
   some (-1 : Int))
  fun v2 =>
  bnd (r08_Repertoire N ()) fun v3 =>
  fixN (fun v4 (v5 : Int × (List UInt8) × Int) =>
   cnd (nlt (toN v5.2.2) (nlen v5.2.1))
    (cnd (ieq (decR v5.2.1 (toN v5.2.2)) x)
     (some v5.1)
     (v4 (w64 (iadd v5.1 (1 : Int)), v5.2.1, ofN (nadd (toN v5.2.2) (decW v5.2.1 (toN v5.2.2))))))
    (v2 ())) N ((0 : Int), v3, ofN 0))
 fun v6 =>
 cnd (ile (32 : Int) x)
  (cnd (ile x (126 : Int))
   (some (w64 (wr .i32 (isub x (32 : Int)))))
   (v6 ()))
  (v6 ())
def ps_r08_Of : List PK := [.k (.v (.slice (.int .i32)) [])]
def rs_r08_Of : List Kd := [.v (.str) []]
def r08_Of (N : Nat) (x : List Int) : Option (List UInt8) :=
 jn (fun (v0 : List UInt8) =>
  some v0)
 fun v1 =>
 fixN (fun v2 (v3 : (List UInt8) × Int) =>
  cnd (ilt v3.2 (len x))
   (grd (inb v3.2 (len x))
    (bnd (r08_Index N (lget x (toN v3.2) (0 : Int))) fun v4 =>
    cnd (ilt v4 (0 : Int))
     (some ([] : List UInt8))
     (grd (catOk (iadd (len v3.1) (len (enc (lget x (toN v3.2) (0 : Int))))))
      (v2 (lapp v3.1 (enc (lget x (toN v3.2) (0 : Int))), w64 (iadd v3.2 (1 : Int)))))))
   (v1 v3.1)) N (([] : List UInt8), (0 : Int))
def ps_r20_reference : List PK := [.k (.v (.str) [])]
def rs_r20_reference : List Kd := [.v (.str) [], .v (.int .i64) []]
def r20_reference (N : Nat) (x : List UInt8) : Option (List UInt8 × Int) :=
 jn (fun (v0 : Unit) =>
  jn (fun (v1 : Int) =>
   cnd (ilt v1 (0 : Int))
    (some (([] : List UInt8), (4 : Int)))
    (bnd (r08_Index N (wr .i32 v1)) fun v2 =>
    cnd (ilt v2 (0 : Int))
     (some (([] : List UInt8), (10 : Int)))
     (bnd (r08_Of N ([wr .i32 v1] : List Int)) fun v3 =>
     some (v3, (0 : Int)))))
  fun v4 =>
  jn (fun (v5 : Bool) =>
   cnd v5
    (grd (in2 (2 : Int) (len x))
     (bnd (r20_code N (ldrop (toN (2 : Int)) x, (16 : Int), (5 : Int))) fun v6 =>
     v4 v6))
    (cnd (ilt (0 : Int) (len x))
     (grd (inb (0 : Int) (len x))
      (cnd (ieq (n8 (lget x (toN (0 : Int)) (0 : UInt8))) (n8 (35 : UInt8)))
       (grd (in2 (1 : Int) (len x))
        (bnd (r20_code N (ldrop (toN (1 : Int)) x, (10 : Int), (6 : Int))) fun v7 =>
        v4 v7))
       (v4 (-1 : Int))))
     (v4 (-1 : Int))))
  fun v8 =>
  cnd (ilt (1 : Int) (len x))
   (grd (inb (0 : Int) (len x))
    (cnd (ieq (n8 (lget x (toN (0 : Int)) (0 : UInt8))) (n8 (35 : UInt8)))
     (grd (inb (1 : Int) (len x))
      (v8 (ieq (n8 (lget x (toN (1 : Int)) (0 : UInt8))) (n8 (120 : UInt8)))))
     (v8 false)))
   (v8 false))
 fun v9 =>
 fixN (fun v10 (v11 : Int) =>
  cnd (ilt v11 (len ([([97, 109, 112] : List UInt8), ([108, 116] : List UInt8), ([103, 116] : List UInt8), ([113, 117, 111, 116] : List UInt8), ([97, 112, 111, 115] : List UInt8)] : List (List UInt8))))
   (grd (inb v11 (len ([([97, 109, 112] : List UInt8), ([108, 116] : List UInt8), ([103, 116] : List UInt8), ([113, 117, 111, 116] : List UInt8), ([97, 112, 111, 115] : List UInt8)] : List (List UInt8))))
    (cnd (seq (lget ([([97, 109, 112] : List UInt8), ([108, 116] : List UInt8), ([103, 116] : List UInt8), ([113, 117, 111, 116] : List UInt8), ([97, 112, 111, 115] : List UInt8)] : List (List UInt8)) (toN v11) []) x)
     (grd (inb v11 (len ([([38] : List UInt8), ([60] : List UInt8), ([62] : List UInt8), ([34] : List UInt8), ([39] : List UInt8)] : List (List UInt8))))
      (some (lget ([([38] : List UInt8), ([60] : List UInt8), ([62] : List UInt8), ([34] : List UInt8), ([39] : List UInt8)] : List (List UInt8)) (toN v11) [], (0 : Int))))
     (v10 (w64 (iadd v11 (1 : Int))))))
   (v9 ())) N (0 : Int)
def ps_r20_Unescape : List PK := [.k (.v (.str) [])]
def rs_r20_Unescape : List Kd := [.v (.str) [], .v (.int .i64) []]
def r20_Unescape (N : Nat) (x : List UInt8) : Option (List UInt8 × Int) :=
 jn (fun (v0 : List UInt8) =>
  some (v0, (0 : Int)))
 fun v1 =>
 fixN (fun v2 (v3 : (List UInt8) × Int) =>
  cnd (ilt v3.2 (len x))
   (jn (fun (v4 : (List UInt8) × Int) =>
    v2 (v4.1, w64 (iadd v4.2 (1 : Int))))
   fun v5 =>
   grd (inb v3.2 (len x)) <|
   cnd (ieq (n8 (lget x (toN v3.2) (0 : UInt8))) (n8 (60 : UInt8)))
    (some (([] : List UInt8), (4 : Int)))
    (grd (inb v3.2 (len x))
     (cnd (ine (n8 (lget x (toN v3.2) (0 : UInt8))) (n8 (38 : UInt8)))
      (grd (in3 v3.2 (w64 (iadd v3.2 (1 : Int))) (len x))
       (grd (catOk (iadd (len v3.1) (len (ldrop (toN v3.2) (ltake (toN (w64 (iadd v3.2 (1 : Int)))) x)))))
        (v5 (lapp v3.1 (ldrop (toN v3.2) (ltake (toN (w64 (iadd v3.2 (1 : Int)))) x)), v3.2))))
      (jn (fun (v6 : Int) =>
       cnd (ieq v6 (len x))
        (some (([] : List UInt8), (4 : Int)))
        (grd (in3 (w64 (iadd v3.2 (1 : Int))) v6 (len x))
         (bnd (r20_reference N (ldrop (toN (w64 (iadd v3.2 (1 : Int)))) (ltake (toN v6) x))) fun v7 =>
         cnd (ine v7.2 (0 : Int))
          (some (([] : List UInt8), v7.2))
          (grd (catOk (iadd (len v3.1) (len v7.1)))
           (v5 (lapp v3.1 v7.1, v6))))))
      fun v8 =>
      fixN (fun v9 (v10 : Int) =>
       cnd (ilt v10 (len x))
        (grd (inb v10 (len x))
         (cnd (ine (n8 (lget x (toN v10) (0 : UInt8))) (n8 (59 : UInt8)))
          (v9 (w64 (iadd v10 (1 : Int))))
          (v8 v10)))
        (v8 v10)) N (w64 (iadd v3.2 (1 : Int)))))))
   (v1 v3.1)) N (([] : List UInt8), (0 : Int))
def ps_r20_Escape : List PK := [.k (.v (.str) [])]
def rs_r20_Escape : List Kd := [.v (.str) []]
def r20_Escape (N : Nat) (x : List UInt8) : Option (List UInt8) :=
 jn (fun (v0 : List UInt8) =>
  some v0)
 fun v1 =>
 fixN (fun v2 (v3 : (List UInt8) × Int) =>
  cnd (ilt v3.2 (len x))
   (jn (fun (v4 : List UInt8) =>
    v2 (v4, w64 (iadd v3.2 (1 : Int))))
   fun v5 =>
   grd (inb v3.2 (len x)) <|
   cnd (ieq (n8 (lget x (toN v3.2) (0 : UInt8))) (n8 (38 : UInt8)))
    (grd (catOk (iadd (len v3.1) (len ([38, 97, 109, 112, 59] : List UInt8))))
     (v5 (lapp v3.1 ([38, 97, 109, 112, 59] : List UInt8))))
    (cnd (ieq (n8 (lget x (toN v3.2) (0 : UInt8))) (n8 (60 : UInt8)))
     (grd (catOk (iadd (len v3.1) (len ([38, 108, 116, 59] : List UInt8))))
      (v5 (lapp v3.1 ([38, 108, 116, 59] : List UInt8))))
     (cnd (ieq (n8 (lget x (toN v3.2) (0 : UInt8))) (n8 (62 : UInt8)))
      (grd (catOk (iadd (len v3.1) (len ([38, 103, 116, 59] : List UInt8))))
       (v5 (lapp v3.1 ([38, 103, 116, 59] : List UInt8))))
      (cnd (ieq (n8 (lget x (toN v3.2) (0 : UInt8))) (n8 (34 : UInt8)))
       (grd (catOk (iadd (len v3.1) (len ([38, 113, 117, 111, 116, 59] : List UInt8))))
        (v5 (lapp v3.1 ([38, 113, 117, 111, 116, 59] : List UInt8))))
       (cnd (ieq (n8 (lget x (toN v3.2) (0 : UInt8))) (n8 (39 : UInt8)))
        (grd (catOk (iadd (len v3.1) (len ([38, 97, 112, 111, 115, 59] : List UInt8))))
         (v5 (lapp v3.1 ([38, 97, 112, 111, 115, 59] : List UInt8))))
        (grd (in3 v3.2 (w64 (iadd v3.2 (1 : Int))) (len x))
         (grd (catOk (iadd (len v3.1) (len (ldrop (toN v3.2) (ltake (toN (w64 (iadd v3.2 (1 : Int)))) x)))))
          (v5 (lapp v3.1 (ldrop (toN v3.2) (ltake (toN (w64 (iadd v3.2 (1 : Int)))) x)))))))))))
   (v1 v3.1)) N (([] : List UInt8), (0 : Int))
def ps_r20_letter : List PK := [.k (.v (.u8) [])]
def rs_r20_letter : List Kd := [.v (.bool) []]
def r20_letter (N : Nat) (x : UInt8) : Option (Bool) :=
 cnd (ile (n8 (97 : UInt8)) (n8 x))
  (cnd (ile (n8 x) (n8 (122 : UInt8)))
   (some true)
   (cnd (ile (n8 (65 : UInt8)) (n8 x))
    (some (ile (n8 x) (n8 (90 : UInt8))))
    (some false)))
  (cnd (ile (n8 (65 : UInt8)) (n8 x))
   (some (ile (n8 x) (n8 (90 : UInt8))))
   (some false))
def ps_r20_namePart : List PK := [.k (.v (.str) [])]
def rs_r20_namePart : List Kd := [.v (.str) []]
def r20_namePart (N : Nat) (x : List UInt8) : Option (List UInt8) :=
 cnd (seq x ([] : List UInt8))
  (some ([] : List UInt8))
  (grd (inb (0 : Int) (len x))
   (bnd (r20_letter N (lget x (toN (0 : Int)) (0 : UInt8))) fun v0 =>
   cnd (bnot v0)
    (some ([] : List UInt8))
    (jn (fun (v1 : Int) =>
     grd (in2 v1 (len x)) <|
     some (ltake (toN v1) x))
    fun v2 =>
    fixN (fun v3 (v4 : Int) =>
     cnd (ilt v4 (len x))
      (grd (inb v4 (len x))
       (bnd (r20_letter N (lget x (toN v4) (0 : UInt8))) fun v5 =>
       cnd v5
        (v3 (w64 (iadd v4 (1 : Int))))
        (grd (inb v4 (len x))
         (bnd (r20_digit N (lget x (toN v4) (0 : UInt8))) fun v6 =>
         cnd v6
          (v3 (w64 (iadd v4 (1 : Int))))
          (grd (inb v4 (len x))
           (cnd (ieq (n8 (lget x (toN v4) (0 : UInt8))) (n8 (45 : UInt8)))
            (v3 (w64 (iadd v4 (1 : Int))))
            (v2 v4)))))))
      (v2 v4)) N (1 : Int))))
def ps_r20_Name : List PK := [.k (.v (.str) [])]
def rs_r20_Name : List Kd := [.v (.bool) []]
def r20_Name (N : Nat) (x : List UInt8) : Option (Bool) :=
 cnd (sne x ([] : List UInt8))
  (cnd (ile (len x) (32 : Int))
   (bnd (r20_namePart N x) fun v0 =>
   some (seq v0 x))
   (some false))
  (some false)
def ps_l20_XmlEscapes : List PK := [.k (.v (.str) [])]
def rs_l20_XmlEscapes : List Kd := [.v (.bool) []]
def l20_XmlEscapes (N : Nat) (x : List UInt8) : Option (Bool) :=
 bnd (l20_awake N ()) fun v0 =>
 cnd (bnot v0)
  (some false)
  (bnd (l20_short N x) fun v1 =>
  bnd (xml_Unescape N v1) fun v2 =>
  bnd (r20_Unescape N v1) fun v3 =>
  cnd (seq v2.1 v3.1)
   (cnd (ieq v2.2 v3.2)
    (bnd (xml_Escape N v1) fun v4 =>
    bnd (r20_Escape N v1) fun v5 =>
    cnd (seq v4 v5)
     (bnd (xml_Name N v1) fun v6 =>
     bnd (r20_Name N v1) fun v7 =>
     some (beqb v6 v7))
     (some false))
    (some false))
   (some false))
def ps_l20_few : List PK := [.k (.v (.slice (.st (.pair (.str) (.pair (.str) (.pair (.slice (.st (.pair (.str) (.str)))) (.int .i64)))))) [])]
def rs_l20_few : List Kd := [.v (.slice (.st (.pair (.str) (.pair (.str) (.pair (.slice (.st (.pair (.str) (.str)))) (.int .i64)))))) []]
def l20_few (N : Nat) (x : List ((List UInt8) × (List UInt8) × (List ((List UInt8) × List UInt8)) × Int)) : Option (List ((List UInt8) × (List UInt8) × (List ((List UInt8) × List UInt8)) × Int)) :=
 grd (in2 (imin (len x) (24 : Int)) (len x)) <|
 some (ltake (toN (imin (len x) (24 : Int))) x)
def ps_xml_Attr : List PK := [.k (.v (.slice (.st (.pair (.str) (.pair (.str) (.pair (.slice (.st (.pair (.str) (.str)))) (.int .i64)))))) []), .k (.v (.int .i64) []), .k (.v (.str) [])]
def rs_xml_Attr : List Kd := [.v (.str) [], .v (.bool) []]
def xml_Attr (N : Nat) (x : (List ((List UInt8) × (List UInt8) × (List ((List UInt8) × List UInt8)) × Int)) × Int × List UInt8) : Option (List UInt8 × Bool) :=
 cnd (ilt x.2.1 (0 : Int))
  (some (([] : List UInt8), false))
  (cnd (ile (len x.1) x.2.1)
   (some (([] : List UInt8), false))
   (jn (fun (v0 : Unit) =>
    some (([] : List UInt8), false))
   fun v1 =>
   grd (inb x.2.1 (len x.1)) <|
   fixN (fun v2 (v3 : Int) =>
    cnd (ilt v3 (len (lget x.1 (toN x.2.1) ([], ([], ([], (0 : Int))))).2.2.1))
     (grd (inb v3 (len (lget x.1 (toN x.2.1) ([], ([], ([], (0 : Int))))).2.2.1))
      (cnd (seq (lget (lget x.1 (toN x.2.1) ([], ([], ([], (0 : Int))))).2.2.1 (toN v3) ([], [])).1 x.2.2)
       (some ((lget (lget x.1 (toN x.2.1) ([], ([], ([], (0 : Int))))).2.2.1 (toN v3) ([], [])).2, true))
       (v2 (w64 (iadd v3 (1 : Int))))))
     (v1 ())) N (0 : Int)))
def ps_r20_Attr : List PK := [.k (.v (.slice (.st (.pair (.str) (.pair (.str) (.pair (.slice (.st (.pair (.str) (.str)))) (.int .i64)))))) []), .k (.v (.int .i64) []), .k (.v (.str) [])]
def rs_r20_Attr : List Kd := [.v (.str) [], .v (.bool) []]
def r20_Attr (N : Nat) (x : (List ((List UInt8) × (List UInt8) × (List ((List UInt8) × List UInt8)) × Int)) × Int × List UInt8) : Option (List UInt8 × Bool) :=
 cnd (ilt x.2.1 (0 : Int))
  (some (([] : List UInt8), false))
  (cnd (ile (len x.1) x.2.1)
   (some (([] : List UInt8), false))
   (jn (fun (v0 : Unit) =>
    some (([] : List UInt8), false))
   fun v1 =>
   grd (inb x.2.1 (len x.1)) <|
   fixN (fun v2 (v3 : Int) =>
    cnd (ilt v3 (len (lget x.1 (toN x.2.1) ([], ([], ([], (0 : Int))))).2.2.1))
     (grd (inb v3 (len (lget x.1 (toN x.2.1) ([], ([], ([], (0 : Int))))).2.2.1))
      (cnd (seq (lget (lget x.1 (toN x.2.1) ([], ([], ([], (0 : Int))))).2.2.1 (toN v3) ([], [])).1 x.2.2)
       (some ((lget (lget x.1 (toN x.2.1) ([], ([], ([], (0 : Int))))).2.2.1 (toN v3) ([], [])).2, true))
       (v2 (w64 (iadd v3 (1 : Int))))))
     (v1 ())) N (0 : Int)))
def ps_xml_Children : List PK := [.k (.v (.slice (.st (.pair (.str) (.pair (.str) (.pair (.slice (.st (.pair (.str) (.str)))) (.int .i64)))))) []), .k (.v (.int .i64) [])]
def rs_xml_Children : List Kd := [.v (.slice (.int .i64)) [0]]
def xml_Children (N : Nat) (x : (List ((List UInt8) × (List UInt8) × (List ((List UInt8) × List UInt8)) × Int)) × Int) : Option (List Int) :=
 cnd (ilt x.2 (0 : Int))
  (some ([] : List Int))
  (cnd (ile (len x.1) x.2)
   (some ([] : List Int))
   (jn (fun (v0 : List Int) =>
    some v0)
   fun v1 =>
   fixN (fun v2 (v3 : (List Int) × Int) =>
    cnd (ilt v3.2 (len x.1))
     (grd (inb v3.2 (len x.1))
      (grd (inb x.2 (len x.1))
       (cnd (ilt (lget x.1 (toN x.2) ([], ([], ([], (0 : Int))))).2.2.2 (lget x.1 (toN v3.2) ([], ([], ([], (0 : Int))))).2.2.2)
        (grd (inb v3.2 (len x.1))
         (grd (inb x.2 (len x.1))
          (cnd (ieq (lget x.1 (toN v3.2) ([], ([], ([], (0 : Int))))).2.2.2 (w64 (iadd (lget x.1 (toN x.2) ([], ([], ([], (0 : Int))))).2.2.2 (1 : Int))))
           (grd (room (iadd (len v3.1) (len ([v3.2] : List Int))) 8)
            (v2 (lapp v3.1 ([v3.2] : List Int), w64 (iadd v3.2 (1 : Int)))))
           (v2 (v3.1, w64 (iadd v3.2 (1 : Int)))))))
        (v1 v3.1))))
     (v1 v3.1)) N (([] : List Int), w64 (iadd x.2 (1 : Int)))))
def ps_r20_Children : List PK := [.k (.v (.slice (.st (.pair (.str) (.pair (.str) (.pair (.slice (.st (.pair (.str) (.str)))) (.int .i64)))))) []), .k (.v (.int .i64) [])]
def rs_r20_Children : List Kd := [.v (.slice (.int .i64)) [0]]
def r20_Children (N : Nat) (x : (List ((List UInt8) × (List UInt8) × (List ((List UInt8) × List UInt8)) × Int)) × Int) : Option (List Int) :=
 cnd (ilt x.2 (0 : Int))
  (some ([] : List Int))
  (cnd (ile (len x.1) x.2)
   (some ([] : List Int))
   (jn (fun (v0 : List Int) =>
    some v0)
   fun v1 =>
   fixN (fun v2 (v3 : (List Int) × Int) =>
    cnd (ilt v3.2 (len x.1))
     (grd (inb v3.2 (len x.1))
      (grd (inb x.2 (len x.1))
       (cnd (ilt (lget x.1 (toN x.2) ([], ([], ([], (0 : Int))))).2.2.2 (lget x.1 (toN v3.2) ([], ([], ([], (0 : Int))))).2.2.2)
        (grd (inb v3.2 (len x.1))
         (grd (inb x.2 (len x.1))
          (cnd (ieq (w64 (isub (lget x.1 (toN v3.2) ([], ([], ([], (0 : Int))))).2.2.2 (1 : Int))) (lget x.1 (toN x.2) ([], ([], ([], (0 : Int))))).2.2.2)
           (grd (room (iadd (len v3.1) (len ([v3.2] : List Int))) 8)
            (v2 (lapp v3.1 ([v3.2] : List Int), w64 (iadd v3.2 (1 : Int)))))
           (v2 (v3.1, w64 (iadd v3.2 (1 : Int)))))))
        (v1 v3.1))))
     (v1 v3.1)) N (([] : List Int), w64 (iadd x.2 (1 : Int)))))
def ps_slices_Equal_Lint_int : List PK := [.k (.v (.slice (.int .i64)) []), .k (.v (.slice (.int .i64)) [])]
def rs_slices_Equal_Lint_int : List Kd := [.v (.bool) []]
def slices_Equal_Lint_int (N : Nat) (x : List Int × List Int) : Option (Bool) :=
 cnd (ine (len x.1) (len x.2))
  (some false)
  (jn (fun (v0 : Unit) =>
   some true)
  fun v1 =>
  fixN (fun v2 (v3 : Int) =>
   cnd (ilt v3 (len x.1))
    (grd (inb v3 (len x.1))
     (grd (inb v3 (len x.2))
      (cnd (ine (lget x.1 (toN v3) (0 : Int)) (lget x.2 (toN v3) (0 : Int)))
       (some false)
       (v2 (w64 (iadd v3 (1 : Int)))))))
    (v1 ())) N (0 : Int))
def ps_l20_XmlLooks : List PK := [.k (.v (.slice (.st (.pair (.str) (.pair (.str) (.pair (.slice (.st (.pair (.str) (.str)))) (.int .i64)))))) []), .k (.v (.int .i64) []), .k (.v (.str) [])]
def rs_l20_XmlLooks : List Kd := [.v (.bool) []]
def l20_XmlLooks (N : Nat) (x : (List ((List UInt8) × (List UInt8) × (List ((List UInt8) × List UInt8)) × Int)) × Int × List UInt8) : Option (Bool) :=
 bnd (l20_awake N ()) fun v0 =>
 cnd (bnot v0)
  (some false)
  (bnd (l20_few N x.1) fun v1 =>
  bnd (l20_short N x.2.2) fun v2 =>
  bnd (xml_Attr N (v1, x.2.1, v2)) fun v3 =>
  bnd (r20_Attr N (v1, x.2.1, v2)) fun v4 =>
  cnd (seq v3.1 v4.1)
   (cnd (beqb v3.2 v4.2)
    (bnd (xml_Children N (v1, x.2.1)) fun v5 =>
    bnd (r20_Children N (v1, x.2.1)) fun v6 =>
    bnd (slices_Equal_Lint_int N (v5, v6)) fun v7 =>
    some v7)
    (some false))
   (some false))
def ps_r08_Valid : List PK := [.k (.v (.str) [])]
def rs_r08_Valid : List Kd := [.v (.bool) []]
def r08_Valid (N : Nat) (x : List UInt8) : Option (Bool) :=
 jn (fun (v0 : Unit) =>
  some true)
 fun v1 =>
 fixN (fun v2 (v3 : (List UInt8) × Int) =>
  cnd (nlt (toN v3.2) (nlen v3.1))
   (bnd (r08_Index N (decR v3.1 (toN v3.2))) fun v4 =>
   cnd (ilt v4 (0 : Int))
    (some false)
    (v2 (v3.1, ofN (nadd (toN v3.2) (decW v3.1 (toN v3.2))))))
   (v1 ())) N (x, ofN 0)
def ps_r20_element : List PK := [.k (.v (.st (.pair (.str) (.pair (.str) (.pair (.slice (.st (.pair (.str) (.str)))) (.int .i64))))) [])]
def rs_r20_element : List Kd := [.v (.int .i64) []]
def r20_element (N : Nat) (x : (List UInt8) × (List UInt8) × (List ((List UInt8) × List UInt8)) × Int) : Option (Int) :=
 bnd (r20_Name N x.1) fun v0 =>
 cnd (bnot v0)
  (some (5 : Int))
  (cnd (sne x.2.1 ([] : List UInt8))
   (some (4 : Int))
   (cnd (ilt (16 : Int) (len x.2.2.1))
    (some (9 : Int))
    (jn (fun (v1 : Unit) =>
     some (0 : Int))
    fun v2 =>
    fixN (fun v3 (v4 : Int) =>
     cnd (ilt v4 (len x.2.2.1))
      (jn (fun (v5 : Unit) =>
       v3 (w64 (iadd v4 (1 : Int))))
      fun v6 =>
      grd (inb v4 (len x.2.2.1)) <|
      bnd (r20_Name N (lget x.2.2.1 (toN v4) ([], [])).1) fun v7 =>
      cnd (bnot v7)
       (some (5 : Int))
       (jn (fun (v8 : Unit) =>
        bnd (r08_Valid N (lget x.2.2.1 (toN v4) ([], [])).2) fun v9 =>
        cnd (bnot v9)
         (some (10 : Int))
         (v6 ()))
       fun v10 =>
       grd (in2 v4 (len x.2.2.1)) <|
       fixN (fun v11 (v12 : Int) =>
        cnd (ilt v12 (len (ltake (toN v4) x.2.2.1)))
         (grd (inb v12 (len (ltake (toN v4) x.2.2.1)))
          (cnd (seq (lget x.2.2.1 (toN v4) ([], [])).1 (lget (ltake (toN v4) x.2.2.1) (toN v12) ([], [])).1)
           (some (7 : Int))
           (v11 (w64 (iadd v12 (1 : Int))))))
         (v10 ())) N (0 : Int)))
      (v2 ())) N (0 : Int))))
def ps_r20_Check : List PK := [.k (.v (.slice (.st (.pair (.str) (.pair (.str) (.pair (.slice (.st (.pair (.str) (.str)))) (.int .i64)))))) [])]
def rs_r20_Check : List Kd := [.v (.int .i64) []]
def r20_Check (N : Nat) (x : List ((List UInt8) × (List UInt8) × (List ((List UInt8) × List UInt8)) × Int)) : Option (Int) :=
 cnd (ieq (len x) (0 : Int))
  (some (6 : Int))
  (cnd (ilt (8192 : Int) (len x))
   (some (9 : Int))
   (jn (fun (v0 : Unit) =>
    some (0 : Int))
   fun v1 =>
   fixN (fun v2 (v3 : Int) =>
    cnd (ilt v3 (len x))
     (grd (inb v3 (len x))
      (jn (fun (v4 : Unit) =>
       jn (fun (v5 : Unit) =>
        cnd (ilt (15 : Int) (lget x (toN v3) ([], ([], ([], (0 : Int))))).2.2.2)
         (some (9 : Int))
         (cnd (sne (lget x (toN v3) ([], ([], ([], (0 : Int))))).1 ([] : List UInt8))
          (bnd (r20_element N (lget x (toN v3) ([], ([], ([], (0 : Int)))))) fun v6 =>
          cnd (ine v6 (0 : Int))
           (some v6)
           (v2 (w64 (iadd v3 (1 : Int)))))
          (jn (fun (v7 : Bool) =>
           cnd v7
            (some (8 : Int))
            (cnd (seq (lget x (toN v3) ([], ([], ([], (0 : Int))))).2.1 ([] : List UInt8))
             (some (4 : Int))
             (cnd (ilt (0 : Int) (len (lget x (toN v3) ([], ([], ([], (0 : Int))))).2.2.1))
              (some (4 : Int))
              (bnd (r08_Valid N (lget x (toN v3) ([], ([], ([], (0 : Int))))).2.1) fun v8 =>
              cnd (bnot v8)
               (some (10 : Int))
               (v2 (w64 (iadd v3 (1 : Int))))))))
          fun v9 =>
          cnd (ieq v3 (0 : Int))
           (v9 true)
           (grd (inb (w64 (isub v3 (1 : Int))) (len x))
            (cnd (seq (lget x (toN (w64 (isub v3 (1 : Int)))) ([], ([], ([], (0 : Int))))).1 ([] : List UInt8))
             (grd (inb (w64 (isub v3 (1 : Int))) (len x))
              (v9 (ieq (lget x (toN (w64 (isub v3 (1 : Int)))) ([], ([], ([], (0 : Int))))).2.2.2 (lget x (toN v3) ([], ([], ([], (0 : Int))))).2.2.2)))
             (v9 false))))))
       fun v10 =>
       cnd (ilt (0 : Int) v3)
        (grd (inb (w64 (isub v3 (1 : Int))) (len x))
         (grd (inb (w64 (isub v3 (1 : Int))) (len x))
          (cnd (sne (lget x (toN (w64 (isub v3 (1 : Int)))) ([], ([], ([], (0 : Int))))).1 ([] : List UInt8))
           (cnd (ilt (w64 (iadd (lget x (toN (w64 (isub v3 (1 : Int)))) ([], ([], ([], (0 : Int))))).2.2.2 (1 : Int))) (lget x (toN v3) ([], ([], ([], (0 : Int))))).2.2.2)
            (some (8 : Int))
            (v10 ()))
           (cnd (ilt (lget x (toN (w64 (isub v3 (1 : Int)))) ([], ([], ([], (0 : Int))))).2.2.2 (lget x (toN v3) ([], ([], ([], (0 : Int))))).2.2.2)
            (some (8 : Int))
            (v10 ())))))
        (v10 ()))
      fun v11 =>
      cnd (ieq v3 (0 : Int))
       (cnd (ine (lget x (toN v3) ([], ([], ([], (0 : Int))))).2.2.2 (0 : Int))
        (some (8 : Int))
        (cnd (ilt (0 : Int) v3)
         (cnd (ilt (lget x (toN v3) ([], ([], ([], (0 : Int))))).2.2.2 (1 : Int))
          (some (8 : Int))
          (v11 ()))
         (v11 ())))
       (cnd (ilt (0 : Int) v3)
        (cnd (ilt (lget x (toN v3) ([], ([], ([], (0 : Int))))).2.2.2 (1 : Int))
         (some (8 : Int))
         (v11 ()))
        (v11 ()))))
     (v1 ())) N (0 : Int)))
def ps_r20_text : List PK := [.k (.v (.slice (.st (.pair (.str) (.pair (.str) (.pair (.slice (.st (.pair (.str) (.str)))) (.int .i64)))))) []), .k (.v (.int .i64) [])]
def rs_r20_text : List Kd := [.v (.str) []]
def r20_text_r (N : Nat) : Nat → ((List ((List UInt8) × (List UInt8) × (List ((List UInt8) × List UInt8)) × Int)) × Int) → Option (List UInt8)
 | 0, _ => none
 | D + 1, x => grd (inb x.2 (len x.1)) <|
  cnd (seq (lget x.1 (toN x.2) ([], ([], ([], (0 : Int))))).1 ([] : List UInt8))
   (bnd (r20_Escape N (lget x.1 (toN x.2) ([], ([], ([], (0 : Int))))).2.1) fun v0 =>
   some v0)
   (grd (catOk (iadd (len ([60] : List UInt8)) (len (lget x.1 (toN x.2) ([], ([], ([], (0 : Int))))).1)))
    (jn (fun (v1 : List UInt8) =>
     bnd (r20_Children N x) fun v2 =>
     cnd (ieq (len v2) (0 : Int))
      (grd (catOk (iadd (len v1) (len ([47, 62] : List UInt8))))
       (some (lapp v1 ([47, 62] : List UInt8))))
      (grd (catOk (iadd (len v1) (len ([62] : List UInt8))))
       (jn (fun (v3 : List UInt8) =>
        grd (catOk (iadd (len v3) (len ([60, 47] : List UInt8)))) <|
        grd (catOk (iadd (len (lapp v3 ([60, 47] : List UInt8))) (len (lget x.1 (toN x.2) ([], ([], ([], (0 : Int))))).1))) <|
        grd (catOk (iadd (len (lapp (lapp v3 ([60, 47] : List UInt8)) (lget x.1 (toN x.2) ([], ([], ([], (0 : Int))))).1)) (len ([62] : List UInt8)))) <|
        some (lapp (lapp (lapp v3 ([60, 47] : List UInt8)) (lget x.1 (toN x.2) ([], ([], ([], (0 : Int))))).1) ([62] : List UInt8)))
       fun v4 =>
       fixN (fun v5 (v6 : (List UInt8) × Int) =>
        cnd (ilt v6.2 (len v2))
         (grd (inb v6.2 (len v2))
          (bnd (r20_text_r N D (x.1, lget v2 (toN v6.2) (0 : Int))) fun v7 =>
          grd (catOk (iadd (len v6.1) (len v7))) <|
          v5 (lapp v6.1 v7, w64 (iadd v6.2 (1 : Int)))))
         (v4 v6.1)) N (lapp v1 ([62] : List UInt8), (0 : Int)))))
    fun v8 =>
    fixN (fun v9 (v10 : (List UInt8) × Int) =>
     cnd (ilt v10.2 (len (lget x.1 (toN x.2) ([], ([], ([], (0 : Int))))).2.2.1))
      (grd (inb v10.2 (len (lget x.1 (toN x.2) ([], ([], ([], (0 : Int))))).2.2.1))
       (grd (catOk (iadd (len ([32] : List UInt8)) (len (lget (lget x.1 (toN x.2) ([], ([], ([], (0 : Int))))).2.2.1 (toN v10.2) ([], [])).1)))
        (grd (catOk (iadd (len (lapp ([32] : List UInt8) (lget (lget x.1 (toN x.2) ([], ([], ([], (0 : Int))))).2.2.1 (toN v10.2) ([], [])).1)) (len ([61, 34] : List UInt8))))
         (bnd (r20_Escape N (lget (lget x.1 (toN x.2) ([], ([], ([], (0 : Int))))).2.2.1 (toN v10.2) ([], [])).2) fun v11 =>
         grd (catOk (iadd (len (lapp (lapp ([32] : List UInt8) (lget (lget x.1 (toN x.2) ([], ([], ([], (0 : Int))))).2.2.1 (toN v10.2) ([], [])).1) ([61, 34] : List UInt8))) (len v11))) <|
         grd (catOk (iadd (len (lapp (lapp (lapp ([32] : List UInt8) (lget (lget x.1 (toN x.2) ([], ([], ([], (0 : Int))))).2.2.1 (toN v10.2) ([], [])).1) ([61, 34] : List UInt8)) v11)) (len ([34] : List UInt8)))) <|
         grd (catOk (iadd (len v10.1) (len (lapp (lapp (lapp (lapp ([32] : List UInt8) (lget (lget x.1 (toN x.2) ([], ([], ([], (0 : Int))))).2.2.1 (toN v10.2) ([], [])).1) ([61, 34] : List UInt8)) v11) ([34] : List UInt8))))) <|
         v9 (lapp v10.1 (lapp (lapp (lapp (lapp ([32] : List UInt8) (lget (lget x.1 (toN x.2) ([], ([], ([], (0 : Int))))).2.2.1 (toN v10.2) ([], [])).1) ([61, 34] : List UInt8)) v11) ([34] : List UInt8)), w64 (iadd v10.2 (1 : Int)))))))
      (v8 v10.1)) N (lapp ([60] : List UInt8) (lget x.1 (toN x.2) ([], ([], ([], (0 : Int))))).1, (0 : Int))))
def r20_text (N : Nat) (x : (List ((List UInt8) × (List UInt8) × (List ((List UInt8) × List UInt8)) × Int)) × Int) : Option (List UInt8) := r20_text_r N N x
def ps_r20_Print : List PK := [.k (.v (.slice (.st (.pair (.str) (.pair (.str) (.pair (.slice (.st (.pair (.str) (.str)))) (.int .i64)))))) [])]
def rs_r20_Print : List Kd := [.v (.str) [], .v (.int .i64) []]
def r20_Print (N : Nat) (x : List ((List UInt8) × (List UInt8) × (List ((List UInt8) × List UInt8)) × Int)) : Option (List UInt8 × Int) :=
 bnd (r20_Check N x) fun v0 =>
 cnd (ine v0 (0 : Int))
  (some (([] : List UInt8), v0))
  (bnd (r20_text N (x, (0 : Int))) fun v1 =>
  cnd (ilt (262144 : Int) (len v1))
   (some (([] : List UInt8), (9 : Int)))
   (some (v1, (0 : Int))))
def ps_l20_XmlChecks : List PK := [.k (.v (.slice (.st (.pair (.str) (.pair (.str) (.pair (.slice (.st (.pair (.str) (.str)))) (.int .i64)))))) [])]
def rs_l20_XmlChecks : List Kd := [.v (.bool) []]
def l20_XmlChecks (N : Nat) (x : List ((List UInt8) × (List UInt8) × (List ((List UInt8) × List UInt8)) × Int)) : Option (Bool) :=
 bnd (l20_awake N ()) fun v0 =>
 cnd (bnot v0)
  (some false)
  (bnd (l20_few N x) fun v1 =>
  bnd (xml_Print N v1) fun v2 =>
  bnd (r20_Print N v1) fun v3 =>
  bnd (xml_Check N v1) fun v4 =>
  bnd (r20_Check N v1) fun v5 =>
  cnd (ieq v4 v5)
   (cnd (seq v2.1 v3.1)
    (some (ieq v2.2 v3.2))
    (some false))
   (some false))
def ps_r20_diag : List PK := [.k (.v (.str) []), .k (.v (.int .i64) []), .k (.v (.int .i64) [])]
def rs_r20_diag : List Kd := [.v (.slice (.st (.pair (.int .i64) (.pair (.int .i64) (.int .i64))))) [0]]
def r20_diag (N : Nat) (x : List UInt8 × Int × Int) : Option (List (Int × Int × Int)) :=
 jn (fun (v0 : Int × Int × Int) =>
  some ([v0] : List (Int × Int × Int)))
 fun v1 =>
 fixN (fun v2 (v3 : Int × Int × Int × Int) =>
  cnd (ilt v3.1 x.2.1)
   (grd (inb v3.1 (len x.1))
    (cnd (ieq (n8 (lget x.1 (toN v3.1) (0 : UInt8))) (n8 (10 : UInt8)))
     (v2 (w64 (iadd v3.1 (1 : Int)), w64 (iadd v3.2.1 (1 : Int)), (1 : Int), v3.2.2.2))
     (v2 (w64 (iadd v3.1 (1 : Int)), v3.2.1, w64 (iadd v3.2.2.1 (1 : Int)), v3.2.2.2))))
   (v1 v3.2)) N ((0 : Int), (1 : Int), (1 : Int), x.2.2)
def ps_r20_find : List PK := [.k (.v (.str) []), .k (.v (.str) []), .k (.v (.int .i64) [])]
def rs_r20_find : List Kd := [.v (.int .i64) []]
def r20_find (N : Nat) (x : List UInt8 × List UInt8 × Int) : Option (Int) :=
 jn (fun (v0 : Unit) =>
  some (-1 : Int))
 fun v1 =>
 fixN (fun v2 (v3 : Int) =>
  cnd (ile (w64 (iadd v3 (len x.2.1))) (len x.1))
   (grd (in3 v3 (w64 (iadd v3 (len x.2.1))) (len x.1))
    (cnd (seq (ldrop (toN v3) (ltake (toN (w64 (iadd v3 (len x.2.1)))) x.1)) x.2.1)
     (some v3)
     (v2 (w64 (iadd v3 (1 : Int))))))
   (v1 ())) N x.2.2
def ps_r20_begins : List PK := [.k (.v (.str) []), .k (.v (.str) [])]
def rs_r20_begins : List Kd := [.v (.bool) []]
def r20_begins (N : Nat) (x : List UInt8 × List UInt8) : Option (Bool) :=
 cnd (ile (len x.2) (len x.1))
  (grd (in2 (len x.2) (len x.1))
   (some (seq (ltake (toN (len x.2)) x.1) x.2)))
  (some false)
def ps_r20_space : List PK := [.k (.v (.u8) [])]
def rs_r20_space : List Kd := [.v (.bool) []]
def r20_space (N : Nat) (x : UInt8) : Option (Bool) :=
 cnd (ieq (n8 x) (n8 (9 : UInt8)))
  (some true)
  (cnd (ieq (n8 x) (n8 (10 : UInt8)))
   (some true)
   (cnd (ieq (n8 x) (n8 (13 : UInt8)))
    (some true)
    (some (ieq (n8 x) (n8 (32 : UInt8))))))
def ps_r20_skip : List PK := [.k (.v (.str) [])]
def rs_r20_skip : List Kd := [.v (.str) []]
def r20_skip (N : Nat) (x : List UInt8) : Option (List UInt8) :=
 jn (fun (v0 : List UInt8) =>
  some v0)
 fun v1 =>
 fixN (fun v2 (v3 : List UInt8) =>
  cnd (sne v3 ([] : List UInt8))
   (grd (inb (0 : Int) (len v3))
    (bnd (r20_space N (lget v3 (toN (0 : Int)) (0 : UInt8))) fun v4 =>
    cnd v4
     (grd (in2 (1 : Int) (len v3))
      (v2 (ldrop (toN (1 : Int)) v3)))
     (v1 v3)))
   (v1 v3)) N x
def ps_r20_attribute : List PK := [.k (.v (.str) [])]
def rs_r20_attribute : List Kd := [.v (.st (.pair (.str) (.str))) [], .v (.str) [], .v (.bool) []]
def r20_attribute (N : Nat) (x : List UInt8) : Option (((List UInt8) × List UInt8) × List UInt8 × Bool) :=
 bnd (r20_skip N x) fun v0 =>
 bnd (r20_namePart N v0) fun v1 =>
 cnd (ieq (len v0) (len x))
  (some ((([] : List UInt8), ([] : List UInt8)), x, false))
  (cnd (seq v1 ([] : List UInt8))
   (some ((([] : List UInt8), ([] : List UInt8)), x, false))
   (grd (in2 (len v1) (len v0))
    (bnd (r20_skip N (ldrop (toN (len v1)) v0)) fun v2 =>
    bnd (r20_begins N (v2, ([61] : List UInt8))) fun v3 =>
    cnd (bnot v3)
     (some ((([] : List UInt8), ([] : List UInt8)), x, false))
     (grd (in2 (1 : Int) (len v2))
      (bnd (r20_skip N (ldrop (toN (1 : Int)) v2)) fun v4 =>
      jn (fun (v5 : Unit) =>
       grd (in2 (1 : Int) (len v4)) <|
       bnd (r20_find N (v4, ltake (toN (1 : Int)) v4, (1 : Int))) fun v6 =>
       cnd (ilt v6 (0 : Int))
        (some ((([] : List UInt8), ([] : List UInt8)), x, false))
        (grd (in2 v6 (len v4))
         (bnd (r20_find N (ltake (toN v6) v4, ([60] : List UInt8), (0 : Int))) fun v7 =>
         cnd (ile (0 : Int) v7)
          (some ((([] : List UInt8), ([] : List UInt8)), x, false))
          (grd (in3 (1 : Int) v6 (len v4))
           (grd (in2 (w64 (iadd v6 (1 : Int))) (len v4))
            (some ((v1, ldrop (toN (1 : Int)) (ltake (toN v6) v4)), ldrop (toN (w64 (iadd v6 (1 : Int)))) v4, true)))))))
      fun v8 =>
      cnd (seq v4 ([] : List UInt8))
       (some ((([] : List UInt8), ([] : List UInt8)), x, false))
       (grd (inb (0 : Int) (len v4))
        (cnd (ine (n8 (lget v4 (toN (0 : Int)) (0 : UInt8))) (n8 (34 : UInt8)))
         (grd (inb (0 : Int) (len v4))
          (cnd (ine (n8 (lget v4 (toN (0 : Int)) (0 : UInt8))) (n8 (39 : UInt8)))
           (some ((([] : List UInt8), ([] : List UInt8)), x, false))
           (v8 ())))
         (v8 ()))))))))
def ps_r20_tag : List PK := [.k (.v (.str) [])]
def rs_r20_tag : List Kd := [.v (.st (.pair (.int .i64) (.pair (.int .i64) (.pair (.str) (.slice (.st (.pair (.str) (.str)))))))) [3]]
def r20_tag (N : Nat) (x : List UInt8) : Option (Int × Int × (List UInt8) × List ((List UInt8) × List UInt8)) :=
 grd (in2 (1 : Int) (len x)) <|
 jn (fun (v0 : (List UInt8) × Int × Int × (List UInt8) × List ((List UInt8) × List UInt8)) =>
  bnd (r20_namePart N v0.1) fun v1 =>
  cnd (seq v1 ([] : List UInt8))
   (some ((0 : Int), (0 : Int), ([] : List UInt8), ([] : List ((List UInt8) × List UInt8))))
   (grd (in2 (len v1) (len v0.1))
    (jn (fun (v2 : (List UInt8) × Int × Int × (List UInt8) × List ((List UInt8) × List UInt8)) =>
     bnd (r20_skip N v2.1) fun v3 =>
     jn (fun (v4 : (List UInt8) × Int × Int × (List UInt8) × List ((List UInt8) × List UInt8)) =>
      bnd (r20_begins N (v4.1, ([62] : List UInt8))) fun v5 =>
      cnd (bnot v5)
       (some ((0 : Int), (0 : Int), ([] : List UInt8), ([] : List ((List UInt8) × List UInt8))))
       (some (v4.2.1, w64 (iadd (w64 (isub (len x) (len v4.1))) (1 : Int)), v4.2.2.2)))
     fun v6 =>
     cnd (ieq v2.2.1 (3 : Int))
      (bnd (r20_begins N (v3, ([47] : List UInt8))) fun v7 =>
      cnd v7
       (grd (in2 (1 : Int) (len v3))
        (v6 (ldrop (toN (1 : Int)) v3, (4 : Int), v2.2.2)))
       (v6 (v3, v2.2)))
      (v6 (v3, v2.2)))
    fun v8 =>
    fixN (fun v9 (v10 : (List UInt8) × Int × Int × (List UInt8) × List ((List UInt8) × List UInt8)) =>
     cnd (ieq v10.2.1 (3 : Int))
      (bnd (r20_attribute N v10.1) fun v11 =>
      cnd (bnot v11.2.2)
       (v8 v10)
       (grd (room (iadd (len v10.2.2.2.2) (len ([v11.1] : List ((List UInt8) × List UInt8)))) 32)
        (v9 (v11.2.1, v10.2.1, v10.2.2.1, v10.2.2.2.1, lapp v10.2.2.2.2 ([v11.1] : List ((List UInt8) × List UInt8))))))
      (v8 v10)) N (ldrop (toN (len v1)) v0.1, v0.2.1, v0.2.2.1, v1, v0.2.2.2.2))))
 fun v12 =>
 bnd (r20_begins N (ldrop (toN (1 : Int)) x, ([47] : List UInt8))) fun v13 =>
 cnd v13
  (grd (in2 (1 : Int) (len (ldrop (toN (1 : Int)) x)))
   (v12 (ldrop (toN (1 : Int)) (ldrop (toN (1 : Int)) x), (5 : Int), (0 : Int), ([] : List UInt8), ([] : List ((List UInt8) × List UInt8)))))
  (v12 (ldrop (toN (1 : Int)) x, (3 : Int), (0 : Int), ([] : List UInt8), ([] : List ((List UInt8) × List UInt8))))
def ps_r20_next : List PK := [.k (.v (.str) [])]
def rs_r20_next : List Kd := [.v (.st (.pair (.int .i64) (.pair (.int .i64) (.pair (.str) (.slice (.st (.pair (.str) (.str)))))))) [3]]
def r20_next (N : Nat) (x : List UInt8) : Option (Int × Int × (List UInt8) × List ((List UInt8) × List UInt8)) :=
 grd (inb (0 : Int) (len x)) <|
 cnd (ine (n8 (lget x (toN (0 : Int)) (0 : UInt8))) (n8 (60 : UInt8)))
  (bnd (r20_find N (x, ([60] : List UInt8), (0 : Int))) fun v0 =>
  cnd (ilt v0 (0 : Int))
   (some ((6 : Int), len x, ([] : List UInt8), ([] : List ((List UInt8) × List UInt8))))
   (some ((6 : Int), v0, ([] : List UInt8), ([] : List ((List UInt8) × List UInt8)))))
  (bnd (r20_begins N (x, ([60, 63] : List UInt8))) fun v1 =>
  cnd v1
   (bnd (r20_find N (x, ([63, 62] : List UInt8), (2 : Int))) fun v2 =>
   cnd (ile (0 : Int) v2)
    (some ((1 : Int), w64 (iadd v2 (2 : Int)), ([] : List UInt8), ([] : List ((List UInt8) × List UInt8))))
    (some ((0 : Int), (0 : Int), ([] : List UInt8), ([] : List ((List UInt8) × List UInt8)))))
   (bnd (r20_begins N (x, ([60, 33, 45, 45] : List UInt8))) fun v3 =>
   cnd v3
    (bnd (r20_find N (x, ([45, 45, 62] : List UInt8), (4 : Int))) fun v4 =>
    cnd (ile (0 : Int) v4)
     (some ((2 : Int), w64 (iadd v4 (3 : Int)), ([] : List UInt8), ([] : List ((List UInt8) × List UInt8))))
     (some ((0 : Int), (0 : Int), ([] : List UInt8), ([] : List ((List UInt8) × List UInt8)))))
    (bnd (r20_tag N x) fun v5 =>
    some v5)))
def ps_r20_blanks : List PK := [.k (.v (.str) [])]
def rs_r20_blanks : List Kd := [.v (.str) []]
def r20_blanks (N : Nat) (x : List UInt8) : Option (List UInt8) :=
 grd (catOk (len x)) <|
 jn (fun (v0 : List UInt8) =>
  some v0)
 fun v1 =>
 fixN (fun v2 (v3 : Int × List UInt8) =>
  cnd (ilt v3.1 (len x))
   (grd (inb v3.1 (len v3.2))
    (bnd (r20_space N (lget v3.2 (toN v3.1) (0 : UInt8))) fun v4 =>
    cnd v4
     (grd (inb v3.1 (len v3.2))
      (v2 (w64 (iadd v3.1 (1 : Int)), lset v3.2 (toN v3.1) (32 : UInt8))))
     (v2 (w64 (iadd v3.1 (1 : Int)), v3.2))))
   (v1 v3.2)) N ((0 : Int), x)
def ps_r20_means : List PK := [.k (.v (.str) [])]
def rs_r20_means : List Kd := [.v (.str) [], .v (.int .i64) []]
def r20_means (N : Nat) (x : List UInt8) : Option (List UInt8 × Int) :=
 bnd (r20_blanks N x) fun v0 =>
 bnd (r20_Unescape N v0) fun v1 =>
 jn (fun (v2 : Int) =>
  cnd (ine v2 (0 : Int))
   (some (([] : List UInt8), v2))
   (some (v1.1, (0 : Int))))
 fun v3 =>
 cnd (ieq v1.2 (0 : Int))
  (bnd (r08_Valid N v1.1) fun v4 =>
  cnd (bnot v4)
   (v3 (10 : Int))
   (v3 v1.2))
  (v3 v1.2)
def ps_r20_parser_place : List PK := [.k (.b 84 (.st (.pair (.slice (.st (.pair (.str) (.pair (.str) (.pair (.slice (.st (.pair (.str) (.str)))) (.int .i64)))))) (.pair (.slice (.str)) (.pair (.bool) (.bool))))) [0, 1]), .k (.v (.bool) [])]
def rs_r20_parser_place : List Kd := [.v (.int .i64) []]
def r20_parser_place (N : Nat) (x : ((List ((List UInt8) × (List UInt8) × (List ((List UInt8) × List UInt8)) × Int)) × (List (List UInt8)) × Bool × Bool) × Bool) : Option (Int × (List ((List UInt8) × (List UInt8) × (List ((List UInt8) × List UInt8)) × Int)) × (List (List UInt8)) × Bool × Bool) :=
 jn (fun (v0 : Bool) =>
  cnd v0
   (some ((8 : Int), x.1))
   (cnd (ilt (15 : Int) (len x.1.2.1))
    (some ((9 : Int), x.1))
    (cnd (ieq (len x.1.1) (8192 : Int))
     (cnd x.2
      (some ((9 : Int), x.1))
      (cnd (bnot x.1.2.2.2)
       (some ((9 : Int), x.1))
       (some ((0 : Int), x.1))))
     (some ((0 : Int), x.1)))))
 fun v1 =>
 cnd x.1.2.2.1
  (v1 true)
  (cnd (bnot x.2)
   (v1 (ieq (len x.1.2.1) (0 : Int)))
   (v1 false))
def ps_r20_parser_text : List PK := [.k (.b 84 (.st (.pair (.slice (.st (.pair (.str) (.pair (.str) (.pair (.slice (.st (.pair (.str) (.str)))) (.int .i64)))))) (.pair (.slice (.str)) (.pair (.bool) (.bool))))) [0, 1]), .k (.v (.str) [])]
def rs_r20_parser_text : List Kd := [.v (.int .i64) []]
def r20_parser_text (N : Nat) (x : ((List ((List UInt8) × (List UInt8) × (List ((List UInt8) × List UInt8)) × Int)) × (List (List UInt8)) × Bool × Bool) × List UInt8) : Option (Int × (List ((List UInt8) × (List UInt8) × (List ((List UInt8) × List UInt8)) × Int)) × (List (List UInt8)) × Bool × Bool) :=
 jn (fun (v0 : Unit) =>
  bnd (r20_means N x.2) fun v1 =>
  cnd (ine v1.2 (0 : Int))
   (some (v1.2, x.1))
   (bnd (r20_parser_place N (x.1, false)) fun v2 =>
   cnd (ine v2.1 (0 : Int))
    (some v2)
    (cnd v2.2.2.2.2
     (grd (inb (w64 (isub (len v2.2.1) (1 : Int))) (len v2.2.1))
      (grd (catOk (iadd (len (lget v2.2.1 (toN (w64 (isub (len v2.2.1) (1 : Int)))) ([], ([], ([], (0 : Int))))).2.1) (len v1.1)))
       (grd (inb (w64 (isub (len v2.2.1) (1 : Int))) (len v2.2.1))
        (some ((0 : Int), lset v2.2.1 (toN (w64 (isub (len v2.2.1) (1 : Int)))) ((lget v2.2.1 (toN (w64 (isub (len v2.2.1) (1 : Int)))) ([], ([], ([], (0 : Int))))).1, lapp (lget v2.2.1 (toN (w64 (isub (len v2.2.1) (1 : Int)))) ([], ([], ([], (0 : Int))))).2.1 v1.1, (lget v2.2.1 (toN (w64 (isub (len v2.2.1) (1 : Int)))) ([], ([], ([], (0 : Int))))).2.2), v2.2.2)))))
     (grd (room (iadd (len v2.2.1) (len ([(([] : List UInt8), v1.1, ([] : List ((List UInt8) × List UInt8)), len v2.2.2.1)] : List ((List UInt8) × (List UInt8) × (List ((List UInt8) × List UInt8)) × Int)))) 64)
      (some ((0 : Int), lapp v2.2.1 ([(([] : List UInt8), v1.1, ([] : List ((List UInt8) × List UInt8)), len v2.2.2.1)] : List ((List UInt8) × (List UInt8) × (List ((List UInt8) × List UInt8)) × Int)), v2.2.2.1, v2.2.2.2.1, true))))))
 fun v3 =>
 bnd (r20_skip N x.2) fun v4 =>
 cnd (seq v4 ([] : List UInt8))
  (bnd (r20_find N (x.2, ([10] : List UInt8), (0 : Int))) fun v5 =>
  cnd (ile (0 : Int) v5)
   (some ((0 : Int), x.1))
   (cnd (ieq (len x.1.2.1) (0 : Int))
    (some ((0 : Int), x.1))
    (v3 ())))
  (v3 ())
def ps_r20_parser_end : List PK := [.k (.b 84 (.st (.pair (.slice (.st (.pair (.str) (.pair (.str) (.pair (.slice (.st (.pair (.str) (.str)))) (.int .i64)))))) (.pair (.slice (.str)) (.pair (.bool) (.bool))))) [0, 1]), .k (.v (.st (.pair (.int .i64) (.pair (.int .i64) (.pair (.str) (.slice (.st (.pair (.str) (.str)))))))) [])]
def rs_r20_parser_end : List Kd := [.v (.int .i64) []]
def r20_parser_end (N : Nat) (x : ((List ((List UInt8) × (List UInt8) × (List ((List UInt8) × List UInt8)) × Int)) × (List (List UInt8)) × Bool × Bool) × Int × Int × (List UInt8) × List ((List UInt8) × List UInt8)) : Option (Int × (List ((List UInt8) × (List UInt8) × (List ((List UInt8) × List UInt8)) × Int)) × (List (List UInt8)) × Bool × Bool) :=
 cnd (ilt (w64 (isub (len x.1.2.1) (1 : Int))) (0 : Int))
  (some ((8 : Int), x.1))
  (grd (inb (w64 (isub (len x.1.2.1) (1 : Int))) (len x.1.2.1))
   (cnd (sne (lget x.1.2.1 (toN (w64 (isub (len x.1.2.1) (1 : Int)))) []) x.2.2.2.1)
    (some ((8 : Int), x.1))
    (grd (in2 (w64 (isub (len x.1.2.1) (1 : Int))) (ofN (nlen x.1.2.1)))
     (some ((0 : Int), x.1.1, cutl x.1.2.1 0 (toN (w64 (isub (len x.1.2.1) (1 : Int)))), ieq (w64 (isub (len x.1.2.1) (1 : Int))) (0 : Int), false)))))
def ps_r20_parser_start : List PK := [.k (.b 84 (.st (.pair (.slice (.st (.pair (.str) (.pair (.str) (.pair (.slice (.st (.pair (.str) (.str)))) (.int .i64)))))) (.pair (.slice (.str)) (.pair (.bool) (.bool))))) [0, 1]), .k (.v (.st (.pair (.int .i64) (.pair (.int .i64) (.pair (.str) (.slice (.st (.pair (.str) (.str)))))))) [])]
def rs_r20_parser_start : List Kd := [.v (.int .i64) []]
def r20_parser_start (N : Nat) (x : ((List ((List UInt8) × (List UInt8) × (List ((List UInt8) × List UInt8)) × Int)) × (List (List UInt8)) × Bool × Bool) × Int × Int × (List UInt8) × List ((List UInt8) × List UInt8)) : Option (Int × (List ((List UInt8) × (List UInt8) × (List ((List UInt8) × List UInt8)) × Int)) × (List (List UInt8)) × Bool × Bool) :=
 jn (fun (v0 : Unit) =>
  cnd (ilt (16 : Int) (len x.2.2.2.2))
   (some ((9 : Int), x.1))
   (jn (fun (v1 : (List UInt8) × (List UInt8) × (List ((List UInt8) × List UInt8)) × Int) =>
    bnd (r20_parser_place N (x.1, true)) fun v2 =>
    cnd (ine v2.1 (0 : Int))
     (some v2)
     (grd (room (iadd (len v2.2.1) (len ([v1] : List ((List UInt8) × (List UInt8) × (List ((List UInt8) × List UInt8)) × Int)))) 64)
      (cnd (ieq x.2.1 (3 : Int))
       (grd (room (iadd (len v2.2.2.1) (len ([x.2.2.2.1] : List (List UInt8)))) 16)
        (some ((0 : Int), lapp v2.2.1 ([v1] : List ((List UInt8) × (List UInt8) × (List ((List UInt8) × List UInt8)) × Int)), lapp v2.2.2.1 ([x.2.2.2.1] : List (List UInt8)), ieq (len (lapp v2.2.2.1 ([x.2.2.2.1] : List (List UInt8)))) (0 : Int), false)))
       (some ((0 : Int), lapp v2.2.1 ([v1] : List ((List UInt8) × (List UInt8) × (List ((List UInt8) × List UInt8)) × Int)), v2.2.2.1, ieq (len v2.2.2.1) (0 : Int), false)))))
   fun v3 =>
   fixN (fun v4 (v5 : Int × (List UInt8) × (List UInt8) × (List ((List UInt8) × List UInt8)) × Int) =>
    cnd (ilt v5.1 (len x.2.2.2.2))
     (jn (fun (v6 : (List UInt8) × (List UInt8) × (List ((List UInt8) × List UInt8)) × Int) =>
      v4 (w64 (iadd v5.1 (1 : Int)), v6))
     fun v7 =>
     grd (inb v5.1 (len x.2.2.2.2)) <|
     jn (fun (v8 : Unit) =>
      bnd (r20_means N (lget x.2.2.2.2 (toN v5.1) ([], [])).2) fun v9 =>
      cnd (ine v9.2 (0 : Int))
       (some (v9.2, x.1))
       (grd (room (iadd (len v5.2.2.2.1) (len ([((lget x.2.2.2.2 (toN v5.1) ([], [])).1, v9.1)] : List ((List UInt8) × List UInt8)))) 32)
        (v7 (v5.2.1, v5.2.2.1, lapp v5.2.2.2.1 ([((lget x.2.2.2.2 (toN v5.1) ([], [])).1, v9.1)] : List ((List UInt8) × List UInt8)), v5.2.2.2.2))))
     fun v10 =>
     grd (in2 v5.1 (len x.2.2.2.2)) <|
     fixN (fun v11 (v12 : Int) =>
      cnd (ilt v12 (len (ltake (toN v5.1) x.2.2.2.2)))
       (grd (inb v12 (len (ltake (toN v5.1) x.2.2.2.2)))
        (cnd (seq (lget x.2.2.2.2 (toN v5.1) ([], [])).1 (lget (ltake (toN v5.1) x.2.2.2.2) (toN v12) ([], [])).1)
         (some ((7 : Int), x.1))
         (v11 (w64 (iadd v12 (1 : Int))))))
       (v10 ())) N (0 : Int))
     (v3 v5.2)) N ((0 : Int), x.2.2.2.1, ([] : List UInt8), ([] : List ((List UInt8) × List UInt8)), len x.1.2.1)))
 fun v13 =>
 fixN (fun v14 (v15 : Int) =>
  cnd (ilt v15 (len x.2.2.2.2))
   (grd (inb v15 (len x.2.2.2.2))
    (bnd (r20_Name N (lget x.2.2.2.2 (toN v15) ([], [])).1) fun v16 =>
    cnd (bnot v16)
     (some ((5 : Int), x.1))
     (v14 (w64 (iadd v15 (1 : Int))))))
   (v13 ())) N (0 : Int)
def ps_r20_parser_take : List PK := [.k (.b 84 (.st (.pair (.slice (.st (.pair (.str) (.pair (.str) (.pair (.slice (.st (.pair (.str) (.str)))) (.int .i64)))))) (.pair (.slice (.str)) (.pair (.bool) (.bool))))) [0, 1]), .k (.v (.str) []), .k (.v (.int .i64) []), .k (.v (.st (.pair (.int .i64) (.pair (.int .i64) (.pair (.str) (.slice (.st (.pair (.str) (.str)))))))) [])]
def rs_r20_parser_take : List Kd := [.v (.int .i64) []]
def r20_parser_take (N : Nat) (x : ((List ((List UInt8) × (List UInt8) × (List ((List UInt8) × List UInt8)) × Int)) × (List (List UInt8)) × Bool × Bool) × List UInt8 × Int × Int × Int × (List UInt8) × List ((List UInt8) × List UInt8)) : Option (Int × (List ((List UInt8) × (List UInt8) × (List ((List UInt8) × List UInt8)) × Int)) × (List (List UInt8)) × Bool × Bool) :=
 cnd (ieq x.2.2.2.1 (0 : Int))
  (some ((4 : Int), x.1))
  (cnd (ieq x.2.2.2.1 (1 : Int))
   (cnd (ilt (0 : Int) x.2.2.1)
    (some ((4 : Int), x.1))
    (some ((0 : Int), x.1)))
   (cnd (ieq x.2.2.2.1 (6 : Int))
    (grd (in3 x.2.2.1 (w64 (iadd x.2.2.1 x.2.2.2.2.1)) (len x.2.1))
     (bnd (r20_parser_text N (x.1, ldrop (toN x.2.2.1) (ltake (toN (w64 (iadd x.2.2.1 x.2.2.2.2.1))) x.2.1))) fun v0 =>
     some v0))
    (jn (fun (v1 : Bool) =>
     cnd v1
      (bnd (r20_Name N x.2.2.2.2.2.1) fun v2 =>
      cnd (bnot v2)
       (some ((5 : Int), x.1))
       (cnd (ieq x.2.2.2.1 (5 : Int))
        (bnd (r20_parser_end N (x.1, x.2.2.2)) fun v3 =>
        some v3)
        (bnd (r20_parser_start N (x.1, x.2.2.2)) fun v4 =>
        some v4)))
      (some ((0 : Int), x.1)))
    fun v5 =>
    cnd (ieq x.2.2.2.1 (3 : Int))
     (v5 (ieq x.2.2.2.1 (3 : Int)))
     (cnd (ieq x.2.2.2.1 (4 : Int))
      (v5 (ieq x.2.2.2.1 (4 : Int)))
      (v5 (ieq x.2.2.2.1 (5 : Int)))))))
def ps_r20_Parse : List PK := [.k (.v (.str) [])]
def rs_r20_Parse : List Kd := [.v (.slice (.st (.pair (.str) (.pair (.str) (.pair (.slice (.st (.pair (.str) (.str)))) (.int .i64)))))) [0], .v (.slice (.st (.pair (.int .i64) (.pair (.int .i64) (.int .i64))))) [0]]
def r20_Parse (N : Nat) (x : List UInt8) : Option ((List ((List UInt8) × (List UInt8) × (List ((List UInt8) × List UInt8)) × Int)) × List (Int × Int × Int)) :=
 cnd (ilt (262144 : Int) (len x))
  (bnd (r20_diag N (x, (0 : Int), (9 : Int))) fun v0 =>
  some (([] : List ((List UInt8) × (List UInt8) × (List ((List UInt8) × List UInt8)) × Int)), v0))
  (jn (fun (v1 : (List ((List UInt8) × (List UInt8) × (List ((List UInt8) × List UInt8)) × Int)) × (List (List UInt8)) × Bool × Bool) =>
   cnd (bnot v1.2.2.1)
    (bnd (r20_diag N (x, len x, (4 : Int))) fun v2 =>
    some (([] : List ((List UInt8) × (List UInt8) × (List ((List UInt8) × List UInt8)) × Int)), v2))
    (some (v1.1, ([] : List (Int × Int × Int)))))
  fun v3 =>
  fixN (fun v4 (v5 : Int × (List ((List UInt8) × (List UInt8) × (List ((List UInt8) × List UInt8)) × Int)) × (List (List UInt8)) × Bool × Bool) =>
   cnd (ilt v5.1 (len x))
    (grd (in2 v5.1 (len x))
     (bnd (r20_next N (ldrop (toN v5.1) x)) fun v6 =>
     bnd (r20_parser_take N (v5.2, x, v5.1, v6)) fun v7 =>
     cnd (ine v7.1 (0 : Int))
      (bnd (r20_diag N (x, v5.1, v7.1)) fun v8 =>
      some (([] : List ((List UInt8) × (List UInt8) × (List ((List UInt8) × List UInt8)) × Int)), v8))
      (v4 (w64 (iadd v5.1 v6.2.1), v7.2))))
    (v3 v5.2)) N ((0 : Int), ([] : List ((List UInt8) × (List UInt8) × (List ((List UInt8) × List UInt8)) × Int)), ([] : List (List UInt8)), false, false))
def ps_l20_XmlParses : List PK := [.k (.v (.str) [])]
def rs_l20_XmlParses : List Kd := [.v (.bool) []]
def l20_XmlParses (N : Nat) (x : List UInt8) : Option (Bool) :=
 bnd (l20_awake N ()) fun v0 =>
 cnd (bnot v0)
  (some false)
  (bnd (l20_short N x) fun v1 =>
  bnd (xml_Parse N v1) fun v2 =>
  bnd (r20_Parse N v1) fun v3 =>
  bnd (l20_same N (v2.1, v3.1)) fun v4 =>
  cnd v4
   (bnd (slices_Equal_Lapi_Diag_api_Diag N (v2.2, v3.2)) fun v5 =>
   some v5)
   (some false))
end
end Go.Mo
end

section
/-
  Two functions of strings.Builder, walked by hand. The numbers are printed by a program.
-/
set_option linter.unusedVariables false
namespace Go.Mo
open Go Go.W Go.Proofs Go.RowKit

theorem sizeB : (Tryz.prog.info? 55).map (·.size) = some 2 := by kernel_rfl
theorem liesB : liesAt Tryz.prog Tryz.prog.depth 55 (2 / Tryz.prog.cellsOf 55) 0 55 1 = true := by kernel_rfl
theorem cellsByte : Tryz.prog.cellsOf 5 = 1 := by kernel_rfl
theorem undP : Tryz.prog.underlying 52 = some (.pointer 55) := by kernel_rfl
theorem undU : Tryz.prog.underlying 118 = some .unsafePointer := by kernel_rfl
theorem undBP : Tryz.prog.underlying 94 = some (.pointer 5) := by kernel_rfl
theorem undSl : Tryz.prog.underlying 53 = some (.slice 5) := by kernel_rfl
theorem mixedB : Tryz.prog.follows .mixedOrders = true := by kernel_rfl
theorem fNe : Tryz.prog.funcs[91]? = some Tryz.f91 := by kernel_rfl

set_option maxHeartbeats 1000000 in
set_option maxRecDepth 100000 in
theorem cc_used (b : Nat) (w : World) (h0 : w.cell? ⟨b, 0, none⟩ = some (.pointer (some ⟨b, 0, none⟩))) :
    Calls Tryz.prog 64 #[.pointer (some ⟨b, 0, none⟩)] w fun e w' => e = .returned (.tuple #[]) ∧ w' = w := by
  obtain ⟨j, hj, _⟩ := Option.map_eq_some_iff.1 sizeB
  go_enter Tryz.func64, Tryz.ntmps64
  go_wp2
  rw [Lib.run_neq_ptr_same w _ undP hj]
  go_wp2
  go_end0
  exact ⟨rfl, rfl⟩

set_option maxHeartbeats 1000000 in
set_option maxRecDepth 100000 in
theorem cc_fresh (b : Nat) (w : World) (h0 : w.cell? ⟨b, 0, none⟩ = some (.pointer none)) (hsh : w.shape? b = some (55, 2)) (hfz : w.frozen? ⟨b, 0, none⟩ = false) :
    Calls Tryz.prog 64 #[.pointer (some ⟨b, 0, none⟩)] w fun e w' => e = .returned (.tuple #[]) ∧ w' = w.setCell ⟨b, 0, none⟩ (.pointer (some ⟨b, 0, none⟩)) := by
  obtain ⟨j, hj, hjs⟩ := Option.map_eq_some_iff.1 sizeB
  go_enter Tryz.func64, Tryz.ntmps64
  go_wp2
  rw [Lib.run_to_unsafe w ⟨b, 0, none⟩ undP undU hj (by rw [hjs]; decide) hsh (Nat.zero_lt_succ 1)]
  simp only [Result.andThen]
  rw [Oper.upon_value]
  go_wp2
  rw [run_callFunc_extern fNe (by kernel_rfl) (by kernel_rfl) (by kernel_rfl) (e := Extern.AbiNoEscape.same) (by kernel_rfl)]
  rw [Lib.run_noEscape]
  simp only [Result.andThen]
  rw [Oper.upon_value]
  go_wp2
  rw [Lib.run_from_unsafe w ⟨b, 0, none⟩ undU undP hj hsh liesB]
  simp only [Result.andThen]
  rw [Oper.upon_value]
  go_wp2
  go_end0
  exact ⟨rfl, rfl⟩

theorem ccOk : CcOk Tryz.prog 64 55 := by
  intro w b p v hb hp
  refine ⟨by
    unfold callFunc
    simp only [program, Sem.run_bind, Sem.run, Result.andThen_ok, show Tryz.prog.funcs[64]? = some Tryz.f64 from by kernel_rfl]
    rfl, ?_⟩
  have c0 : w.cell? ⟨b, 0, none⟩ = some p := by rw [Lib.cell_of_heap hb]; rfl
  rcases hp with hp | hp
  · subst hp
    refine (cc_fresh b w c0 (by simp [World.shape?, hb]) (Lib.frozen_of_heap hb 0)).mono ?_
    rintro e w' ⟨rfl, rfl⟩
    refine ⟨rfl, rfl, rfl, rfl, by simp [World.setCell], fun b' hb' => ?_, .pointer (some ⟨b, 0, none⟩), ?_, .inr rfl⟩
    · simp [World.setCell, Array.getElem?_modify, Ne.symm hb']
    · simp [World.setCell, Array.getElem?_modify, hb]
  · subst hp
    refine (cc_used b w c0).mono ?_
    rintro e w' ⟨rfl, rfl⟩
    exact ⟨rfl, rfl, rfl, rfl, rfl, fun _ _ => rfl, _, hb, .inr rfl⟩

/-! ### String -/
section
variable (b : Nat) (p : Value) (w : World)
set_option maxHeartbeats 2000000 in
set_option maxRecDepth 100000 in
theorem bs_some (l : List UInt8) (h0 : l ≠ []) (g cap : Nat) (cur : Array Value) (fz : Nat × Nat) (hbk : w.heap[b]? = some (.cells #[p, .slice (some ⟨g, 0, none⟩) l.length cap] 55 (0, 0))) (hg : w.heap[g]? = some (.cells cur 5 fz)) (hnc : l.length ≤ cap) (hcm : cap ≤ maxLen) (hcs : cap ≤ cur.size) (htake : cur.toList.take l.length = l.map fun b => Value.int .u8 (b.toNat : Int)) :
    Calls Tryz.prog 39 #[.pointer (some ⟨b, 0, none⟩)] w fun e w' => e = .returned (.string ⟨l.toArray⟩) ∧ w' = w.drew.freeze ⟨g, 0, none⟩ l.length := by
  have hl0 : l.length ≠ 0 := by simpa using h0
  have c1 : w.drew.cell? ⟨b, 1, none⟩ = some (.slice (some ⟨g, 0, none⟩) l.length cap) := by
    have : w.drew.heap[b]? = some (.cells #[p, .slice (some ⟨g, 0, none⟩) l.length cap] 55 (0, 0)) := hbk
    rw [Lib.cell_of_heap this]; rfl
  have hSD : (Builtin.unsafeSliceData_ #[53] 94 #[.slice (some ⟨g, 0, none⟩) l.length cap]).run Tryz.prog w.drew = .ok (.pointer (some ⟨g, 0, none⟩)) w.drew :=
    Lib.run_unsafeSliceData_row _ _ _ _ _ _ (by omega)
  have hUS : (Builtin.unsafeString_ #[94, 3] 9 #[.pointer (some ⟨g, 0, none⟩), .int .i64 l.length]).run Tryz.prog w.drew = .ok (.string ⟨l.toArray⟩) (w.drew.freeze ⟨g, 0, none⟩ l.length) := by
    refine Lib.run_unsafeString_row w.drew 94 3 9 5 undBP cellsByte g cur.size (by have hg' : w.drew.heap[g]? = some (.cells cur 5 fz) := hg; simp [World.shape?, hg']) l h0 (by omega) (by unfold maxLen at hcm; omega) ?_
    intro j x hx
    have hg' : w.drew.heap[g]? = some (.cells cur 5 fz) := hg
    rw [add_lit, cell_row hg', Nat.zero_add]
    have hj : j < l.length := (List.getElem?_eq_some_iff.1 hx).1
    have := congrArg (·[j]?) htake
    simp only [List.getElem?_take, hj, if_true, List.getElem?_map, hx, Option.map_some] at this
    simpa using this
  go_enter Tryz.func39, Tryz.ntmps39
  go_wp2
  go_region
  all_goals (go_wp2; go_ret; exact ⟨rfl, rfl⟩)

theorem us_none (W : World) (q : Option Addr) : (Builtin.unsafeString_ #[94, 3] 9 #[.pointer q, .int .i64 0]).run Tryz.prog W = .ok (.string .empty) W := Lib.run_unsafeString_none W _ _ _ q

set_option maxHeartbeats 2000000 in
set_option maxRecDepth 100000 in
theorem bs_nil (hbk : w.heap[b]? = some (.cells #[p, .slice none 0 0] 55 (0, 0))) :
    Calls Tryz.prog 39 #[.pointer (some ⟨b, 0, none⟩)] w fun e w' => e = .returned (.string ⟨#[]⟩) ∧ w' = w.drew := by
  have hUS := us_none
  have c1 : w.drew.cell? ⟨b, 1, none⟩ = some (.slice none 0 0) := by
    have : w.drew.heap[b]? = some (.cells #[p, .slice none 0 0] 55 (0, 0)) := hbk
    rw [Lib.cell_of_heap this]; rfl
  have hSD : (Builtin.unsafeSliceData_ #[53] 94 #[.slice none 0 0]).run Tryz.prog w.drew = .ok (.pointer none) w.drew := rfl
  go_enter Tryz.func39, Tryz.ntmps39
  go_wp2
  go_region
  all_goals (go_wp2; go_ret; exact ⟨rfl, rfl⟩)

set_option maxHeartbeats 2000000 in
set_option maxRecDepth 100000 in
theorem bs_noroom (g : Nat) (cur : Array Value) (fz : Nat × Nat) (hbk : w.heap[b]? = some (.cells #[p, .slice (some ⟨g, 0, none⟩) 0 0] 55 (0, 0))) (hg : w.heap[g]? = some (.cells cur 5 fz)) :
    Calls Tryz.prog 39 #[.pointer (some ⟨b, 0, none⟩)] w fun e w' => e = .returned (.string ⟨#[]⟩) ∧ ∃ d o, w' = World.alloc { w with drawn := d } o := by
  have hUS := us_none
  have hlt : b < w.heap.size := (Array.getElem?_eq_some_iff.1 hbk).1
  have c1 : w.drew.cell? ⟨b, 1, none⟩ = some (.slice (some ⟨g, 0, none⟩) 0 0) := by
    have : w.drew.heap[b]? = some (.cells #[p, .slice (some ⟨g, 0, none⟩) 0 0] 55 (0, 0)) := hbk
    rw [Lib.cell_of_heap this]; rfl
  have hSD : (Builtin.unsafeSliceData_ #[53] 94 #[.slice (some ⟨g, 0, none⟩) 0 0]).run Tryz.prog w.drew = .ok (.pointer (some ⟨w.drew.heap.size, 0, none⟩)) (w.drew.alloc (.view ⟨g, 0, none⟩ 5)) :=
    Lib.run_unsafeSliceData_zero w.drew _ _ 5 undBP ⟨g, 0, none⟩ 0 (5, cur.size) (by have hg' : w.drew.heap[g]? = some (.cells cur 5 fz) := hg; simp [World.shape?, hg'])
  have c2 : (w.drew.alloc (.view ⟨g, 0, none⟩ 5)).cell? ⟨b, 1, none⟩ = some (.slice (some ⟨g, 0, none⟩) 0 0) := by
    have : (w.drew.alloc (.view ⟨g, 0, none⟩ 5)).heap[b]? = _ := (Lib.alloc_old w.drew _ b hlt).trans hbk
    rw [Lib.cell_of_heap this]; rfl
  have c3 : (w.alloc (.view ⟨g, 0, none⟩ 5)).drew.cell? ⟨b, 1, none⟩ = some (.slice (some ⟨g, 0, none⟩) 0 0) := c2
  have c0 : w.cell? ⟨b, 1, none⟩ = some (.slice (some ⟨g, 0, none⟩) 0 0) := c1
  go_enter Tryz.func39, Tryz.ntmps39
  go_wp2
  go_region
  all_goals (go_wp2; go_ret; exact ⟨rfl, w.drawn + 1, .view ⟨g, 0, none⟩ 5, rfl⟩)

set_option maxHeartbeats 2000000 in
set_option maxRecDepth 100000 in
theorem bs_room (g cap : Nat) (hc0 : cap ≠ 0) (hbk : w.heap[b]? = some (.cells #[p, .slice (some ⟨g, 0, none⟩) 0 cap] 55 (0, 0))) :
    Calls Tryz.prog 39 #[.pointer (some ⟨b, 0, none⟩)] w fun e w' => e = .returned (.string ⟨#[]⟩) ∧ w' = w.drew := by
  have hUS := us_none
  have c1 : w.drew.cell? ⟨b, 1, none⟩ = some (.slice (some ⟨g, 0, none⟩) 0 cap) := by
    have : w.drew.heap[b]? = some (.cells #[p, .slice (some ⟨g, 0, none⟩) 0 cap] 55 (0, 0)) := hbk
    rw [Lib.cell_of_heap this]; rfl
  have hSD : (Builtin.unsafeSliceData_ #[53] 94 #[.slice (some ⟨g, 0, none⟩) 0 cap]).run Tryz.prog w.drew = .ok (.pointer (some ⟨g, 0, none⟩)) w.drew :=
    Lib.run_unsafeSliceData_row _ _ _ _ _ _ hc0
  clear hc0
  go_enter Tryz.func39, Tryz.ntmps39
  go_wp2
  go_region
  all_goals (go_wp2; go_ret; exact ⟨rfl, rfl⟩)
end
theorem bsOk : BsOk Tryz.prog 39 55 := by
  intro w b p A c xs hb hcm hpre
  refine ⟨by
    unfold callFunc
    simp only [program, Sem.run_bind, Sem.run, Result.andThen_ok, show Tryz.prog.funcs[39]? = some Tryz.f39 from by kernel_rfl]
    rfl, ?_⟩
  have same : ∀ (A : Option Addr) (w' : World), w' = w.drew → SameBut w w' A := fun A w' e => by
    subst e
    exact ⟨rfl, rfl, rfl, Nat.le_refl _, fun _ _ _ => rfl, fun ad _ cs e fz h => ⟨fz, h⟩⟩
  rcases hpre with ⟨rfl, rfl, rfl⟩ | ⟨g, cur, fz, rfl, h1, h2, h3, h4, h5⟩
  · exact (bs_nil b p w hb).mono fun e w' ⟨he, hw⟩ => ⟨he, same _ _ hw⟩
  · by_cases hx : xs = []
    · subst hx
      by_cases hc : c = 0
      · subst hc
        refine (bs_noroom b p w g cur fz hb h1).mono fun e w' ⟨he, d, o, hw⟩ => ⟨he, ?_⟩
        subst hw
        have old : ∀ b', b' < w.heap.size → (World.alloc { w with drawn := d } o).heap[b']? = w.heap[b']? := fun b' hb' => Below.heap_alloc { w with drawn := d } o b' hb'
        exact ⟨rfl, rfl, rfl, by simp [World.alloc], fun b' hb' _ => old b' hb', fun ad _ cs e fz h => ⟨fz, by rw [old _ (Array.getElem?_eq_some_iff.1 h).1]; exact h⟩⟩
      · exact (bs_room b p w g c hc hb).mono fun e w' ⟨he, hw⟩ => ⟨he, same _ _ hw⟩
    · refine (bs_some b p w xs hx g c cur fz hb h1 h3 hcm h4 h5).mono fun e w' ⟨he, hw⟩ => ⟨he, ?_⟩
      subst hw
      have hne : xs.length ≠ 0 := by simpa using hx
      unfold World.freeze
      rw [if_neg hne]
      refine ⟨rfl, rfl, rfl, by simp, fun b' _ hb' => ?_, fun ad had cs e fz' h => ?_⟩
      · have hgb : g ≠ b' := fun e => hb' _ rfl e.symm
        show (w.heap.modify g _)[b']? = w.heap[b']?
        rw [Array.getElem?_modify, if_neg hgb]
      · injection had with had
        subst had
        have h : w.heap[g]? = some (.cells cs e fz') := h
        obtain ⟨lo, hi⟩ := fz'
        refine ⟨if lo == hi then (0, 0 + xs.length) else (min lo 0, max hi (0 + xs.length)), ?_⟩
        show (w.heap.modify g _)[g]? = _
        rw [Array.getElem?_modify, if_pos rfl, h]
        rfl
end Go.Mo
end

section
/-
  unicode/utf8.ValidString: the library's contract. The numbers are printed by a program.
-/
set_option linter.unusedVariables false
namespace Go.Mo
open Go Go.W Go.Proofs Go.Shelf Go.RowKit
set_option maxRecDepth 100000
def rhoV : Ren := ⟨fun n => match n with | 196 => 60 | 259 => 88 | n => n, fun n => match n with | 46 => 116 | 53 => 131 | 119 => 112 | 138 => 114 | 139 => 115 | n => n, fun n => match n with | 3 => 1 | 4 => 2 | n => n⟩
theorem laysV : Lays.n196 Tryz.prog rhoV := { mixed := by kernel_rfl, f196 := by kernel_rfl, f259 := by kernel_rfl, t0 := by kernel_rfl, a0 := fun _ => by kernel_rfl, z0 := fun _ => by kernel_rfl, v0 := fun _ => by kernel_rfl, t3 := by kernel_rfl, a3 := fun _ => by kernel_rfl, z3 := fun _ => by kernel_rfl, v3 := fun _ => by kernel_rfl, t4 := by kernel_rfl, a4 := fun _ => by kernel_rfl, z4 := fun _ => by kernel_rfl, v4 := fun _ => by kernel_rfl, t5 := by kernel_rfl, a5 := fun _ => by kernel_rfl, z5 := fun _ => by kernel_rfl, v5 := fun _ => by kernel_rfl, t9 := by kernel_rfl, a9 := fun _ => by kernel_rfl, z9 := fun _ => by kernel_rfl, v9 := fun _ => by kernel_rfl, t12 := by kernel_rfl, a12 := fun _ => by kernel_rfl, z12 := fun _ => by kernel_rfl, v12 := fun _ => by kernel_rfl, t46 := by kernel_rfl, a46 := fun _ => by kernel_rfl, z46 := fun _ => by kernel_rfl, v46 := fun _ => by kernel_rfl, t53 := by kernel_rfl, a53 := fun _ => by kernel_rfl, z53 := fun _ => by kernel_rfl, v53 := fun _ => by kernel_rfl, t119 := by kernel_rfl, a119 := fun _ => by kernel_rfl, z119 := fun _ => by kernel_rfl, t138 := by kernel_rfl, a138 := fun _ => by kernel_rfl, z138 := fun _ => by kernel_rfl, v138 := fun _ => by kernel_rfl, t139 := by kernel_rfl, a139 := fun _ => by kernel_rfl, z139 := fun _ => by kernel_rfl, v139 := fun _ => by kernel_rfl, g3 := by kernel_rfl, g4 := by kernel_rfl }
theorem first_tab : ((List.range 256).all fun c => Nat.beq ((gl1.getD c 0).toNat) (Lib.firstT c) && Nat.beq gl1.length 256) = true := by kernel_rfl
theorem acc_tab : ((List.range 16).all fun c => Nat.beq ((gl2.getD c (0, 0)).1.toNat) (Lib.accLo c) && Nat.beq ((gl2.getD c (0, 0)).2.toNat) (Lib.accHi c) && Nat.beq gl2.length 16) = true := by kernel_rfl
theorem rep_pairs {K : Kn} : ∀ {xs : List (UInt8 × UInt8)} {vs : List Value}, RepL (RepC K (.st (.pair .u8 .u8))) xs vs → ∀ i x, xs[i]? = some x → vs[2 * i]? = some (.int .u8 (n8 x.1)) ∧ vs[2 * i + 1]? = some (.int .u8 (n8 x.2))
  | [], vs, h, i, x, hx => by simp at hx
  | y :: xs, vs, ⟨c1, c2, e, h1, h2⟩, i, x, hx => by
    obtain ⟨d1, d2, e1, e2, e3⟩ := h1
    have e2 : d1 = [.int .u8 (n8 y.1)] := e2
    have e3 : d2 = [.int .u8 (n8 y.2)] := e3
    subst e2
    subst e3
    subst e1
    subst e
    cases i with
    | zero => simp at hx; subst hx; exact ⟨rfl, rfl⟩
    | succ i =>
      have := rep_pairs h2 i x (by simpa using hx)
      rw [show 2 * (i + 1) = 2 * i + 1 + 1 by omega]
      simpa using this
theorem tabsV {K : Kn} {w : World} (hg : GlobOk E K) (hk : KOk K w) : Lib.Utf8Tabs 1 2 w := by
  have cell : ∀ {b o : Nat} {v : Value}, K b o = some v → v.oneCell' = true → w.cell? ⟨b, o, none⟩ = some v := fun {b o v} h hv => by
    obtain ⟨cs, e, fz, h1, h2⟩ := hk b o v h
    rw [cell_row h1]
    exact h2.1 hv
  constructor
  · obtain ⟨cs, ⟨_, r2⟩, r3, _⟩ := hg.1 1 _ _ (show lkG E.gl 1 = some ⟨.arr 256 .u8, gl1⟩ from by kernel_rfl)
    have hcs := repL_u8_cells r2
    intro c hc
    have ht := List.all_eq_true.1 first_tab c (List.mem_range.2 hc)
    simp only [Bool.and_eq_true] at ht
    have ht1 := Nat.eq_of_beq_eq_true ht.1
    have ht2 := Nat.eq_of_beq_eq_true ht.2
    have hlt : c < gl1.length := by rw [ht2]; exact hc
    refine cell (r3 c _ ?_) rfl
    rw [hcs, List.getElem?_map, List.getElem?_eq_getElem hlt]
    have : gl1.getD c 0 = gl1[c] := by simp [hlt]
    rw [this] at ht1
    simp [ht1]
  · obtain ⟨cs, ⟨_, r2⟩, r3, _⟩ := hg.1 2 _ _ (show lkG E.gl 2 = some ⟨.arr 16 (.st (.pair .u8 .u8)), gl2⟩ from by kernel_rfl)
    intro c hc
    have ht := List.all_eq_true.1 acc_tab c (List.mem_range.2 hc)
    simp only [Bool.and_eq_true] at ht
    have ht1 := Nat.eq_of_beq_eq_true ht.1.1
    have ht2 := Nat.eq_of_beq_eq_true ht.1.2
    have ht3 := Nat.eq_of_beq_eq_true ht.2
    have hlt : c < gl2.length := by rw [ht3]; exact hc
    obtain ⟨q1, q2⟩ := rep_pairs r2 c _ (List.getElem?_eq_getElem hlt)
    have : gl2.getD c (0, 0) = gl2[c] := by simp [hlt]
    rw [this] at ht1 ht2
    refine ⟨cell (r3 _ _ (by rw [q1]; unfold n8; rw [ht1])) rfl, cell (r3 _ _ (by rw [q2]; unfold n8; rw [ht2])) rfl⟩
theorem khV (N : Nat) : ConOk E ⟨60, [.k (.v .str [])], [.v .bool []], hand_utf8_ValidString N⟩ := by
  intro x r h w K H γ args hEnt
  obtain ⟨hgd, h⟩ := grd_some (show grd (catOk (len x)) (some (Lib.validD x)) = some r from h)
  injection h with h
  subst h
  have hgd : (x.length : Int) ≤ 9223372036854775807 := of_decide_eq_true hgd
  right
  have hs : args.size = 1 := hEnt.size
  have s0 := (hEnt.slots 0 0 (.val (.one (.v .str x))) rfl).2
  have s0 : args.getD 0 undef = .string (bst x) := by simpa [RepSV, RepV, RepCell, RepC] using s0
  have ha : args = #[.string (bst x)] := by
    apply Array.ext
    · simpa using hs
    · intro i h1 h3
      simp at h3
      subst h3
      have : args.getD 0 undef = args[0] := by simp [Array.getD, hs]
      rw [← this, s0]
      rfl
  subst ha
  have hsz : (bst x).size = x.length := bst_size x
  refine ⟨by
    unfold callFunc
    simp only [program, Sem.run_bind, Sem.run, Result.andThen_ok, show E.P.funcs[60]? = some Tryz.f60 from by kernel_rfl]
    rfl, ?_⟩
  have hT := tabsV hEnt.glob hEnt.hp.kok
  refine (Any.utf8_ValidString laysV (bst x) w (by rw [hsz]; omega) hT).mono fun e w' he => ?_
  obtain ⟨rfl, hb⟩ := he
  intro tk _
  refine ⟨γ, obs (W.start [.k (.v .str [])] x), K, [], [], ?_, ⟨rfl, rfl⟩, fun j => by simp, fun i o ho => ?_, fun γ2 _ => rfl⟩
  · have hn : ∀ j, obs (W.start [.k (.v .str [])] x) j = none := fun j => rfl
    refine ⟨hb.os, hb.tape, hb.output, hb.size, fun b hlt _ => ⟨hb.block b hlt, fun _ => rfl⟩, Kn.le.refl K, fun b o v hv => ?_, fun j o g hj => (by rw [hn] at hj; cases hj), fun j o g hj => (by rw [hn] at hj; cases hj), fun i j p q g g' hi => (by rw [hn] at hi; cases hi)⟩
    obtain ⟨cs, ee, fz, h1, h2⟩ := hEnt.hp.kok b o v hv
    exact ⟨cs, ee, fz, by rw [hb.block b (Array.getElem?_eq_some_iff.1 h1).1]; exact h1, h2⟩
  · have ho : ([] : List Ob)[i]? = some o := ho
    simp at ho
end Go.Mo
end

section
/-
  Functions of the library, by its own contracts. The numbers are printed by a program.
-/
set_option linter.all false
namespace Go.Mo
open Go Go.W Go.Proofs Go.Shelf Go.RowKit
set_option maxRecDepth 100000
def rhoC : Ren := ⟨fun n => match n with | 143 => 74 | 144 => 105 | 217 => 100 | 219 => 101 | 224 => 117 | 225 => 116 | 266 => 115 | 267 => 118 | 314 => 130 | n => n, fun n => match n with | 46 => 116 | 51 => 132 | 146 => 133 | 22 => 92 | 23 => 127 | 24 => 48 | 27 => 100 | 28 => 46 | 31 => 68 | 34 => 50 | 37 => 53 | 39 => 91 | 40 => 163 | 41 => 67 | 48 => 120 | 53 => 131 | 55 => 101 | 63 => 144 | 64 => 117 | 65 => 98 | 69 => 23 | 70 => 52 | 71 => 54 | 72 => 55 | 73 => 121 | 74 => 58 | 75 => 59 | 76 => 60 | 77 => 61 | 78 => 62 | 80 => 63 | 81 => 69 | 94 => 232 | 103 => 124 | 104 => 27 | 105 => 122 | 106 => 123 | 111 => 203 | 114 => 135 | 115 => 137 | 116 => 138 | 117 => 139 | 118 => 140 | 119 => 112 | 122 => 136 | 123 => 141 | 124 => 142 | 127 => 94 | 136 => 111 | 137 => 113 | 138 => 114 | 139 => 115 | 151 => 134 | 164 => 118 | 165 => 119 | 166 => 143 | 238 => 207 | 239 => 208 | 240 => 209 | 241 => 210 | 242 => 211 | 243 => 212 | 244 => 213 | 245 => 214 | 246 => 215 | 247 => 216 | 248 => 217 | 249 => 218 | n => n, fun n => match n with | 1 => 3 | 3 => 1 | 4 => 2 | n => n⟩
theorem laysC : Lays.n144 Tryz.prog rhoC := { mixed := by kernel_rfl, f143 := by kernel_rfl, f144 := by kernel_rfl, f217 := by kernel_rfl, f219 := by kernel_rfl, f224 := by kernel_rfl, f225 := by kernel_rfl, f266 := by kernel_rfl, f267 := by kernel_rfl, f314 := by kernel_rfl, t3 := by kernel_rfl, a3 := fun _ => by kernel_rfl, z3 := fun _ => by kernel_rfl, v3 := fun _ => by kernel_rfl, t4 := by kernel_rfl, a4 := fun _ => by kernel_rfl, z4 := fun _ => by kernel_rfl, v4 := fun _ => by kernel_rfl, t5 := by kernel_rfl, a5 := fun _ => by kernel_rfl, z5 := fun _ => by kernel_rfl, v5 := fun _ => by kernel_rfl, t9 := by kernel_rfl, a9 := fun _ => by kernel_rfl, z9 := fun _ => by kernel_rfl, v9 := fun _ => by kernel_rfl, t46 := by kernel_rfl, a46 := fun _ => by kernel_rfl, z46 := fun _ => by kernel_rfl, v46 := fun _ => by kernel_rfl, t51 := by kernel_rfl, a51 := fun _ => by kernel_rfl, z51 := fun _ => by kernel_rfl, v51 := fun _ => by kernel_rfl, t146 := by kernel_rfl, a146 := fun _ => by kernel_rfl, z146 := fun _ => by kernel_rfl, v146 := fun _ => by kernel_rfl, g1 := by kernel_rfl }
theorem khContains (N : Nat) : ConOk E ⟨105, [.k (.v .str []), .k (.v .str [])], [.v .bool []], hand_strings_Contains N⟩ :=
  con_ssb (fn := Tryz.f105) _ (show E.P.funcs[105]? = some Tryz.f105 from by kernel_rfl) (by kernel_rfl) (by kernel_rfl) fun x r h w K hG hk => by
    obtain ⟨hb, h⟩ := grd_some h
    injection h with h
    subst h
    have hb : x.1.length < 4294967281 := of_decide_eq_true hb
    obtain ⟨m, hm⟩ := hG.2 3 (by kernel_rfl)
    obtain ⟨cs, e, fz, h1, h2⟩ := hk _ _ _ hm
    exact Any.strings_Contains laysC (bst x.1) (bst x.2) m w (by rw [bst_size]; exact hb) (by
      show w.cell? ⟨3, 0, none⟩ = _
      rw [cell_row h1]
      exact h2.1 rfl)
def rhoI : Ren := ⟨fun n => match n with | 143 => 74 | 217 => 100 | 219 => 101 | 224 => 117 | 225 => 116 | 266 => 115 | 267 => 118 | 314 => 130 | n => n, fun n => match n with | 46 => 116 | 51 => 132 | 146 => 133 | 22 => 92 | 23 => 127 | 24 => 48 | 27 => 100 | 28 => 46 | 31 => 68 | 34 => 50 | 37 => 53 | 39 => 91 | 40 => 163 | 41 => 67 | 48 => 120 | 53 => 131 | 55 => 101 | 63 => 144 | 64 => 117 | 65 => 98 | 69 => 23 | 70 => 52 | 71 => 54 | 72 => 55 | 73 => 121 | 74 => 58 | 75 => 59 | 76 => 60 | 77 => 61 | 78 => 62 | 80 => 63 | 81 => 69 | 94 => 232 | 103 => 124 | 104 => 27 | 105 => 122 | 106 => 123 | 111 => 203 | 114 => 135 | 115 => 137 | 116 => 138 | 117 => 139 | 118 => 140 | 119 => 112 | 122 => 136 | 123 => 141 | 124 => 142 | 127 => 94 | 136 => 111 | 137 => 113 | 138 => 114 | 139 => 115 | 151 => 134 | 164 => 118 | 165 => 119 | 166 => 143 | 238 => 207 | 239 => 208 | 240 => 209 | 241 => 210 | 242 => 211 | 243 => 212 | 244 => 213 | 245 => 214 | 246 => 215 | 247 => 216 | 248 => 217 | 249 => 218 | n => n, fun n => match n with | 1 => 3 | 3 => 1 | 4 => 2 | n => n⟩
theorem laysI : Lays.n143 Tryz.prog rhoI := { mixed := by kernel_rfl, f143 := by kernel_rfl, f217 := by kernel_rfl, f219 := by kernel_rfl, f224 := by kernel_rfl, f225 := by kernel_rfl, f266 := by kernel_rfl, f267 := by kernel_rfl, f314 := by kernel_rfl, t3 := by kernel_rfl, a3 := fun _ => by kernel_rfl, z3 := fun _ => by kernel_rfl, v3 := fun _ => by kernel_rfl, t4 := by kernel_rfl, a4 := fun _ => by kernel_rfl, z4 := fun _ => by kernel_rfl, v4 := fun _ => by kernel_rfl, t5 := by kernel_rfl, a5 := fun _ => by kernel_rfl, z5 := fun _ => by kernel_rfl, v5 := fun _ => by kernel_rfl, t9 := by kernel_rfl, a9 := fun _ => by kernel_rfl, z9 := fun _ => by kernel_rfl, v9 := fun _ => by kernel_rfl, t46 := by kernel_rfl, a46 := fun _ => by kernel_rfl, z46 := fun _ => by kernel_rfl, v46 := fun _ => by kernel_rfl, t51 := by kernel_rfl, a51 := fun _ => by kernel_rfl, z51 := fun _ => by kernel_rfl, v51 := fun _ => by kernel_rfl, t146 := by kernel_rfl, a146 := fun _ => by kernel_rfl, z146 := fun _ => by kernel_rfl, v146 := fun _ => by kernel_rfl, g1 := by kernel_rfl }
theorem khIndex (N : Nat) : ConOk E ⟨74, [.k (.v .str []), .k (.v .str [])], [.v (.int .i64) []], hand_strings_Index N⟩ :=
  con_ssi (fn := Tryz.f74) _ (show E.P.funcs[74]? = some Tryz.f74 from by kernel_rfl) (by kernel_rfl) (by kernel_rfl) fun x r h w K hG hk => by
    obtain ⟨hb, h⟩ := grd_some h
    injection h with h
    subst h
    have hb : x.1.length < 4294967281 := of_decide_eq_true hb
    obtain ⟨m, hm⟩ := hG.2 3 (by kernel_rfl)
    obtain ⟨cs, e, fz, h1, h2⟩ := hk _ _ _ hm
    refine (Any.strings_Index laysI (bst x.1) (bst x.2) m w (by rw [bst_size]; exact hb) (by
      show w.cell? ⟨3, 0, none⟩ = _
      rw [cell_row h1]
      exact h2.1 rfl)).mono fun e w' he => ?_
    obtain ⟨q1, q2⟩ := he
    subst q2
    exact ⟨q1, rfl, rfl, rfl, Nat.le_refl _, fun b _ => rfl⟩
def rhoR : Ren := ⟨fun n => match n with | 138 => 71 | 143 => 74 | 154 => 68 | 165 => 94 | 166 => 37 | 169 => 39 | 195 => 96 | 197 => 95 | 217 => 100 | 218 => 97 | 219 => 101 | 224 => 117 | 225 => 116 | 240 => 64 | 241 => 112 | 260 => 113 | 266 => 115 | 267 => 118 | 276 => 91 | 277 => 129 | 314 => 130 | n => n, fun n => match n with | 37 => 53 | 46 => 116 | 51 => 132 | 70 => 52 | 72 => 55 | 75 => 59 | 76 => 60 | 80 => 63 | 105 => 122 | 119 => 112 | 127 => 94 | 138 => 114 | 139 => 115 | 146 => 133 | 164 => 118 | 22 => 92 | 23 => 127 | 24 => 48 | 27 => 100 | 28 => 46 | 31 => 68 | 34 => 50 | 39 => 91 | 40 => 163 | 41 => 67 | 48 => 120 | 53 => 131 | 55 => 101 | 63 => 144 | 64 => 117 | 65 => 98 | 69 => 23 | 71 => 54 | 73 => 121 | 74 => 58 | 77 => 61 | 78 => 62 | 81 => 69 | 94 => 232 | 103 => 124 | 104 => 27 | 106 => 123 | 111 => 203 | 114 => 135 | 115 => 137 | 116 => 138 | 117 => 139 | 118 => 140 | 122 => 136 | 123 => 141 | 124 => 142 | 136 => 111 | 137 => 113 | 151 => 134 | 165 => 119 | 166 => 143 | 238 => 207 | 239 => 208 | 240 => 209 | 241 => 210 | 242 => 211 | 243 => 212 | 244 => 213 | 245 => 214 | 246 => 215 | 247 => 216 | 248 => 217 | 249 => 218 | n => n, fun n => match n with | 1 => 3 | 3 => 1 | 4 => 2 | n => n⟩
theorem laysR : Lays.n154 Tryz.prog rhoR := { mixed := by kernel_rfl, f138 := by kernel_rfl, f143 := by kernel_rfl, f154 := by kernel_rfl, f165 := by kernel_rfl, f166 := by kernel_rfl, f169 := by kernel_rfl, f195 := by kernel_rfl, f197 := by kernel_rfl, f217 := by kernel_rfl, f218 := by kernel_rfl, f219 := by kernel_rfl, f224 := by kernel_rfl, f225 := by kernel_rfl, f240 := by kernel_rfl, f241 := by kernel_rfl, f260 := by kernel_rfl, f266 := by kernel_rfl, f267 := by kernel_rfl, f276 := by kernel_rfl, f277 := by kernel_rfl, f314 := by kernel_rfl, t0 := by kernel_rfl, a0 := fun _ => by kernel_rfl, z0 := fun _ => by kernel_rfl, v0 := fun _ => by kernel_rfl, t3 := by kernel_rfl, a3 := fun _ => by kernel_rfl, z3 := fun _ => by kernel_rfl, v3 := fun _ => by kernel_rfl, t4 := by kernel_rfl, a4 := fun _ => by kernel_rfl, z4 := fun _ => by kernel_rfl, v4 := fun _ => by kernel_rfl, t5 := by kernel_rfl, a5 := fun _ => by kernel_rfl, z5 := fun _ => by kernel_rfl, v5 := fun _ => by kernel_rfl, t9 := by kernel_rfl, a9 := fun _ => by kernel_rfl, z9 := fun _ => by kernel_rfl, v9 := fun _ => by kernel_rfl, t20 := by kernel_rfl, a20 := fun _ => by kernel_rfl, z20 := fun _ => by kernel_rfl, v20 := fun _ => by kernel_rfl, t21 := by kernel_rfl, a21 := fun _ => by kernel_rfl, z21 := fun _ => by kernel_rfl, v21 := fun _ => by kernel_rfl, t37 := by kernel_rfl, a37 := fun _ => by kernel_rfl, z37 := fun _ => by kernel_rfl, v37 := fun _ => by kernel_rfl, t46 := by kernel_rfl, a46 := fun _ => by kernel_rfl, z46 := fun _ => by kernel_rfl, v46 := fun _ => by kernel_rfl, t51 := by kernel_rfl, a51 := fun _ => by kernel_rfl, z51 := fun _ => by kernel_rfl, v51 := fun _ => by kernel_rfl, t70 := by kernel_rfl, a70 := fun _ => by kernel_rfl, z70 := fun _ => by kernel_rfl, v70 := fun _ => by kernel_rfl, t72 := by kernel_rfl, a72 := fun _ => by kernel_rfl, z72 := fun _ => by kernel_rfl, v72 := fun _ => by kernel_rfl, t75 := by kernel_rfl, a75 := fun _ => by kernel_rfl, z75 := fun _ => by kernel_rfl, v75 := fun _ => by kernel_rfl, t76 := by kernel_rfl, a76 := fun _ => by kernel_rfl, z76 := fun _ => by kernel_rfl, v76 := fun _ => by kernel_rfl, t105 := by kernel_rfl, a105 := fun _ => by kernel_rfl, z105 := fun _ => by kernel_rfl, v105 := fun _ => by kernel_rfl, t119 := by kernel_rfl, a119 := fun _ => by kernel_rfl, z119 := fun _ => by kernel_rfl, t127 := by kernel_rfl, a127 := fun _ => by kernel_rfl, z127 := fun _ => by kernel_rfl, v127 := fun _ => by kernel_rfl, t138 := by kernel_rfl, a138 := fun _ => by kernel_rfl, z138 := fun _ => by kernel_rfl, v138 := fun _ => by kernel_rfl, t139 := by kernel_rfl, a139 := fun _ => by kernel_rfl, z139 := fun _ => by kernel_rfl, v139 := fun _ => by kernel_rfl, t146 := by kernel_rfl, a146 := fun _ => by kernel_rfl, z146 := fun _ => by kernel_rfl, v146 := fun _ => by kernel_rfl, t164 := by kernel_rfl, a164 := fun _ => by kernel_rfl, z164 := fun _ => by kernel_rfl, v164 := fun _ => by kernel_rfl, g1 := by kernel_rfl, g3 := by kernel_rfl, g4 := by kernel_rfl }
theorem extraR : Builder.Extra Tryz.prog rhoR where
  sizeBuilder := by kernel_rfl
  liesBuilder := by kernel_rfl
  t5 := laysR.t5
  a5 := laysR.a5
  z5 := laysR.z5
  v5 := laysR.v5
  infoByte := by kernel_rfl
  cellsByte := by kernel_rfl
  sizeByte := by kernel_rfl
  neB5 := by decide
theorem khReplace (N : Nat) : ConOk E ⟨68, [.k (.v .str []), .k (.v .str []), .k (.v .str []), .k (.v (.int .i64) [])], [.v .str []], hand_strings_Replace N⟩ :=
  con_sssi (fn := Tryz.f68) _ (show E.P.funcs[68]? = some Tryz.f68 from by kernel_rfl) (by kernel_rfl) (by kernel_rfl) fun x r h w K hG hk => by
    obtain ⟨hb, h⟩ := grd_some h
    obtain ⟨hc, h⟩ := grd_some h
    obtain ⟨hd, h⟩ := grd_some h
    injection h with h
    subst h
    have hb : x.1.length < 4294967281 := of_decide_eq_true hb
    have hc : 1 ≤ x.2.1.length := of_decide_eq_true hc
    have hd : x.1.length + Lib.count x.1 x.2.1 * x.2.2.1.length ≤ 140737488355328 := of_decide_eq_true hd
    obtain ⟨m, hm⟩ := hG.2 3 (by kernel_rfl)
    obtain ⟨cs, e, fz, h1, h2⟩ := hk _ _ _ hm
    refine (Any.strings_Replace laysR extraR (bst x.1) (bst x.2.1) (bst x.2.2.1) x.2.2.2 m w (by rw [bst_size]; exact hb) (by
      show w.cell? ⟨3, 0, none⟩ = _
      rw [cell_row h1]
      exact h2.1 rfl) (by rw [bst_size]; exact hc) (by rw [bst_size, bst_size]; exact hd)).mono fun e w' he => ?_
    obtain ⟨q1, q2⟩ := he
    exact ⟨q1, q2.os, q2.tape, q2.output, q2.size, q2.block⟩
def rhoT : Ren := ⟨fun n => match n with | 119 => 140 | 120 => 137 | 137 => 73 | 151 => 132 | 152 => 136 | 160 => 104 | 197 => 95 | 217 => 100 | 224 => 117 | 225 => 116 | 227 => 121 | 228 => 131 | 231 => 119 | 232 => 120 | 233 => 122 | 234 => 123 | 235 => 124 | 236 => 125 | 260 => 113 | 266 => 115 | 271 => 133 | n => n, fun n => match n with | 46 => 116 | 105 => 122 | 116 => 138 | 117 => 139 | 119 => 112 | 124 => 142 | 138 => 114 | 139 => 115 | 22 => 92 | 23 => 127 | 24 => 48 | 27 => 100 | 28 => 46 | 31 => 68 | 34 => 50 | 37 => 53 | 39 => 91 | 40 => 163 | 41 => 67 | 48 => 120 | 51 => 132 | 53 => 131 | 55 => 101 | 63 => 144 | 64 => 117 | 65 => 98 | 69 => 23 | 70 => 52 | 71 => 54 | 72 => 55 | 73 => 121 | 74 => 58 | 75 => 59 | 76 => 60 | 77 => 61 | 78 => 62 | 80 => 63 | 81 => 69 | 94 => 232 | 103 => 124 | 104 => 27 | 106 => 123 | 111 => 203 | 114 => 135 | 115 => 137 | 118 => 140 | 122 => 136 | 123 => 141 | 127 => 94 | 136 => 111 | 137 => 113 | 146 => 133 | 151 => 134 | 164 => 118 | 165 => 119 | 166 => 143 | 238 => 207 | 239 => 208 | 240 => 209 | 241 => 210 | 242 => 211 | 243 => 212 | 244 => 213 | 245 => 214 | 246 => 215 | 247 => 216 | 248 => 217 | 249 => 218 | n => n, fun n => match n with | 3 => 1 | 4 => 2 | 1 => 3 | n => n⟩
theorem laysT : Lays.n160 Tryz.prog rhoT := { mixed := by kernel_rfl, f119 := by kernel_rfl, f120 := by kernel_rfl, f137 := by kernel_rfl, f151 := by kernel_rfl, f152 := by kernel_rfl, f160 := by kernel_rfl, f197 := by kernel_rfl, f217 := by kernel_rfl, f224 := by kernel_rfl, f225 := by kernel_rfl, f227 := by kernel_rfl, f228 := by kernel_rfl, f231 := by kernel_rfl, f232 := by kernel_rfl, f233 := by kernel_rfl, f234 := by kernel_rfl, f235 := by kernel_rfl, f236 := by kernel_rfl, f260 := by kernel_rfl, f266 := by kernel_rfl, f271 := by kernel_rfl, t0 := by kernel_rfl, a0 := fun _ => by kernel_rfl, z0 := fun _ => by kernel_rfl, v0 := fun _ => by kernel_rfl, t3 := by kernel_rfl, a3 := fun _ => by kernel_rfl, z3 := fun _ => by kernel_rfl, v3 := fun _ => by kernel_rfl, t4 := by kernel_rfl, a4 := fun _ => by kernel_rfl, z4 := fun _ => by kernel_rfl, v4 := fun _ => by kernel_rfl, t5 := by kernel_rfl, a5 := fun _ => by kernel_rfl, z5 := fun _ => by kernel_rfl, v5 := fun _ => by kernel_rfl, t9 := by kernel_rfl, a9 := fun _ => by kernel_rfl, z9 := fun _ => by kernel_rfl, v9 := fun _ => by kernel_rfl, t21 := by kernel_rfl, a21 := fun _ => by kernel_rfl, z21 := fun _ => by kernel_rfl, v21 := fun _ => by kernel_rfl, t46 := by kernel_rfl, a46 := fun _ => by kernel_rfl, z46 := fun _ => by kernel_rfl, v46 := fun _ => by kernel_rfl, t105 := by kernel_rfl, a105 := fun _ => by kernel_rfl, z105 := fun _ => by kernel_rfl, v105 := fun _ => by kernel_rfl, t116 := by kernel_rfl, a116 := fun _ => by kernel_rfl, z116 := fun _ => by kernel_rfl, t117 := by kernel_rfl, a117 := fun _ => by kernel_rfl, z117 := fun _ => by kernel_rfl, v117 := fun _ => by kernel_rfl, t119 := by kernel_rfl, a119 := fun _ => by kernel_rfl, z119 := fun _ => by kernel_rfl, t124 := by kernel_rfl, a124 := fun _ => by kernel_rfl, z124 := fun _ => by kernel_rfl, v124 := fun _ => by kernel_rfl, t138 := by kernel_rfl, a138 := fun _ => by kernel_rfl, z138 := fun _ => by kernel_rfl, v138 := fun _ => by kernel_rfl, t139 := by kernel_rfl, a139 := fun _ => by kernel_rfl, z139 := fun _ => by kernel_rfl, v139 := fun _ => by kernel_rfl, g3 := by kernel_rfl, g4 := by kernel_rfl }
theorem khTrim (N : Nat) : ConOk E ⟨104, [.k (.v .str []), .k (.v .str [])], [.v .str []], hand_strings_Trim N⟩ :=
  con_sss (fn := Tryz.f104) _ (show E.P.funcs[104]? = some Tryz.f104 from by kernel_rfl) (by kernel_rfl) (by kernel_rfl) fun x r h w K hG hk => by
    obtain ⟨hb, h⟩ := grd_some h
    obtain ⟨hc, h⟩ := grd_some h
    obtain ⟨hd, h⟩ := grd_some h
    injection h with h
    subst h
    have hb : x.1.length < 4294967281 := of_decide_eq_true hb
    have hc : x.2.length < 4294967281 := of_decide_eq_true hc
    refine (Any.strings_Trim_laid laysT (by kernel_rfl) (bst x.1) (bst x.2) w (by rw [bst_size]; omega) (by rw [bst_size]; exact hc) (asciiL_at hd)).mono fun e w' he => ?_
    obtain ⟨q1, q2⟩ := he
    exact ⟨q1, q2.os, q2.tape, q2.output, q2.size, q2.block⟩
theorem khFlat (N : Nat) : ConOk E ⟨126, [.k (.v .str [])], [.v .str []], hand_xml_flat N⟩ :=
  con_ss (fn := Tryz.f126) _ (show E.P.funcs[126]? = some Tryz.f126 from by kernel_rfl) (by kernel_rfl) (by kernel_rfl) fun x r h w K hG hk => by
    obtain ⟨hb, h⟩ := grd_some h
    injection h with h
    subst h
    have hb : x.length < 4294967281 := of_decide_eq_true hb
    refine (flat_any (bst x) w (by rw [bst_size]; omega)).mono fun e w' he => ?_
    obtain ⟨q1, q2⟩ := he
    exact ⟨q1, q2.os, q2.tape, q2.output, q2.size, q2.block⟩
end Go.Mo
end

section
/-
  The environment is sound; contracts by hand.
-/
namespace Go.Mo
open Go Go.W Go.Proofs
set_option maxRecDepth 100000
theorem nzOk : NzOk E.P 129 := nz_ok (show E.P.funcs[129]? = some Tryz.f129 from by kernel_rfl) (by kernel_rfl) (by kernel_rfl) (by kernel_rfl) (show Extern.find Tryz.f129 = some (Extern.BytealgMakeNoZero.makeNoZero #[3] #[53]) from by kernel_rfl) (by kernel_rfl)
theorem envOk : EnvOk E := ⟨chk, mixed, fun z h => (by injection h with h; subst h; exact nzOk), fun z t h => (by injection h with h; injection h with h1 h2; subst h1; subst h2; exact bsOk)⟩
theorem kh_bytealg_CountString (N : Nat) : ConOk E ⟨97, ps_bytealg_CountString, rs_bytealg_CountString, bytealg_CountString N⟩ := W.kh_CountString (show E.P.funcs[97]? = some Tryz.f97 from by kernel_rfl) (by kernel_rfl) (by kernel_rfl) (by kernel_rfl) (show Extern.find Tryz.f97 = some Extern.BytealgCount.count from by kernel_rfl) N
theorem kh_strings_Index (N : Nat) : ConOk E ⟨74, ps_strings_Index, rs_strings_Index, strings_Index N⟩ := khIndex N
theorem kh_bytealg_IndexByteString (N : Nat) : ConOk E ⟨115, ps_bytealg_IndexByteString, rs_bytealg_IndexByteString, bytealg_IndexByteString N⟩ := W.kh_IndexByteString (show E.P.funcs[115]? = some Tryz.f115 from by kernel_rfl) (by kernel_rfl) (by kernel_rfl) (by kernel_rfl) (show Extern.find Tryz.f115 = some Extern.BytealgIndexByte.indexByte from by kernel_rfl) N
theorem kh_strings_Trim (N : Nat) : ConOk E ⟨104, ps_strings_Trim, rs_strings_Trim, strings_Trim N⟩ := khTrim N
theorem kh_strings_Contains (N : Nat) : ConOk E ⟨105, ps_strings_Contains, rs_strings_Contains, strings_Contains N⟩ := khContains N
theorem kh_xml_flat (N : Nat) : ConOk E ⟨126, ps_xml_flat, rs_xml_flat, xml_flat N⟩ := khFlat N
theorem kh_strings_Builder_copyCheck (N : Nat) : ConOk E ⟨64, ps_strings_Builder_copyCheck, rs_strings_Builder_copyCheck, strings_Builder_copyCheck N⟩ := W.kh_copyCheck (show CcOk E.P 64 55 from ccOk) N
theorem kh_utf8_ValidString (N : Nat) : ConOk E ⟨60, ps_utf8_ValidString, rs_utf8_ValidString, utf8_ValidString N⟩ := khV N
theorem kh_strings_Replace (N : Nat) : ConOk E ⟨68, ps_strings_Replace, rs_strings_Replace, strings_Replace N⟩ := khReplace N
end Go.Mo
end

section
/-
  The functions do what their models say. Printed by a program.
-/
namespace Go.Mo
open Go Go.W Go.Proofs
noncomputable section
set_option maxRecDepth 100000
def a_utf8_RuneCountInString : Ann := (.sq .lf (.jn ⟨[], [], [.s 2], [.v (.int .i64) []]⟩ (.sq .lf (.lp ⟨[4], [], [.s 2, .o 4], [.v (.int .i64) [], .i]⟩ .lf)) .lf))
theorem x_utf8_RuneCountInString (N : Nat) : execF E [] N Tryz.f96 a_utf8_RuneCountInString ps_utf8_RuneCountInString rs_utf8_RuneCountInString = utf8_RuneCountInString N := by kernel_rfl


def a_strings_Count : Ann := (.sq .lf (.sq .lf (.sq .lf (.sq .lf (.lp ⟨[1], [], [.s 0, .s 5], [.v (.str) [], .v (.int .i64) []]⟩ .lf)))))
theorem x_strings_Count (N : Nat) : execF E [⟨96, ps_utf8_RuneCountInString, rs_utf8_RuneCountInString, utf8_RuneCountInString N⟩, ⟨97, ps_bytealg_CountString, rs_bytealg_CountString, bytealg_CountString N⟩, ⟨74, ps_strings_Index, rs_strings_Index, strings_Index N⟩] N Tryz.f71 a_strings_Count ps_strings_Count rs_strings_Count = strings_Count N := by kernel_rfl
def a_bytealg_LastIndexByteString : Ann := (.sq .lf (.jn ⟨[], [], [], []⟩ (.sq .lf (.lp ⟨[0, 1], [], [.s 5], [.v (.int .i64) []]⟩ .lf)) .lf))
theorem x_bytealg_LastIndexByteString (N : Nat) : execF E [] N Tryz.f98 a_bytealg_LastIndexByteString ps_bytealg_LastIndexByteString rs_bytealg_LastIndexByteString = bytealg_LastIndexByteString N := by kernel_rfl
def a_bytealg_hashStrRev_string : Ann := (.sq .lf (.sq .lf (.jn ⟨[0], [], [.s 4], [.v (.int .u32) []]⟩ (.sq .lf (.lp ⟨[0], [], [.s 4, .s 5], [.v (.int .u32) [], .v (.int .i64) []]⟩ .lf)) (.sq .lf (.jn ⟨[4], [], [.s 6], [.v (.int .u32) []]⟩ (.sq .lf (.lp ⟨[4], [], [.s 6, .s 7, .s 8], [.v (.int .u32) [], .v (.int .u32) [], .v (.int .i64) []]⟩ .lf)) .lf)))))
theorem x_bytealg_hashStrRev_string (N : Nat) : execF E [] N Tryz.f114 a_bytealg_hashStrRev_string ps_bytealg_hashStrRev_string rs_bytealg_hashStrRev_string = bytealg_hashStrRev_string N := by kernel_rfl
def a_bytealg_LastIndexRabinKarp_string : Ann := (.sq .lf (.sq .lf (.sq .lf (.sq .lf (.sq .lf (.jn ⟨[0, 1, 5, 6, 7, 8], [], [.s 9], [.v (.int .u32) []]⟩ (.sq .lf (.lp ⟨[0, 1, 5, 6, 7, 8], [], [.s 9, .s 10], [.v (.int .u32) [], .v (.int .i64) []]⟩ .lf)) (.jn ⟨[0, 1, 5, 6, 7, 8, 9], [], [], []⟩ .lf (.jn ⟨[], [], [], []⟩ (.sq .lf (.lp ⟨[0, 1, 5, 6, 7], [], [.s 9, .s 11], [.v (.int .u32) [], .v (.int .i64) []]⟩ .lf)) .lf))))))))
theorem x_bytealg_LastIndexRabinKarp_string (N : Nat) : execF E [⟨114, ps_bytealg_hashStrRev_string, rs_bytealg_hashStrRev_string, bytealg_hashStrRev_string N⟩] N Tryz.f99 a_bytealg_LastIndexRabinKarp_string ps_bytealg_LastIndexRabinKarp_string rs_bytealg_LastIndexRabinKarp_string = bytealg_LastIndexRabinKarp_string N := by kernel_rfl
def a_strings_LastIndex : Ann := .lf
theorem x_strings_LastIndex (N : Nat) : execF E [⟨98, ps_bytealg_LastIndexByteString, rs_bytealg_LastIndexByteString, bytealg_LastIndexByteString N⟩, ⟨99, ps_bytealg_LastIndexRabinKarp_string, rs_bytealg_LastIndexRabinKarp_string, bytealg_LastIndexRabinKarp_string N⟩] N Tryz.f72 a_strings_LastIndex ps_strings_LastIndex rs_strings_LastIndex = strings_LastIndex N := by kernel_rfl
def a_xml_at : Ann := .lf
theorem x_xml_at (N : Nat) : execF E [⟨71, ps_strings_Count, rs_strings_Count, strings_Count N⟩, ⟨72, ps_strings_LastIndex, rs_strings_LastIndex, strings_LastIndex N⟩] N Tryz.f52 a_xml_at ps_xml_at rs_xml_at = xml_at N := by kernel_rfl

def a_stringslite_IndexByte : Ann := .lf
theorem x_stringslite_IndexByte (N : Nat) : execF E [⟨115, ps_bytealg_IndexByteString, rs_bytealg_IndexByteString, bytealg_IndexByteString N⟩] N Tryz.f100 a_stringslite_IndexByte ps_stringslite_IndexByte rs_stringslite_IndexByte = stringslite_IndexByte N := by kernel_rfl
def a_strings_IndexByte : Ann := .lf
theorem x_strings_IndexByte (N : Nat) : execF E [⟨100, ps_stringslite_IndexByte, rs_stringslite_IndexByte, stringslite_IndexByte N⟩] N Tryz.f73 a_strings_IndexByte ps_strings_IndexByte rs_strings_IndexByte = strings_IndexByte N := by kernel_rfl
def a_stringslite_HasPrefix : Ann := .lf
theorem x_stringslite_HasPrefix (N : Nat) : execF E [] N Tryz.f90 a_stringslite_HasPrefix ps_stringslite_HasPrefix rs_stringslite_HasPrefix = stringslite_HasPrefix N := by kernel_rfl
def a_strings_HasPrefix : Ann := .lf
theorem x_strings_HasPrefix (N : Nat) : execF E [⟨90, ps_stringslite_HasPrefix, rs_stringslite_HasPrefix, stringslite_HasPrefix N⟩] N Tryz.f62 a_strings_HasPrefix ps_strings_HasPrefix rs_strings_HasPrefix = strings_HasPrefix N := by kernel_rfl
def a_xml_letter : Ann := .lf
theorem x_xml_letter (N : Nat) : execF E [] N Tryz.f42 a_xml_letter ps_xml_letter rs_xml_letter = xml_letter N := by kernel_rfl
def a_xml_nameByte : Ann := .lf
theorem x_xml_nameByte (N : Nat) : execF E [⟨42, ps_xml_letter, rs_xml_letter, xml_letter N⟩] N Tryz.f43 a_xml_nameByte ps_xml_nameByte rs_xml_nameByte = xml_nameByte N := by kernel_rfl
def a_xml_word : Ann := (.sq .lf (.sq .lf (.sq .lf (.jn ⟨[0, 1], [], [.s 6], [.v (.int .i64) []]⟩ (.lp ⟨[0, 1], [], [.s 6], [.v (.int .i64) []]⟩ .lf) .lf))))
theorem x_xml_word (N : Nat) : execF E [⟨42, ps_xml_letter, rs_xml_letter, xml_letter N⟩, ⟨43, ps_xml_nameByte, rs_xml_nameByte, xml_nameByte N⟩] N Tryz.f75 a_xml_word ps_xml_word rs_xml_word = xml_word N := by kernel_rfl
def a_xml_white : Ann := .lf
theorem x_xml_white (N : Nat) : execF E [] N Tryz.f102 a_xml_white ps_xml_white rs_xml_white = xml_white N := by kernel_rfl
def a_xml_blanks : Ann := (.sq .lf (.jn ⟨[], [], [.s 1], [.v (.int .i64) []]⟩ (.lp ⟨[0], [], [.s 1], [.v (.int .i64) []]⟩ .lf) .lf))
theorem x_xml_blanks (N : Nat) : execF E [⟨102, ps_xml_white, rs_xml_white, xml_white N⟩] N Tryz.f76 a_xml_blanks ps_xml_blanks rs_xml_blanks = xml_blanks N := by kernel_rfl
def a_xml_attribute : Ann := (.sq .lf (.sq .lf (.sq .lf (.sq .lf (.sq .lf (.sq .lf (.jn ⟨[0, 1, 4, 7], [2], [], []⟩ .lf (.sq .lf (.jn ⟨[0, 1, 4, 7], [2], [.s 8], [.v (.int .i64) []]⟩ (.lp ⟨[0, 1, 4, 7], [2], [.s 8], [.v (.int .i64) []]⟩ .lf) .lf)))))))))
theorem x_xml_attribute (N : Nat) : execF E [⟨75, ps_xml_word, rs_xml_word, xml_word N⟩, ⟨76, ps_xml_blanks, rs_xml_blanks, xml_blanks N⟩] N Tryz.f103 a_xml_attribute ps_xml_attribute rs_xml_attribute = xml_attribute N := by kernel_rfl
def a_xml_startTag : Ann := (.sq .lf (.sq .lf (.sq .lf (.sq .lf (.lp ⟨[0, 2, 7], [2], [.s 6, .o 17], [.v (.int .i64) [], .b 78 (.st (.pair (.int .i64) (.pair (.str) (.pair (.slice (.st (.pair (.str) (.str)))) (.str))))) [2]]⟩ (.sq .lf (.sq (.jn ⟨[0, 2, 6, 7, 8], [17, 20, 2], [.s 25], [.v (.bool) []]⟩ .lf (.sq .lf (.jn ⟨[0, 2, 6, 7, 8], [17, 20, 2], [.s 39], [.v (.bool) []]⟩ .lf .lf))) .lf)))))))
theorem x_xml_startTag (N : Nat) : execF E [⟨75, ps_xml_word, rs_xml_word, xml_word N⟩, ⟨76, ps_xml_blanks, rs_xml_blanks, xml_blanks N⟩, ⟨103, ps_xml_attribute, rs_xml_attribute, xml_attribute N⟩] N Tryz.f77 a_xml_startTag ps_xml_startTag rs_xml_startTag = xml_startTag N := by kernel_rfl
def a_xml_next : Ann := (.sq .lf (.sq .lf (.jn ⟨[0, 2], [2], [], []⟩ (.sq .lf (.lp ⟨[0, 2, 27], [2], [.s 28], [.v (.int .i64) []]⟩ .lf)) .lf)))
theorem x_xml_next (N : Nat) : execF E [⟨73, ps_strings_IndexByte, rs_strings_IndexByte, strings_IndexByte N⟩, ⟨62, ps_strings_HasPrefix, rs_strings_HasPrefix, strings_HasPrefix N⟩, ⟨74, ps_strings_Index, rs_strings_Index, strings_Index N⟩, ⟨75, ps_xml_word, rs_xml_word, xml_word N⟩, ⟨76, ps_xml_blanks, rs_xml_blanks, xml_blanks N⟩, ⟨77, ps_xml_startTag, rs_xml_startTag, xml_startTag N⟩] N Tryz.f53 a_xml_next ps_xml_next rs_xml_next = xml_next N := by kernel_rfl



def a_xml_digit : Ann := (.sq .lf (.sq .lf (.jn ⟨[1], [], [.s 5], [.v (.int .i64) []]⟩ (.jn ⟨[0, 1, 5], [], [.s 6], [.v (.bool) []]⟩ .lf (.sq .lf (.jn ⟨[0, 1, 5], [], [.s 16], [.v (.bool) []]⟩ .lf .lf))) .lf)))
theorem x_xml_digit (N : Nat) : execF E [] N Tryz.f63 a_xml_digit ps_xml_digit rs_xml_digit = xml_digit N := by kernel_rfl
def a_charset_place : Ann := (.sq .lf (.sq .lf (.jn ⟨[], [], [], []⟩ (.sq .lf (.lp ⟨[1, 9], [], [.s 5, .o 5], [.v (.int .i64) [], .i]⟩ .lf)) .lf)))
theorem x_charset_place (N : Nat) : execF E [] N Tryz.f89 a_charset_place ps_charset_place rs_charset_place = charset_place N := by kernel_rfl
def a_charset_Index : Ann := .lf
theorem x_charset_Index (N : Nat) : execF E [⟨89, ps_charset_place, rs_charset_place, charset_place N⟩] N Tryz.f61 a_charset_Index ps_charset_Index rs_charset_Index = charset_Index N := by kernel_rfl
def a_xml_reference : Ann := (.sq .lf (.jn ⟨[0], [], [], []⟩ (.sq .lf (.lp ⟨[0, 12], [], [.s 13], [.v (.int .i64) []]⟩ .lf)) (.sq .lf (.jn ⟨[0], [], [.s 7, .s 8, .s 9], [.v (.int .i64) [], .v (.int .i64) [], .v (.int .i64) []]⟩ .lf (.sq .lf (.jn ⟨[0, 7, 9], [], [.s 10, .s 11], [.v (.int .i64) [], .v (.int .i64) []]⟩ (.lp ⟨[0, 7, 8, 9], [], [.s 10, .s 11], [.v (.int .i64) [], .v (.int .i64) []]⟩ .lf) .lf))))))
theorem x_xml_reference (N : Nat) : execF E [⟨62, ps_strings_HasPrefix, rs_strings_HasPrefix, strings_HasPrefix N⟩, ⟨63, ps_xml_digit, rs_xml_digit, xml_digit N⟩, ⟨61, ps_charset_Index, rs_charset_Index, charset_Index N⟩] N Tryz.f36 a_xml_reference ps_xml_reference rs_xml_reference = xml_reference N := by kernel_rfl

def a_strings_Builder_WriteString : Ann := .lf
theorem x_strings_Builder_WriteString (N : Nat) : execF E [⟨64, ps_strings_Builder_copyCheck, rs_strings_Builder_copyCheck, strings_Builder_copyCheck N⟩] N Tryz.f37 a_strings_Builder_WriteString ps_strings_Builder_WriteString rs_strings_Builder_WriteString = strings_Builder_WriteString N := by kernel_rfl
def a_strings_Builder_WriteByte : Ann := .lf
theorem x_strings_Builder_WriteByte (N : Nat) : execF E [⟨64, ps_strings_Builder_copyCheck, rs_strings_Builder_copyCheck, strings_Builder_copyCheck N⟩] N Tryz.f38 a_strings_Builder_WriteByte ps_strings_Builder_WriteByte rs_strings_Builder_WriteByte = strings_Builder_WriteByte N := by kernel_rfl
def a_xml_Unescape : Ann := (.sq .lf (.sq .lf (.jn ⟨[4], [], [.o 4], [.b 55 (.st (.pair (.nptr) (.slice (.u8)))) [1]]⟩ (.sq .lf (.lp ⟨[0, 4], [], [.s 5, .o 4], [.v (.int .i64) [], .b 55 (.st (.pair (.nptr) (.slice (.u8)))) [1]]⟩ .lf)) .lf)))
theorem x_xml_Unescape (N : Nat) : execF E [⟨36, ps_xml_reference, rs_xml_reference, xml_reference N⟩, ⟨37, ps_strings_Builder_WriteString, rs_strings_Builder_WriteString, strings_Builder_WriteString N⟩, ⟨38, ps_strings_Builder_WriteByte, rs_strings_Builder_WriteByte, strings_Builder_WriteByte N⟩] N Tryz.f15 a_xml_Unescape ps_xml_Unescape rs_xml_Unescape = xml_Unescape N := by kernel_rfl

def a_charset_Valid : Ann := (.sq .lf (.sq .lf (.jn ⟨[], [], [], []⟩ (.sq .lf (.lp ⟨[9], [], [.o 7], [.i]⟩ .lf)) .lf)))
theorem x_charset_Valid (N : Nat) : execF E [⟨60, ps_utf8_ValidString, rs_utf8_ValidString, utf8_ValidString N⟩, ⟨61, ps_charset_Index, rs_charset_Index, charset_Index N⟩] N Tryz.f30 a_charset_Valid ps_charset_Valid rs_charset_Valid = charset_Valid N := by kernel_rfl
def a_xml_meaning : Ann := .lf
theorem x_xml_meaning (N : Nat) : execF E [⟨126, ps_xml_flat, rs_xml_flat, xml_flat N⟩, ⟨15, ps_xml_Unescape, rs_xml_Unescape, xml_Unescape N⟩, ⟨30, ps_charset_Valid, rs_charset_Valid, charset_Valid N⟩] N Tryz.f106 a_xml_meaning ps_xml_meaning rs_xml_meaning = xml_meaning N := by kernel_rfl
def a_xml_parser_room : Ann := (.sq .lf (.sq (.jn ⟨[0, 1], [3, 1, 2], [.s 5], [.v (.bool) []]⟩ .lf .lf) .lf))
theorem x_xml_parser_room (N : Nat) : execF E [] N Tryz.f107 a_xml_parser_room ps_xml_parser_room rs_xml_parser_room = xml_parser_room N := by kernel_rfl
def a_xml_parser_text : Ann := (.sq .lf (.jn ⟨[0, 1], [3, 1, 2], [], []⟩ .lf .lf))
theorem x_xml_parser_text (N : Nat) : execF E [⟨104, ps_strings_Trim, rs_strings_Trim, strings_Trim N⟩, ⟨105, ps_strings_Contains, rs_strings_Contains, strings_Contains N⟩, ⟨106, ps_xml_meaning, rs_xml_meaning, xml_meaning N⟩, ⟨107, ps_xml_parser_room, rs_xml_parser_room, xml_parser_room N⟩] N Tryz.f78 a_xml_parser_text ps_xml_parser_text rs_xml_parser_text = xml_parser_text N := by kernel_rfl
def a_xml_Name : Ann := (.sq .lf (.sq .lf (.jn ⟨[], [], [], []⟩ (.sq .lf (.lp ⟨[0, 19], [], [.s 20], [.v (.int .i64) []]⟩ .lf)) .lf)))
theorem x_xml_Name (N : Nat) : execF E [⟨42, ps_xml_letter, rs_xml_letter, xml_letter N⟩, ⟨43, ps_xml_nameByte, rs_xml_nameByte, xml_nameByte N⟩] N Tryz.f19 a_xml_Name ps_xml_Name rs_xml_Name = xml_Name N := by kernel_rfl
def a_xml_parser_end : Ann := .lf
theorem x_xml_parser_end (N : Nat) : execF E [⟨19, ps_xml_Name, rs_xml_Name, xml_Name N⟩] N Tryz.f79 a_xml_parser_end ps_xml_parser_end rs_xml_parser_end = xml_parser_end N := by kernel_rfl
def a_xml_parser_start : Ann := (.sq .lf (.sq .lf (.jn ⟨[0, 3], [3, 1, 2, 5], [.s 5], [.v (.slice (.str)) [0]]⟩ (.sq .lf (.lp ⟨[0, 3, 22, 23], [3, 1, 2, 5], [.s 5, .s 24], [.v (.slice (.str)) [0], .v (.int .i64) []]⟩ .lf)) (.jn ⟨[0, 3], [3, 1, 2, 5], [], []⟩ (.sq .lf (.lp ⟨[0, 3, 34, 35], [3, 1, 2, 13, 5], [.s 36], [.v (.int .i64) []]⟩ .lf)) (.sq .lf (.sq .lf (.jn ⟨[0, 3, 10], [3, 1, 2, 5], [.o 28], [.b 43 (.st (.pair (.str) (.pair (.str) (.pair (.slice (.st (.pair (.str) (.str)))) (.int .i64))))) [2]]⟩ (.sq .lf (.lp ⟨[0, 3, 10, 57, 58], [3, 1, 2, 5], [.s 59, .o 28], [.v (.int .i64) [], .b 43 (.st (.pair (.str) (.pair (.str) (.pair (.slice (.st (.pair (.str) (.str)))) (.int .i64))))) [2]]⟩ (.sq .lf (.sq .lf (.jn ⟨[0, 3, 10, 57, 58, 59], [3, 1, 2, 5], [.o 28], [.b 43 (.st (.pair (.str) (.pair (.str) (.pair (.slice (.st (.pair (.str) (.str)))) (.int .i64))))) [2]]⟩ (.sq .lf (.jn ⟨[0, 3, 10, 12, 57, 58, 59], [3, 1, 2, 41, 28, 35, 5], [], []⟩ (.sq .lf (.lp ⟨[0, 3, 10, 12, 57, 58, 59, 67, 68], [3, 1, 2, 41, 28, 35, 5], [.s 69], [.v (.int .i64) []]⟩ .lf)) .lf)) .lf))))) .lf)))))))
theorem x_xml_parser_start (N : Nat) : execF E [⟨19, ps_xml_Name, rs_xml_Name, xml_Name N⟩, ⟨106, ps_xml_meaning, rs_xml_meaning, xml_meaning N⟩, ⟨107, ps_xml_parser_room, rs_xml_parser_room, xml_parser_room N⟩] N Tryz.f80 a_xml_parser_start ps_xml_parser_start rs_xml_parser_start = xml_parser_start N := by kernel_rfl
def a_xml_parser_take : Ann := .lf
theorem x_xml_parser_take (N : Nat) : execF E [⟨78, ps_xml_parser_text, rs_xml_parser_text, xml_parser_text N⟩, ⟨79, ps_xml_parser_end, rs_xml_parser_end, xml_parser_end N⟩, ⟨80, ps_xml_parser_start, rs_xml_parser_start, xml_parser_start N⟩] N Tryz.f54 a_xml_parser_take ps_xml_parser_take rs_xml_parser_take = xml_parser_take N := by kernel_rfl
def a_xml_Parse : Ann := (.sq .lf (.sq .lf (.sq .lf (.jn ⟨[0, 4], [], [.o 8], [.b 76 (.st (.pair (.slice (.st (.pair (.str) (.pair (.str) (.pair (.slice (.st (.pair (.str) (.str)))) (.int .i64)))))) (.pair (.slice (.str)) (.bool)))) [0, 1]]⟩ (.sq .lf (.lp ⟨[0, 4], [], [.s 5, .o 8], [.v (.int .i64) [], .b 76 (.st (.pair (.slice (.st (.pair (.str) (.pair (.str) (.pair (.slice (.st (.pair (.str) (.str)))) (.int .i64)))))) (.pair (.slice (.str)) (.bool)))) [0, 1]]⟩ .lf)) .lf))))
theorem x_xml_Parse (N : Nat) : execF E [⟨52, ps_xml_at, rs_xml_at, xml_at N⟩, ⟨53, ps_xml_next, rs_xml_next, xml_next N⟩, ⟨54, ps_xml_parser_take, rs_xml_parser_take, xml_parser_take N⟩] N Tryz.f26 a_xml_Parse ps_xml_Parse rs_xml_Parse = xml_Parse N := by kernel_rfl
def a_xml_checkDepth : Ann := (.sq .lf (.sq .lf (.sq .lf (.sq .lf (.jn ⟨[5], [], [.s 6], [.v (.int .i64) []]⟩ .lf .lf)))))
theorem x_xml_checkDepth (N : Nat) : execF E [] N Tryz.f47 a_xml_checkDepth ps_xml_checkDepth rs_xml_checkDepth = xml_checkDepth N := by kernel_rfl
def a_xml_checkElement : Ann := (.sq .lf (.sq .lf (.sq .lf (.jn ⟨[], [], [], []⟩ (.sq .lf (.lp ⟨[3, 22, 23], [], [.s 24, .o 19], [.v (.int .i64) [], .m (.str) (.bool)]⟩ .lf)) .lf))))
theorem x_xml_checkElement (N : Nat) : execF E [⟨19, ps_xml_Name, rs_xml_Name, xml_Name N⟩, ⟨30, ps_charset_Valid, rs_charset_Valid, charset_Valid N⟩] N Tryz.f48 a_xml_checkElement ps_xml_checkElement rs_xml_checkElement = xml_checkElement N := by kernel_rfl
def a_xml_checkText : Ann := (.sq .lf (.sq .lf (.sq (.jn ⟨[5], [7], [.s 10], [.v (.bool) []]⟩ .lf .lf) .lf)))
theorem x_xml_checkText (N : Nat) : execF E [⟨30, ps_charset_Valid, rs_charset_Valid, charset_Valid N⟩] N Tryz.f49 a_xml_checkText ps_xml_checkText rs_xml_checkText = xml_checkText N := by kernel_rfl
def a_xml_Check : Ann := (.sq .lf (.sq .lf (.sq .lf (.jn ⟨[], [], [], []⟩ (.sq .lf (.lp ⟨[0, 13, 14], [], [.s 15], [.v (.int .i64) []]⟩ .lf)) .lf))))
theorem x_xml_Check (N : Nat) : execF E [⟨47, ps_xml_checkDepth, rs_xml_checkDepth, xml_checkDepth N⟩, ⟨48, ps_xml_checkElement, rs_xml_checkElement, xml_checkElement N⟩, ⟨49, ps_xml_checkText, rs_xml_checkText, xml_checkText N⟩] N Tryz.f24 a_xml_Check ps_xml_Check rs_xml_Check = xml_Check N := by kernel_rfl

def a_strings_ReplaceAll : Ann := .lf
theorem x_strings_ReplaceAll (N : Nat) : execF E [⟨68, ps_strings_Replace, rs_strings_Replace, strings_Replace N⟩] N Tryz.f41 a_strings_ReplaceAll ps_strings_ReplaceAll rs_strings_ReplaceAll = strings_ReplaceAll N := by kernel_rfl
def a_xml_Escape : Ann := (.sq .lf (.jn ⟨[], [], [.s 0], [.v (.str) []]⟩ (.sq .lf (.lp ⟨[5], [], [.s 0, .s 6], [.v (.str) [], .v (.int .i64) []]⟩ .lf)) .lf))
theorem x_xml_Escape (N : Nat) : execF E [⟨41, ps_strings_ReplaceAll, rs_strings_ReplaceAll, strings_ReplaceAll N⟩] N Tryz.f17 a_xml_Escape ps_xml_Escape rs_xml_Escape = xml_Escape N := by kernel_rfl
def a_strings_Builder_Len : Ann := .lf
theorem x_strings_Builder_Len (N : Nat) : execF E [] N Tryz.f45 a_strings_Builder_Len ps_strings_Builder_Len rs_strings_Builder_Len = strings_Builder_Len N := by kernel_rfl
def a_xml_Print : Ann := (.sq .lf (.sq .lf (.sq .lf (.sq .lf (.jn ⟨[5], [], [.s 6, .o 9], [.v (.slice (.str)) [0], .b 55 (.st (.pair (.nptr) (.slice (.u8)))) [1]]⟩ (.sq .lf (.lp ⟨[0, 5, 17, 18], [], [.s 6, .s 19, .o 9], [.v (.slice (.str)) [0], .v (.int .i64) [], .b 55 (.st (.pair (.nptr) (.slice (.u8)))) [1]]⟩ (.sq .lf (.sq .lf (.jn ⟨[0, 5, 17, 18, 19], [], [.s 6, .o 9], [.v (.slice (.str)) [0], .b 55 (.st (.pair (.nptr) (.slice (.u8)))) [1]]⟩ (.sq .lf (.jn ⟨[0, 5, 7, 8, 17, 18, 19], [22], [.s 6, .o 9], [.v (.slice (.str)) [0], .b 55 (.st (.pair (.nptr) (.slice (.u8)))) [1]]⟩ (.lp ⟨[0, 5, 7, 8, 17, 18, 19], [22], [.s 6, .o 9], [.v (.slice (.str)) [0], .b 55 (.st (.pair (.nptr) (.slice (.u8)))) [1]]⟩ .lf) (.sq .lf (.sq .lf (.jn ⟨[0, 5, 6, 7, 8, 17, 18, 19], [22, 26], [.o 9], [.b 55 (.st (.pair (.nptr) (.slice (.u8)))) [1]]⟩ (.sq .lf (.lp ⟨[0, 5, 6, 7, 8, 17, 18, 19, 55, 56], [22, 26], [.s 57, .o 9], [.v (.int .i64) [], .b 55 (.st (.pair (.nptr) (.slice (.u8)))) [1]]⟩ .lf)) .lf))))) .lf))))) (.jn ⟨[5], [], [.o 9], [.b 55 (.st (.pair (.nptr) (.slice (.u8)))) [1]]⟩ (.sq .lf (.lp ⟨[5, 6], [12], [.s 11, .o 9], [.v (.int .i64) [], .b 55 (.st (.pair (.nptr) (.slice (.u8)))) [1]]⟩ .lf)) .lf))))))
theorem x_xml_Print (N : Nat) : execF E [⟨24, ps_xml_Check, rs_xml_Check, xml_Check N⟩, ⟨37, ps_strings_Builder_WriteString, rs_strings_Builder_WriteString, strings_Builder_WriteString N⟩, ⟨17, ps_xml_Escape, rs_xml_Escape, xml_Escape N⟩, ⟨45, ps_strings_Builder_Len, rs_strings_Builder_Len, strings_Builder_Len N⟩] N Tryz.f22 a_xml_Print ps_xml_Print rs_xml_Print = xml_Print N := by kernel_rfl
def a_slices_Equal_Lapi_Attr_api_Attr : Ann := (.sq .lf (.sq .lf (.jn ⟨[], [], [], []⟩ (.sq .lf (.lp ⟨[0, 1, 12], [], [.s 13], [.v (.int .i64) []]⟩ .lf)) .lf)))
theorem x_slices_Equal_Lapi_Attr_api_Attr (N : Nat) : execF E [] N Tryz.f87 a_slices_Equal_Lapi_Attr_api_Attr ps_slices_Equal_Lapi_Attr_api_Attr rs_slices_Equal_Lapi_Attr_api_Attr = slices_Equal_Lapi_Attr_api_Attr N := by kernel_rfl
def a_l20_equal : Ann := .lf
theorem x_l20_equal (N : Nat) : execF E [⟨87, ps_slices_Equal_Lapi_Attr_api_Attr, rs_slices_Equal_Lapi_Attr_api_Attr, slices_Equal_Lapi_Attr_api_Attr N⟩] N Tryz.f59 a_l20_equal ps_l20_equal rs_l20_equal = l20_equal N := by kernel_rfl
def a_slices_EqualFunc_Lapi_Node_Lapi_Node_api_Node_api_Node : Ann := (.sq .lf (.sq .lf (.jn ⟨[], [], [], []⟩ (.sq .lf (.lp ⟨[1, 2, 15, 16], [], [.s 17], [.v (.int .i64) []]⟩ .lf)) .lf)))
theorem x_slices_EqualFunc_Lapi_Node_Lapi_Node_api_Node_api_Node (N : Nat) : execF E [⟨59, ps_l20_equal, rs_l20_equal, l20_equal N⟩] N Tryz.f58 a_slices_EqualFunc_Lapi_Node_Lapi_Node_api_Node_api_Node ps_slices_EqualFunc_Lapi_Node_Lapi_Node_api_Node_api_Node rs_slices_EqualFunc_Lapi_Node_Lapi_Node_api_Node_api_Node = slices_EqualFunc_Lapi_Node_Lapi_Node_api_Node_api_Node N := by kernel_rfl
def a_l20_same : Ann := .lf
theorem x_l20_same (N : Nat) : execF E [⟨58, ps_slices_EqualFunc_Lapi_Node_Lapi_Node_api_Node_api_Node, rs_slices_EqualFunc_Lapi_Node_Lapi_Node_api_Node_api_Node, slices_EqualFunc_Lapi_Node_Lapi_Node_api_Node_api_Node N⟩, ⟨59, ps_l20_equal, rs_l20_equal, l20_equal N⟩] N Tryz.f28 a_l20_same ps_l20_same rs_l20_same = l20_same N := by kernel_rfl
def a_slices_Equal_Lapi_Diag_api_Diag : Ann := (.sq .lf (.sq .lf (.jn ⟨[], [], [], []⟩ (.sq .lf (.lp ⟨[0, 1, 12], [], [.s 13], [.v (.int .i64) []]⟩ .lf)) .lf)))
theorem x_slices_Equal_Lapi_Diag_api_Diag (N : Nat) : execF E [] N Tryz.f29 a_slices_Equal_Lapi_Diag_api_Diag ps_slices_Equal_Lapi_Diag_api_Diag rs_slices_Equal_Lapi_Diag_api_Diag = slices_Equal_Lapi_Diag_api_Diag N := by kernel_rfl
end
end Go.Mo
end

section
/-
  The functions do what their models say. Printed by a program.
-/
namespace Go.Mo
open Go Go.W Go.Proofs
noncomputable section
set_option maxRecDepth 100000
def a_l20_awake : Ann := .lf
theorem x_l20_awake (N : Nat) : execF E [⟨26, ps_xml_Parse, rs_xml_Parse, xml_Parse N⟩, ⟨22, ps_xml_Print, rs_xml_Print, xml_Print N⟩, ⟨28, ps_l20_same, rs_l20_same, l20_same N⟩, ⟨29, ps_slices_Equal_Lapi_Diag_api_Diag, rs_slices_Equal_Lapi_Diag_api_Diag, slices_Equal_Lapi_Diag_api_Diag N⟩] N Tryz.f13 a_l20_awake ps_l20_awake rs_l20_awake = l20_awake N := by kernel_rfl
def a_l20_short : Ann := .lf
theorem x_l20_short (N : Nat) : execF E [] N Tryz.f14 a_l20_short ps_l20_short rs_l20_short = l20_short N := by kernel_rfl
def a_l20_XmlValid : Ann := .lf
theorem x_l20_XmlValid (N : Nat) : execF E [⟨13, ps_l20_awake, rs_l20_awake, l20_awake N⟩, ⟨14, ps_l20_short, rs_l20_short, l20_short N⟩, ⟨26, ps_xml_Parse, rs_xml_Parse, xml_Parse N⟩, ⟨22, ps_xml_Print, rs_xml_Print, xml_Print N⟩, ⟨24, ps_xml_Check, rs_xml_Check, xml_Check N⟩, ⟨28, ps_l20_same, rs_l20_same, l20_same N⟩] N Tryz.f8 a_l20_XmlValid ps_l20_XmlValid rs_l20_XmlValid = l20_XmlValid N := by kernel_rfl
end
end Go.Mo
end

section
/-
  The functions do what their models say. Printed by a program.
-/
namespace Go.Mo
open Go Go.W Go.Proofs
noncomputable section
set_option maxRecDepth 100000
theorem k_utf8_RuneCountInString (N : Nat) : ConOk E ⟨96, ps_utf8_RuneCountInString, rs_utf8_RuneCountInString, utf8_RuneCountInString N⟩ := conOf envOk (x_utf8_RuneCountInString N) trivial (show E.P.funcs[96]? = some Tryz.f96 from by kernel_rfl) (by kernel_rfl)
theorem k_bytealg_CountString (N : Nat) : ConOk E ⟨97, ps_bytealg_CountString, rs_bytealg_CountString, bytealg_CountString N⟩ := kh_bytealg_CountString N
theorem k_strings_Index (N : Nat) : ConOk E ⟨74, ps_strings_Index, rs_strings_Index, strings_Index N⟩ := kh_strings_Index N
theorem k_strings_Count (N : Nat) : ConOk E ⟨71, ps_strings_Count, rs_strings_Count, strings_Count N⟩ := conOf envOk (x_strings_Count N) ⟨k_utf8_RuneCountInString N, k_bytealg_CountString N, k_strings_Index N, trivial⟩ (show E.P.funcs[71]? = some Tryz.f71 from by kernel_rfl) (by kernel_rfl)
theorem k_bytealg_LastIndexByteString (N : Nat) : ConOk E ⟨98, ps_bytealg_LastIndexByteString, rs_bytealg_LastIndexByteString, bytealg_LastIndexByteString N⟩ := conOf envOk (x_bytealg_LastIndexByteString N) trivial (show E.P.funcs[98]? = some Tryz.f98 from by kernel_rfl) (by kernel_rfl)
theorem k_bytealg_hashStrRev_string (N : Nat) : ConOk E ⟨114, ps_bytealg_hashStrRev_string, rs_bytealg_hashStrRev_string, bytealg_hashStrRev_string N⟩ := conOf envOk (x_bytealg_hashStrRev_string N) trivial (show E.P.funcs[114]? = some Tryz.f114 from by kernel_rfl) (by kernel_rfl)
theorem k_bytealg_LastIndexRabinKarp_string (N : Nat) : ConOk E ⟨99, ps_bytealg_LastIndexRabinKarp_string, rs_bytealg_LastIndexRabinKarp_string, bytealg_LastIndexRabinKarp_string N⟩ := conOf envOk (x_bytealg_LastIndexRabinKarp_string N) ⟨k_bytealg_hashStrRev_string N, trivial⟩ (show E.P.funcs[99]? = some Tryz.f99 from by kernel_rfl) (by kernel_rfl)
theorem k_strings_LastIndex (N : Nat) : ConOk E ⟨72, ps_strings_LastIndex, rs_strings_LastIndex, strings_LastIndex N⟩ := conOf envOk (x_strings_LastIndex N) ⟨k_bytealg_LastIndexByteString N, k_bytealg_LastIndexRabinKarp_string N, trivial⟩ (show E.P.funcs[72]? = some Tryz.f72 from by kernel_rfl) (by kernel_rfl)
theorem k_xml_at (N : Nat) : ConOk E ⟨52, ps_xml_at, rs_xml_at, xml_at N⟩ := conOf envOk (x_xml_at N) ⟨k_strings_Count N, k_strings_LastIndex N, trivial⟩ (show E.P.funcs[52]? = some Tryz.f52 from by kernel_rfl) (by kernel_rfl)
theorem k_bytealg_IndexByteString (N : Nat) : ConOk E ⟨115, ps_bytealg_IndexByteString, rs_bytealg_IndexByteString, bytealg_IndexByteString N⟩ := kh_bytealg_IndexByteString N
theorem k_stringslite_IndexByte (N : Nat) : ConOk E ⟨100, ps_stringslite_IndexByte, rs_stringslite_IndexByte, stringslite_IndexByte N⟩ := conOf envOk (x_stringslite_IndexByte N) ⟨k_bytealg_IndexByteString N, trivial⟩ (show E.P.funcs[100]? = some Tryz.f100 from by kernel_rfl) (by kernel_rfl)
theorem k_strings_IndexByte (N : Nat) : ConOk E ⟨73, ps_strings_IndexByte, rs_strings_IndexByte, strings_IndexByte N⟩ := conOf envOk (x_strings_IndexByte N) ⟨k_stringslite_IndexByte N, trivial⟩ (show E.P.funcs[73]? = some Tryz.f73 from by kernel_rfl) (by kernel_rfl)
theorem k_stringslite_HasPrefix (N : Nat) : ConOk E ⟨90, ps_stringslite_HasPrefix, rs_stringslite_HasPrefix, stringslite_HasPrefix N⟩ := conOf envOk (x_stringslite_HasPrefix N) trivial (show E.P.funcs[90]? = some Tryz.f90 from by kernel_rfl) (by kernel_rfl)
theorem k_strings_HasPrefix (N : Nat) : ConOk E ⟨62, ps_strings_HasPrefix, rs_strings_HasPrefix, strings_HasPrefix N⟩ := conOf envOk (x_strings_HasPrefix N) ⟨k_stringslite_HasPrefix N, trivial⟩ (show E.P.funcs[62]? = some Tryz.f62 from by kernel_rfl) (by kernel_rfl)
theorem k_xml_letter (N : Nat) : ConOk E ⟨42, ps_xml_letter, rs_xml_letter, xml_letter N⟩ := conOf envOk (x_xml_letter N) trivial (show E.P.funcs[42]? = some Tryz.f42 from by kernel_rfl) (by kernel_rfl)
theorem k_xml_nameByte (N : Nat) : ConOk E ⟨43, ps_xml_nameByte, rs_xml_nameByte, xml_nameByte N⟩ := conOf envOk (x_xml_nameByte N) ⟨k_xml_letter N, trivial⟩ (show E.P.funcs[43]? = some Tryz.f43 from by kernel_rfl) (by kernel_rfl)
theorem k_xml_word (N : Nat) : ConOk E ⟨75, ps_xml_word, rs_xml_word, xml_word N⟩ := conOf envOk (x_xml_word N) ⟨k_xml_letter N, k_xml_nameByte N, trivial⟩ (show E.P.funcs[75]? = some Tryz.f75 from by kernel_rfl) (by kernel_rfl)
theorem k_xml_white (N : Nat) : ConOk E ⟨102, ps_xml_white, rs_xml_white, xml_white N⟩ := conOf envOk (x_xml_white N) trivial (show E.P.funcs[102]? = some Tryz.f102 from by kernel_rfl) (by kernel_rfl)
theorem k_xml_blanks (N : Nat) : ConOk E ⟨76, ps_xml_blanks, rs_xml_blanks, xml_blanks N⟩ := conOf envOk (x_xml_blanks N) ⟨k_xml_white N, trivial⟩ (show E.P.funcs[76]? = some Tryz.f76 from by kernel_rfl) (by kernel_rfl)
theorem k_xml_attribute (N : Nat) : ConOk E ⟨103, ps_xml_attribute, rs_xml_attribute, xml_attribute N⟩ := conOf envOk (x_xml_attribute N) ⟨k_xml_word N, k_xml_blanks N, trivial⟩ (show E.P.funcs[103]? = some Tryz.f103 from by kernel_rfl) (by kernel_rfl)
theorem k_xml_startTag (N : Nat) : ConOk E ⟨77, ps_xml_startTag, rs_xml_startTag, xml_startTag N⟩ := conOf envOk (x_xml_startTag N) ⟨k_xml_word N, k_xml_blanks N, k_xml_attribute N, trivial⟩ (show E.P.funcs[77]? = some Tryz.f77 from by kernel_rfl) (by kernel_rfl)
theorem k_xml_next (N : Nat) : ConOk E ⟨53, ps_xml_next, rs_xml_next, xml_next N⟩ := conOf envOk (x_xml_next N) ⟨k_strings_IndexByte N, k_strings_HasPrefix N, k_strings_Index N, k_xml_word N, k_xml_blanks N, k_xml_startTag N, trivial⟩ (show E.P.funcs[53]? = some Tryz.f53 from by kernel_rfl) (by kernel_rfl)
theorem k_strings_Trim (N : Nat) : ConOk E ⟨104, ps_strings_Trim, rs_strings_Trim, strings_Trim N⟩ := kh_strings_Trim N
theorem k_strings_Contains (N : Nat) : ConOk E ⟨105, ps_strings_Contains, rs_strings_Contains, strings_Contains N⟩ := kh_strings_Contains N
theorem k_xml_flat (N : Nat) : ConOk E ⟨126, ps_xml_flat, rs_xml_flat, xml_flat N⟩ := kh_xml_flat N
theorem k_xml_digit (N : Nat) : ConOk E ⟨63, ps_xml_digit, rs_xml_digit, xml_digit N⟩ := conOf envOk (x_xml_digit N) trivial (show E.P.funcs[63]? = some Tryz.f63 from by kernel_rfl) (by kernel_rfl)
theorem k_charset_place (N : Nat) : ConOk E ⟨89, ps_charset_place, rs_charset_place, charset_place N⟩ := conOf envOk (x_charset_place N) trivial (show E.P.funcs[89]? = some Tryz.f89 from by kernel_rfl) (by kernel_rfl)
theorem k_charset_Index (N : Nat) : ConOk E ⟨61, ps_charset_Index, rs_charset_Index, charset_Index N⟩ := conOf envOk (x_charset_Index N) ⟨k_charset_place N, trivial⟩ (show E.P.funcs[61]? = some Tryz.f61 from by kernel_rfl) (by kernel_rfl)
theorem k_xml_reference (N : Nat) : ConOk E ⟨36, ps_xml_reference, rs_xml_reference, xml_reference N⟩ := conOf envOk (x_xml_reference N) ⟨k_strings_HasPrefix N, k_xml_digit N, k_charset_Index N, trivial⟩ (show E.P.funcs[36]? = some Tryz.f36 from by kernel_rfl) (by kernel_rfl)
theorem k_strings_Builder_copyCheck (N : Nat) : ConOk E ⟨64, ps_strings_Builder_copyCheck, rs_strings_Builder_copyCheck, strings_Builder_copyCheck N⟩ := kh_strings_Builder_copyCheck N
theorem k_strings_Builder_WriteString (N : Nat) : ConOk E ⟨37, ps_strings_Builder_WriteString, rs_strings_Builder_WriteString, strings_Builder_WriteString N⟩ := conOf envOk (x_strings_Builder_WriteString N) ⟨k_strings_Builder_copyCheck N, trivial⟩ (show E.P.funcs[37]? = some Tryz.f37 from by kernel_rfl) (by kernel_rfl)
theorem k_strings_Builder_WriteByte (N : Nat) : ConOk E ⟨38, ps_strings_Builder_WriteByte, rs_strings_Builder_WriteByte, strings_Builder_WriteByte N⟩ := conOf envOk (x_strings_Builder_WriteByte N) ⟨k_strings_Builder_copyCheck N, trivial⟩ (show E.P.funcs[38]? = some Tryz.f38 from by kernel_rfl) (by kernel_rfl)
theorem k_xml_Unescape (N : Nat) : ConOk E ⟨15, ps_xml_Unescape, rs_xml_Unescape, xml_Unescape N⟩ := conOf envOk (x_xml_Unescape N) ⟨k_xml_reference N, k_strings_Builder_WriteString N, k_strings_Builder_WriteByte N, trivial⟩ (show E.P.funcs[15]? = some Tryz.f15 from by kernel_rfl) (by kernel_rfl)
theorem k_utf8_ValidString (N : Nat) : ConOk E ⟨60, ps_utf8_ValidString, rs_utf8_ValidString, utf8_ValidString N⟩ := kh_utf8_ValidString N
theorem k_charset_Valid (N : Nat) : ConOk E ⟨30, ps_charset_Valid, rs_charset_Valid, charset_Valid N⟩ := conOf envOk (x_charset_Valid N) ⟨k_utf8_ValidString N, k_charset_Index N, trivial⟩ (show E.P.funcs[30]? = some Tryz.f30 from by kernel_rfl) (by kernel_rfl)
theorem k_xml_meaning (N : Nat) : ConOk E ⟨106, ps_xml_meaning, rs_xml_meaning, xml_meaning N⟩ := conOf envOk (x_xml_meaning N) ⟨k_xml_flat N, k_xml_Unescape N, k_charset_Valid N, trivial⟩ (show E.P.funcs[106]? = some Tryz.f106 from by kernel_rfl) (by kernel_rfl)
theorem k_xml_parser_room (N : Nat) : ConOk E ⟨107, ps_xml_parser_room, rs_xml_parser_room, xml_parser_room N⟩ := conOf envOk (x_xml_parser_room N) trivial (show E.P.funcs[107]? = some Tryz.f107 from by kernel_rfl) (by kernel_rfl)
theorem k_xml_parser_text (N : Nat) : ConOk E ⟨78, ps_xml_parser_text, rs_xml_parser_text, xml_parser_text N⟩ := conOf envOk (x_xml_parser_text N) ⟨k_strings_Trim N, k_strings_Contains N, k_xml_meaning N, k_xml_parser_room N, trivial⟩ (show E.P.funcs[78]? = some Tryz.f78 from by kernel_rfl) (by kernel_rfl)
theorem k_xml_Name (N : Nat) : ConOk E ⟨19, ps_xml_Name, rs_xml_Name, xml_Name N⟩ := conOf envOk (x_xml_Name N) ⟨k_xml_letter N, k_xml_nameByte N, trivial⟩ (show E.P.funcs[19]? = some Tryz.f19 from by kernel_rfl) (by kernel_rfl)
theorem k_xml_parser_end (N : Nat) : ConOk E ⟨79, ps_xml_parser_end, rs_xml_parser_end, xml_parser_end N⟩ := conOf envOk (x_xml_parser_end N) ⟨k_xml_Name N, trivial⟩ (show E.P.funcs[79]? = some Tryz.f79 from by kernel_rfl) (by kernel_rfl)
theorem k_xml_parser_start (N : Nat) : ConOk E ⟨80, ps_xml_parser_start, rs_xml_parser_start, xml_parser_start N⟩ := conOf envOk (x_xml_parser_start N) ⟨k_xml_Name N, k_xml_meaning N, k_xml_parser_room N, trivial⟩ (show E.P.funcs[80]? = some Tryz.f80 from by kernel_rfl) (by kernel_rfl)
theorem k_xml_parser_take (N : Nat) : ConOk E ⟨54, ps_xml_parser_take, rs_xml_parser_take, xml_parser_take N⟩ := conOf envOk (x_xml_parser_take N) ⟨k_xml_parser_text N, k_xml_parser_end N, k_xml_parser_start N, trivial⟩ (show E.P.funcs[54]? = some Tryz.f54 from by kernel_rfl) (by kernel_rfl)
theorem k_xml_Parse (N : Nat) : ConOk E ⟨26, ps_xml_Parse, rs_xml_Parse, xml_Parse N⟩ := conOf envOk (x_xml_Parse N) ⟨k_xml_at N, k_xml_next N, k_xml_parser_take N, trivial⟩ (show E.P.funcs[26]? = some Tryz.f26 from by kernel_rfl) (by kernel_rfl)
theorem k_xml_checkDepth (N : Nat) : ConOk E ⟨47, ps_xml_checkDepth, rs_xml_checkDepth, xml_checkDepth N⟩ := conOf envOk (x_xml_checkDepth N) trivial (show E.P.funcs[47]? = some Tryz.f47 from by kernel_rfl) (by kernel_rfl)
theorem k_xml_checkElement (N : Nat) : ConOk E ⟨48, ps_xml_checkElement, rs_xml_checkElement, xml_checkElement N⟩ := conOf envOk (x_xml_checkElement N) ⟨k_xml_Name N, k_charset_Valid N, trivial⟩ (show E.P.funcs[48]? = some Tryz.f48 from by kernel_rfl) (by kernel_rfl)
theorem k_xml_checkText (N : Nat) : ConOk E ⟨49, ps_xml_checkText, rs_xml_checkText, xml_checkText N⟩ := conOf envOk (x_xml_checkText N) ⟨k_charset_Valid N, trivial⟩ (show E.P.funcs[49]? = some Tryz.f49 from by kernel_rfl) (by kernel_rfl)
theorem k_xml_Check (N : Nat) : ConOk E ⟨24, ps_xml_Check, rs_xml_Check, xml_Check N⟩ := conOf envOk (x_xml_Check N) ⟨k_xml_checkDepth N, k_xml_checkElement N, k_xml_checkText N, trivial⟩ (show E.P.funcs[24]? = some Tryz.f24 from by kernel_rfl) (by kernel_rfl)
theorem k_strings_Replace (N : Nat) : ConOk E ⟨68, ps_strings_Replace, rs_strings_Replace, strings_Replace N⟩ := kh_strings_Replace N
theorem k_strings_ReplaceAll (N : Nat) : ConOk E ⟨41, ps_strings_ReplaceAll, rs_strings_ReplaceAll, strings_ReplaceAll N⟩ := conOf envOk (x_strings_ReplaceAll N) ⟨k_strings_Replace N, trivial⟩ (show E.P.funcs[41]? = some Tryz.f41 from by kernel_rfl) (by kernel_rfl)
theorem k_xml_Escape (N : Nat) : ConOk E ⟨17, ps_xml_Escape, rs_xml_Escape, xml_Escape N⟩ := conOf envOk (x_xml_Escape N) ⟨k_strings_ReplaceAll N, trivial⟩ (show E.P.funcs[17]? = some Tryz.f17 from by kernel_rfl) (by kernel_rfl)
theorem k_strings_Builder_Len (N : Nat) : ConOk E ⟨45, ps_strings_Builder_Len, rs_strings_Builder_Len, strings_Builder_Len N⟩ := conOf envOk (x_strings_Builder_Len N) trivial (show E.P.funcs[45]? = some Tryz.f45 from by kernel_rfl) (by kernel_rfl)
theorem k_xml_Print (N : Nat) : ConOk E ⟨22, ps_xml_Print, rs_xml_Print, xml_Print N⟩ := conOf envOk (x_xml_Print N) ⟨k_xml_Check N, k_strings_Builder_WriteString N, k_xml_Escape N, k_strings_Builder_Len N, trivial⟩ (show E.P.funcs[22]? = some Tryz.f22 from by kernel_rfl) (by kernel_rfl)
theorem k_slices_Equal_Lapi_Attr_api_Attr (N : Nat) : ConOk E ⟨87, ps_slices_Equal_Lapi_Attr_api_Attr, rs_slices_Equal_Lapi_Attr_api_Attr, slices_Equal_Lapi_Attr_api_Attr N⟩ := conOf envOk (x_slices_Equal_Lapi_Attr_api_Attr N) trivial (show E.P.funcs[87]? = some Tryz.f87 from by kernel_rfl) (by kernel_rfl)
theorem k_l20_equal (N : Nat) : ConOk E ⟨59, ps_l20_equal, rs_l20_equal, l20_equal N⟩ := conOf envOk (x_l20_equal N) ⟨k_slices_Equal_Lapi_Attr_api_Attr N, trivial⟩ (show E.P.funcs[59]? = some Tryz.f59 from by kernel_rfl) (by kernel_rfl)
theorem k_slices_EqualFunc_Lapi_Node_Lapi_Node_api_Node_api_Node (N : Nat) : ConOk E ⟨58, ps_slices_EqualFunc_Lapi_Node_Lapi_Node_api_Node_api_Node, rs_slices_EqualFunc_Lapi_Node_Lapi_Node_api_Node_api_Node, slices_EqualFunc_Lapi_Node_Lapi_Node_api_Node_api_Node N⟩ := conOf envOk (x_slices_EqualFunc_Lapi_Node_Lapi_Node_api_Node_api_Node N) ⟨k_l20_equal N, trivial⟩ (show E.P.funcs[58]? = some Tryz.f58 from by kernel_rfl) (by kernel_rfl)
theorem k_l20_same (N : Nat) : ConOk E ⟨28, ps_l20_same, rs_l20_same, l20_same N⟩ := conOf envOk (x_l20_same N) ⟨k_slices_EqualFunc_Lapi_Node_Lapi_Node_api_Node_api_Node N, k_l20_equal N, trivial⟩ (show E.P.funcs[28]? = some Tryz.f28 from by kernel_rfl) (by kernel_rfl)
theorem k_slices_Equal_Lapi_Diag_api_Diag (N : Nat) : ConOk E ⟨29, ps_slices_Equal_Lapi_Diag_api_Diag, rs_slices_Equal_Lapi_Diag_api_Diag, slices_Equal_Lapi_Diag_api_Diag N⟩ := conOf envOk (x_slices_Equal_Lapi_Diag_api_Diag N) trivial (show E.P.funcs[29]? = some Tryz.f29 from by kernel_rfl) (by kernel_rfl)
theorem k_l20_awake (N : Nat) : ConOk E ⟨13, ps_l20_awake, rs_l20_awake, l20_awake N⟩ := conOf envOk (x_l20_awake N) ⟨k_xml_Parse N, k_xml_Print N, k_l20_same N, k_slices_Equal_Lapi_Diag_api_Diag N, trivial⟩ (show E.P.funcs[13]? = some Tryz.f13 from by kernel_rfl) (by kernel_rfl)
theorem k_l20_short (N : Nat) : ConOk E ⟨14, ps_l20_short, rs_l20_short, l20_short N⟩ := conOf envOk (x_l20_short N) trivial (show E.P.funcs[14]? = some Tryz.f14 from by kernel_rfl) (by kernel_rfl)
theorem k_l20_XmlValid (N : Nat) : ConOk E ⟨8, ps_l20_XmlValid, rs_l20_XmlValid, l20_XmlValid N⟩ := conOf envOk (x_l20_XmlValid N) ⟨k_l20_awake N, k_l20_short N, k_xml_Parse N, k_xml_Print N, k_xml_Check N, k_l20_same N, trivial⟩ (show E.P.funcs[8]? = some Tryz.f8 from by kernel_rfl) (by kernel_rfl)
end
end Go.Mo
end

section
/-
  Plain facts: what strings.Replace does at a letter.
-/
namespace Go.Mo
open Go Go.Lib
set_option maxRecDepth 100000

theorem ix_one (c : UInt8) : ∀ {p q : List UInt8}, c ∉ p → Lib.index (p ++ c :: q) [c] = (p.length : Int) := by
  intro p q h
  rw [Lib.index_one]
  induction p with
  | nil => simp [Lib.indexByte]
  | cons b p ih =>
    have hb : b ≠ c := fun e => h (by rw [e]; exact List.mem_cons_self)
    have hp := ih fun k => h (List.mem_cons_of_mem _ k)
    rw [List.cons_append]
    unfold Lib.indexByte
    rw [if_neg (by simpa using hb), if_neg (by rw [hp]; simp), hp, List.length_cons]
    omega
theorem ix_no (c : UInt8) : ∀ {p : List UInt8}, c ∉ p → Lib.index p [c] = -1 := by
  intro p h
  rw [Lib.index_one]
  induction p with
  | nil => rfl
  | cons b p ih =>
    have hb : b ≠ c := fun e => h (by rw [e]; exact List.mem_cons_self)
    have hp := ih fun k => h (List.mem_cons_of_mem _ k)
    unfold Lib.indexByte
    rw [if_neg (by simpa using hb), if_pos (by rw [hp]; rfl)]
theorem dr_one (c : UInt8) (p q : List UInt8) : (p ++ c :: q).drop (p.length + ([c] : List UInt8).length) = q := by
  rw [show p ++ c :: q = (p ++ [c]) ++ q by simp]
  exact List.drop_left' (by simp)
theorem sp_at (c : UInt8) : ∀ s : List UInt8, c ∉ s ∨ ∃ p q, s = p ++ c :: q ∧ c ∉ p
  | [] => .inl (by simp)
  | b :: s => by
    by_cases hb : b = c
    · exact .inr ⟨[], s, by rw [hb]; rfl, by simp⟩
    · rcases sp_at c s with h | ⟨p, q, h1, h2⟩
      · exact .inl (by simp only [List.mem_cons, not_or]; exact ⟨fun e => hb e.symm, h⟩)
      · exact .inr ⟨b :: p, q, by rw [h1]; rfl, by simp only [List.mem_cons, not_or]; exact ⟨fun e => hb e.symm, h2⟩⟩
/-- a text in the place of a letter -/
def sub1 (c : UInt8) (r : List UInt8) (b : UInt8) : List UInt8 := if b = c then r else [b]
theorem sub1_no {c : UInt8} {r : List UInt8} : ∀ {p : List UInt8}, c ∉ p → p.flatMap (sub1 c r) = p
  | [], _ => rfl
  | b :: p, h => by
    have hb : b ≠ c := fun e => h (by rw [e]; exact List.mem_cons_self)
    rw [List.flatMap_cons, sub1_no fun k => h (List.mem_cons_of_mem _ k)]
    unfold sub1
    rw [if_neg hb]
    rfl
theorem repK_one (c : UInt8) (r : List UInt8) : ∀ (n : Nat) (s : List UInt8), s.length ≤ n → replaceK [c] r (count s [c]) s = s.flatMap (sub1 c r)
  | n, s, hn => by
    rcases sp_at c s with h | ⟨p, q, h1, h2⟩
    · rw [Lib.count_miss (ix_no c h), sub1_no h]
      rfl
    · have hi := ix_one c (q := q) h2
      subst h1
      match n, hn with
      | n + 1, hn =>
        have ih := repK_one c r n q (by simp at hn; omega)
        rw [Lib.count_hit (by simp) hi, dr_one, Nat.add_comm, Lib.replaceK_hit _ _ _ _ _ hi, dr_one, ih, List.take_left, List.flatMap_append, List.flatMap_cons, sub1_no h2]
        simp [sub1]
      | 0, hn => simp at hn
theorem replace_flat (c : UInt8) (r s : List UInt8) (h : r ≠ [c]) : replace s [c] r (-1) = s.flatMap (sub1 c r) := by
  unfold replace replaceNum
  rw [if_neg (by simpa using fun e => h e.symm), if_pos (Or.inl (by decide))]
  exact repK_one c r _ s (Nat.le_refl _)
theorem flat_len {f : UInt8 → List UInt8} {k : Nat} (h : ∀ b, (f b).length ≤ k) : ∀ s : List UInt8, (s.flatMap f).length ≤ k * s.length
  | [] => by simp
  | b :: s => by
    have := h b
    have := flat_len h s
    rw [List.flatMap_cons, List.length_append, List.length_cons, Nat.mul_add]
    omega
end Go.Mo
namespace Go.Mo
open Go Go.Lib
/-- a letter with its reference -/
def escB (b : UInt8) : List UInt8 := if b = 38 then [38, 97, 109, 112, 59] else if b = 60 then [38, 108, 116, 59] else if b = 62 then [38, 103, 116, 59] else if b = 34 then [38, 113, 117, 111, 116, 59] else if b = 39 then [38, 97, 112, 111, 115, 59] else [b]
def esc (s : List UInt8) : List UInt8 := s.flatMap escB
theorem escB_len (b : UInt8) : 1 ≤ (escB b).length ∧ (escB b).length ≤ 6 := by
  unfold escB
  repeat' split
  all_goals simp
theorem esc_five (s : List UInt8) : ((((s.flatMap (sub1 38 [38, 97, 109, 112, 59])).flatMap (sub1 60 [38, 108, 116, 59])).flatMap (sub1 62 [38, 103, 116, 59])).flatMap (sub1 34 [38, 113, 117, 111, 116, 59])).flatMap (sub1 39 [38, 97, 112, 111, 115, 59]) = esc s := by
  unfold esc
  rw [List.flatMap_assoc, List.flatMap_assoc, List.flatMap_assoc, List.flatMap_assoc]
  congr 1
  funext b
  unfold escB
  by_cases h1 : b = 38
  · subst h1; decide
  by_cases h2 : b = 60
  · subst h2; decide
  by_cases h3 : b = 62
  · subst h3; decide
  by_cases h4 : b = 34
  · subst h4; decide
  by_cases h5 : b = 39
  · subst h5; decide
  simp [sub1, h1, h2, h3, h4, h5]
end Go.Mo
end
