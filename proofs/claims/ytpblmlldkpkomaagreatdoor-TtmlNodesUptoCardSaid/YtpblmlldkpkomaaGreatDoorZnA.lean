/-
  Texts put together, in build order: WRa WRb WRc WRd WRe WE WM WB WV WS WH WXa WXb WXc WXd WXe WK XA.
-/
import Derived.Test.YtpblmlldkpkomaaGreatDoorProg
import Derived.WalkKit
import Derived.WalkSpells
import Derived.LoopTactic
import Derived.Below
import Derived.Lib.Hide
import Derived.Lib.LazyBuf
import Derived.Lib.ConvBytes
import Derived.Laws.BytesArg
import Derived.Laws.LoneSync
import Derived.Defers
import Derived.Tactics
import Derived.Tactics2
import Derived.Test.YtpblmlldkpkomaaGreatDoorYC
import Derived.Laws.Rows
import Derived.Deep.WholeRow
import Derived.Laws.Pointers
import Derived.RegionTactic
import Derived.RegionCalls
import Derived.KernelRfl
import GoSem.PinnedTables
import Derived.Test.YtpblmlldkpkomaaGreatDoorChecked
import Derived.Lib.UnsafeStr
import Derived.Lib.Builder
import Derived.Lib.Walk
import Derived.Laws.Externs
import Derived.OrdersHeld
import Derived.Shelf.Unicode.ValidAny
import Derived.Shelf.Strings.Search3
import Derived.Shelf.Strings.Replace
import Derived.Shelf.Strconv.Itoa3
import Derived.Lib.AppendIntMem
import Derived.Lib.Replace
import Derived.Lib.CountLaws
import Derived.Lib.IndexMore
set_option linter.all false

section
/-
  The replacer of the library at bytes: what its Replace does.
-/
set_option linter.all false
namespace Go.Mo
open Go Go.W Go.Proofs Go.RowKit
theorem flatB_two (x : UInt8) : flatB x = x ∨ (flatB x = 32 ∧ x ≠ 32) := by
 unfold flatB
 by_cases h1 : x = 9
 ·subst h1; exact .inr (by decide)
 by_cases h2 : x = 10
 ·subst h2; exact .inr (by decide)
 by_cases h3 : x = 13
 ·subst h3; exact .inr (by decide)
 left
 have e1 : (x == 9) = false := by simpa using h1
 have e2 : (x == 10) = false := by simpa using h2
 have e3 : (x == 13) = false := by simpa using h3
 rw [e1, e2, e3]
 rfl
def BufIs (B n : Nat) (bs : List UInt8) (v : Value) (wr : World) : Prop := ∃ c cap, v = .slice (some ⟨c, 0, none⟩) n cap ∧ B ≤ c ∧ c < wr.heap.size ∧ (∀ j, j < n → wr.cell? ⟨c, j, none⟩ = some (.int .u8 ((bs.getD j 0).toNat : Nat))) ∧ (∀ j, j < n → wr.frozen? ⟨c, j, none⟩ = false)
def RelB (w : World) (n : Nat) (l : List UInt8) (v i : Value) (wr : World) : Prop := ∃ k : Nat, k ≤ l.length ∧ i = .int .i64 k ∧ Below w.heap.size w wr ∧ ((v = .slice none 0 0 ∧ (l.take k).map flatB = l.take k) ∨ BufIs w.heap.size n ((l.take k).map flatB ++ l.drop k) v wr)
theorem set_next (l : List UInt8) (f : UInt8 → UInt8) (k : Nat) (h : k < l.length) : (l.take (k + 1)).map f ++ l.drop (k + 1) = ((l.take k).map f ++ l.drop k).set k (f l[k]) := by
 have h1 : ((l.take k).map f).length = k := by simp; omega
 rw [List.take_succ_eq_append_getElem h, List.drop_eq_getElem_cons h, List.map_append, List.append_assoc, List.set_append_right _ _ (by omega), h1, Nat.sub_self]
 rfl
theorem same_next (l : List UInt8) (f : UInt8 → UInt8) (k : Nat) (h : k < l.length) (he : f l[k] = l[k]) : (l.take (k + 1)).map f ++ l.drop (k + 1) = (l.take k).map f ++ l.drop k := by
 rw [List.take_succ_eq_append_getElem h, List.drop_eq_getElem_cons h, List.map_append, List.append_assoc]
 simp [he]
theorem pre_next (l : List UInt8) (f : UInt8 → UInt8) (k : Nat) (h : k < l.length) (hp : (l.take k).map f = l.take k) (he : f l[k] = l[k]) : (l.take (k + 1)).map f = l.take (k + 1) := by
 rw [List.take_succ_eq_append_getElem h, List.map_append, hp]
 simp [he]
theorem pre_all (l : List UInt8) (f : UInt8 → UInt8) (k : Nat) (hp : (l.take k).map f = l.take k) : (l.take k).map f ++ l.drop k = l := by
 rw [hp, List.take_append_drop]
theorem buf_set {B n k : Nat} {bs : List UInt8} {c cap : Nat} {wr : World} (y : UInt8) (hk : k < bs.length) (h : BufIs B n bs (.slice (some ⟨c, 0, none⟩) n cap) wr) : BufIs B n (bs.set k y) (.slice (some ⟨c, 0, none⟩) n cap) (wr.setCell ⟨c, k, none⟩ (.int .u8 (y.toNat : Nat))) := by
 obtain ⟨c', cap', e, h1, h2, h3, h4⟩ := h
 simp only [Value.slice.injEq, Option.some.injEq, Addr.mk.injEq, and_true, true_and] at e
 obtain ⟨rfl, rfl⟩ := e
 refine ⟨c, cap, rfl, h1, by simpa [World.setCell] using h2, fun j hj => ?_, fun j hj => by rw [World.frozen?_setCell]; exact h4 j hj⟩
 by_cases e : j = k
 ·subst e
  rw [World.cell?_setCell_same _ _ _ (h3 j hj)]
  simp [List.getD, hk]
 ·rw [World.cell?_setCell_other _ _ _ _ (by simp <;> omega), h3 j hj]
  simp [List.getD, Ne.symm e]
theorem buf_new {B : Nat} (s : ByteArray) (wr : World) (hB : B ≤ wr.heap.size) : BufIs B s.size s.data.toList (.slice (some ⟨wr.heap.size, 0, none⟩) s.size (grownCap wr s.size 0 5)) (Lib.bytesWorld wr 5 s) := by
 refine ⟨_, _, rfl, hB, by rw [Lib.bytesWorld_size]; omega, fun j hj => Lib.bytesWorld_cell wr 5 s j hj, fun j hj => ?_⟩
 have h1 := Lib.bytesWorld_at_new wr 5 s
 have h2 : s.size ≤ (Lib.bytesCells wr 5 s).size := by
  unfold Lib.bytesCells
  rw [Array.size_append, Array.size_map]
  exact Nat.le_add_right _ _
 unfold World.frozen?
 simp only [h1]
 generalize (Lib.bytesCells wr 5 s).size = z at h2
 have : ¬ z ≤ j := by omega
 simp [this]
theorem buf_below {B : Nat} {w wr : World} (s : ByteArray) (h : Below B w wr) (hB : B ≤ wr.heap.size) : Below B w (Lib.bytesWorld wr 5 s) :=
 h.trans ⟨rfl, rfl, rfl, by rw [Lib.bytesWorld_size]; omega, fun k hk => Lib.bytesWorld_at_old wr 5 s k (by omega)⟩
theorem str_nums (l : List UInt8) : strOfNums (l.map fun x => (x.toNat : Int)) = ⟨l.toArray⟩ := by
 unfold strOfNums
 rw [List.map_map]
 have : ((fun n : Int => UInt8.ofNat n.toNat) ∘ fun x : UInt8 => (x.toNat : Int)) = id := by funext x; simp
 rw [this, List.map_id]
set_option maxHeartbeats 4000000 in
set_option maxRecDepth 1000000 in
theorem br_any (b : Nat) (s : ByteArray) (w : World) (hb : b < w.heap.size) (hs : s.size ≤ 4294967281) (htab : ∀ x : UInt8, w.cell? ⟨b, x.toNat, none⟩ = some (.int .u8 (flatB x).toNat)) :
  Calls Tryz.prog 371 #[.pointer (some ⟨b, 0, none⟩), .string s] w fun e w' => e = .returned (.string ⟨(s.data.toList.map flatB).toArray⟩) ∧ Below w.heap.size w w' := by
 have HT := Lib.hid htab
 clear htab
 have HB := Lib.hid hb
 go_enter Tryz.func371, Tryz.ntmps371
 go_wp2
 go_loopw [5, 6] (fun v i wr => RelB w s.size s.data.toList v i wr) (fun _ i _ => s.size - (intOf i).toNat)
 case atStart => exact ⟨0, Nat.zero_le _, rfl, Below.refl _ _, .inl ⟨rfl, rfl⟩⟩
 case round =>
  obtain ⟨k, hk, rfl, hbel, hor⟩ := hrel
  have hn : s.data.toList.length = s.size := (Lib.size_eq s).symm
  have HNl := Lib.hid hn
  clear hn
  have hkl : k ≤ s.size := by have := HNl.out; omega
  have hBw := hbel.size
  by_cases hlt : k < s.size
  ·have hlk : k < s.data.toList.length := by have := HNl.out; omega
   have ht := HT.out (s[k]'hlt)
   have hc1 : wr.cell? ⟨b, (s[k]'hlt).toNat, none⟩ = some (.int .u8 (flatB (s[k]'hlt)).toNat) := (hbel.cell (p := ⟨b, (s[k]'hlt).toNat, none⟩) HB.out).trans ht
   clear ht
   have hx : ((s[k]'hlt).toNat : Int) < 256 := by have := (s[k]'hlt).toNat_lt; omega
   have hget : s.data.toList[k]'hlk = s[k]'hlt := rfl
   have HG := Lib.hid hget
   clear hget
   rcases flatB_two (s[k]'hlt) with hd | ⟨hd, hne⟩
   ·
    rw [hd] at hc1
    have HD := Lib.hid hd
    clear hd
    rcases hor with ⟨rfl, hpre⟩ | hbuf
    ·have HP := Lib.hid hpre
     clear hpre
     go_wp2
     go_roundw
     case rel => exact ⟨k + 1, hlk, by go_num, hbel, .inl ⟨rfl, pre_next _ _ k hlk HP.out (by rw [HG.out]; exact HD.out)⟩⟩
     case measure => simp [intOf]; omega
    ·have HP := Lib.hid hbuf
     clear hbuf
     go_wp2
     go_roundw
     case rel => exact ⟨k + 1, hlk, by go_num, hbel, .inr (by rw [same_next _ _ k hlk (by rw [HG.out]; exact HD.out)]; exact HP.out)⟩
     case measure => simp [intOf]; omega
   ·rw [hd] at hc1
    have hc1 : wr.cell? ⟨b, (s[k]'hlt).toNat, none⟩ = some (.int .u8 32) := hc1
    have HD := Lib.hid hd
    clear hd
    have hne' : ((32 : Int) != ((s[k]'hlt).toNat : Int)) = true := by
     simp only [bne_iff_ne, ne_eq]
     intro e
     exact hne (UInt8.toNat_inj.1 (by show _ = 32; omega))
    have HN := Lib.hid hne
    clear hne
    rcases hor with ⟨rfl, hpre⟩ | hbuf
    ·have HP := Lib.hid hpre
     clear hpre
     have hnl := fun w => run_eql_slice_nil (P := Tryz.prog) w 129 5 none 0 0 Tryz.underlying129
     have hcv := Lib.run_convert_string_bytes (P := Tryz.prog) wr 9 129 5 s Tryz.underlying9 Tryz.underlying129 Tryz.underlying5
     have hc2 : (Lib.bytesWorld wr 5 s).cell? ⟨b, (s[k]'hlt).toNat, none⟩ = some (.int .u8 32) := (Lib.bytesWorld_old wr 5 s _ (by show b < wr.heap.size; have := HB.out; omega)).trans hc1
     have hbn := buf_new (B := w.heap.size) s wr hBw
     have hc3 := Lib.bytesWorld_cell wr 5 s k hlt
     have hc4 : (Lib.bytesWorld wr 5 s).frozen? ⟨wr.heap.size, k, none⟩ = false := by
      obtain ⟨c, cap, e, _, _, _, h4⟩ := hbn
      simp only [Value.slice.injEq, Option.some.injEq, Addr.mk.injEq, and_true, true_and] at e
      obtain ⟨⟨rfl, _⟩, _⟩ := e
      exact h4 k hlt
     have hbb := buf_below s hbel hBw
     have HBn := Lib.hid hbn
     clear hbn
     go_wp2
     go_roundw
     case rel =>
      refine ⟨k + 1, hlk, by go_num, hbb.setCell (by exact hBw) _, .inr ?_⟩
      have h1 := set_next s.data.toList flatB k hlk
      rw [pre_all _ _ k HP.out, HG.out, HD.out] at h1
      rw [h1]
      exact buf_set 32 hlk HBn.out
     case measure => simp [intOf]; omega
    ·obtain ⟨c, cap, rfl, q1, q2, q3, q4⟩ := hbuf
     have hnl := fun w => run_eql_slice_nil (P := Tryz.prog) w 129 5 (some ⟨c, 0, none⟩) s.size cap Tryz.underlying129
     have hc3 := q3 k hlt
     have hc4 := q4 k hlt
     have hQ : BufIs w.heap.size s.size ((s.data.toList.take k).map flatB ++ s.data.toList.drop k) (.slice (some ⟨c, 0, none⟩) s.size cap) wr := ⟨c, cap, rfl, q1, q2, q3, q4⟩
     have HQ := Lib.hid hQ
     clear hQ q3 q4
     go_wp2
     go_roundw
     case rel =>
      refine ⟨k + 1, hlk, by go_num, hbel.setCell (by exact q1) _, .inr ?_⟩
      have h1 := set_next s.data.toList flatB k hlk
      rw [HG.out, HD.out] at h1
      rw [h1]
      exact buf_set 32 (by simp; omega) HQ.out
     case measure => simp [intOf]; omega
  ·rcases hor with ⟨rfl, hpre⟩ | hbuf
   ·have HP := Lib.hid hpre
    clear hpre
    have hnl := fun w => run_eql_slice_nil (P := Tryz.prog) w 129 5 none 0 0 Tryz.underlying129
    go_wp2
    go_ret
    refine ⟨?_, hbel⟩
    have h1 := HP.out
    rw [List.take_of_length_le (by have := HNl.out; omega)] at h1
    rw [h1, Lib.mk_data]
    rfl
   ·obtain ⟨c, cap, rfl, q1, q2, q3, q4⟩ := hbuf
    have hnl := fun w => run_eql_slice_nil (P := Tryz.prog) w 129 5 (some ⟨c, 0, none⟩) s.size cap Tryz.underlying129
    have h0 : (s.data.toList.take k).map flatB ++ s.data.toList.drop k = s.data.toList.map flatB := by
     rw [List.take_of_length_le (by have := HNl.out; omega), List.drop_of_length_le (by have := HNl.out; omega), List.append_nil]
    rw [h0] at q3
    clear h0
    have hcv := run_convert_bytes_arg (P := Tryz.prog) wr 129 5 Tryz.underlying129 Tryz.underlying5 c 0 s.size cap ((s.data.toList.map flatB).map fun x => (x.toNat : Int)) (by rw [List.length_map, List.length_map]; exact HNl.out) (fun i hi => by
     have h1 : i < s.data.toList.length := by have := HNl.out; omega
     rw [Nat.zero_add, q3 i hi]
     have h2 : i < (s.data.toList.map flatB).length := by simpa using h1
     rw [List.getD_eq_getElem?_getD, List.getD_eq_getElem?_getD, List.getElem?_map (f := fun x : UInt8 => (x.toNat : Int)), List.getElem?_eq_getElem h2]
     rfl) 9 Tryz.underlying9
    have hstr : strOfNums ((s.data.toList.map flatB).map fun x => (x.toNat : Int)) = ⟨(s.data.toList.map flatB).toArray⟩ := by
     exact str_nums _
    rw [hstr] at hcv
    clear hstr
    have HC := Lib.hid q3
    clear q3
    go_wp2
    go_ret
    exact ⟨rfl, hbel⟩
end Go.Mo
end

section
/-
  The replacer of the library: how it is built from three pairs.
-/
set_option linter.all false
namespace Go.Mo
open Go Go.W Go.Proofs Go.RowKit
theorem flatB_eq (b : UInt8) : flatB b = cond (b == 9) 32 (cond (b == 10) 32 (cond (b == 13) 32 b)) := by
 unfold flatB bsel
 cases (b == 9) <;> cases (b == 10) <;> cases (b == 13) <;> rfl
def TabW (B k : Nat) (wr : World) : Prop := ∃ cur : Array Value, wr.heap[B]? = some (.cells cur 346 (0, 0)) ∧ cur.size = 256 ∧ ∀ j, j < k → cur[j]? = some (.int .u8 (j : Nat))
def tabK (k : Nat) (x : UInt8) : UInt8 := match k with
 | 0 => flatB x
 | 1 => cond (x == 10) 32 (cond (x == 13) 32 x)
 | 2 => cond (x == 13) 32 x
 | _ => x
def TabV (B k : Nat) (wr : World) : Prop := ∃ cur : Array Value, wr.heap[B]? = some (.cells cur 346 (0, 0)) ∧ cur.size = 256 ∧ ∀ x : UInt8, cur[x.toNat]? = some (.int .u8 ((tabK k x).toNat : Nat))
def sixAt (w : World) (g : Nat) : Prop := ∀ j v, #[Value.string ⟨#[9]⟩, .string ⟨#[32]⟩, .string ⟨#[10]⟩, .string ⟨#[32]⟩, .string ⟨#[13]⟩, .string ⟨#[32]⟩][j]? = some v → w.cell? ⟨g, j, none⟩ = some v
theorem tabw_cell {B k j : Nat} {wr : World} (h : TabW B k wr) (hj : j < 256) : (∃ v, wr.cell? ⟨B, j, none⟩ = some v) ∧ wr.frozen? ⟨B, j, none⟩ = false := by
 obtain ⟨cur, h1, h2, _⟩ := h
 refine ⟨⟨cur[j]'(by omega), ?_⟩, ?_⟩
 ·simp [World.cell?, h1, h2, hj]
 ·simp [World.frozen?, h1]
theorem tabw_set {B k : Nat} {wr : World} (h : TabW B k wr) (hk : k < 256) : TabW B (k + 1) (wr.setCell ⟨B, k, none⟩ (.int .u8 (k : Nat))) := by
 obtain ⟨cur, h1, h2, h3⟩ := h
 refine ⟨cur.setIfInBounds k (.int .u8 (k : Nat)), heap_setCell_same wr B k cur 346 _ h1, by simpa using h2, fun j hj => ?_⟩
 rw [Array.getElem?_setIfInBounds]
 by_cases e : k = j
 ·subst e
  rw [if_pos rfl, if_pos (by omega)]
 ·rw [if_neg e]
  exact h3 j (by omega)
theorem tabw_v {B : Nat} {wr : World} (h : TabW B 256 wr) : TabV B 3 wr := by
 obtain ⟨cur, h1, h2, h3⟩ := h
 exact ⟨cur, h1, h2, fun x => h3 x.toNat x.toNat_lt⟩
theorem tabv_cell {B k j : Nat} {wr : World} (h : TabV B k wr) (hj : j < 256) : (∃ v, wr.cell? ⟨B, j, none⟩ = some v) ∧ wr.frozen? ⟨B, j, none⟩ = false := by
 obtain ⟨cur, h1, h2, _⟩ := h
 refine ⟨⟨cur[j]'(by omega), ?_⟩, ?_⟩
 ·simp [World.cell?, h1, h2, hj]
 ·simp [World.frozen?, h1]
theorem tabv_set {B k : Nat} {wr : World} (b y : UInt8) (h : TabV B (k + 1) wr) (ht : ∀ x, tabK k x = if x = b then y else tabK (k + 1) x) : TabV B k (wr.setCell ⟨B, b.toNat, none⟩ (.int .u8 (y.toNat : Nat))) := by
 obtain ⟨cur, h1, h2, h3⟩ := h
 refine ⟨cur.setIfInBounds b.toNat (.int .u8 (y.toNat : Nat)), heap_setCell_same wr B b.toNat cur 346 _ h1, by simpa using h2, fun x => ?_⟩
 rw [Array.getElem?_setIfInBounds, ht x]
 by_cases e : x = b
 ·subst e
  rw [if_pos rfl, if_pos (by rw [h2]; exact x.toNat_lt), if_pos rfl]
 ·rw [if_neg (fun k => e (UInt8.toNat_inj.1 k.symm)), if_neg e]
  exact h3 x
theorem tk2 : ∀ x, tabK 2 x = if x = 13 then 32 else tabK 3 x := fun x => by
 by_cases e : x = 13
 ·subst e; rfl
 ·have e' : (x == 13) = false := by simpa using e
  rw [if_neg e]
  simp [tabK, e']
theorem tk1 : ∀ x, tabK 1 x = if x = 10 then 32 else tabK 2 x := fun x => by
 by_cases e : x = 10
 ·subst e; rfl
 ·have e' : (x == 10) = false := by simpa using e
  rw [if_neg e]
  simp [tabK, e']
theorem tk0 : ∀ x, tabK 0 x = if x = 9 then 32 else tabK 1 x := fun x => by
 by_cases e : x = 9
 ·subst e; rfl
 ·have e' : (x == 9) = false := by simpa using e
  rw [if_neg e]
  simp [tabK, flatB_eq, e']
set_option maxHeartbeats 4000000 in
set_option maxRecDepth 1000000 in
theorem build_any (b g cap : Nat) (w : World) (hb : b < w.heap.size) (hg : g < w.heap.size) (hold : w.cell? ⟨b, 4, none⟩ = some (.slice (some ⟨g, 0, none⟩) 6 cap)) (h6 : sixAt w g) :
  Calls Tryz.prog 314 #[.pointer (some ⟨b, 0, none⟩)] w fun e w' => e = .returned (.iface 347 (.pointer (some ⟨w.heap.size, 0, none⟩))) ∧ Below w.heap.size w w' ∧ TabV w.heap.size 0 w' := by
 have c0 := h6 0 (.string ⟨#[9]⟩) rfl
 have c1 := h6 1 (.string ⟨#[32]⟩) rfl
 have c2 := h6 2 (.string ⟨#[10]⟩) rfl
 have c3 := h6 3 (.string ⟨#[32]⟩) rfl
 have c4 := h6 4 (.string ⟨#[13]⟩) rfl
 have c5 := h6 5 (.string ⟨#[32]⟩) rfl
 have hsc := run_storeCells_new (P := Tryz.prog) w 346 Tryz.zeroCells346 Tryz.zeroCells346 (by kernel_rfl) rfl (by kernel_rfl)
 go_enter Tryz.func314, Tryz.ntmps314
 go_wp2
 go_loop [4, 5] (fun a i => ∃ k : Nat, k ≤ 3 ∧ i = .int .i64 ((2 * k : Nat) : Int) ∧ a = .bool true) (fun _ i => 6 - (intOf i).toNat)
 case atStart => exact ⟨0, by omega, rfl, rfl⟩
 case round =>
  obtain ⟨k, hk, rfl, rfl⟩ := hrel
  by_cases hlt : k < 3
  ·obtain rfl | rfl | rfl : k = 0 ∨ k = 1 ∨ k = 2 := by omega
   all_goals
    go_wp2
    go_round
    case rel => first | exact ⟨1, by omega, rfl, rfl⟩ | exact ⟨2, by omega, rfl, rfl⟩ | exact ⟨3, by omega, rfl, rfl⟩
    case measure => simp [intOf]
  ·obtain rfl : k = 3 := by omega
   go_wp2
   go_loopw [61] (fun i wr => ∃ k : Nat, k ≤ 256 ∧ i = .int .i64 (k : Nat) ∧ Below w.heap.size w wr ∧ TabW w.heap.size k wr) (fun i _ => 256 - (intOf i).toNat)
   case atStart => exact ⟨0, by omega, rfl, (Below.refl _ _).alloc (Nat.le_refl _) _, ⟨_, heap_alloc_new w _, Tryz.zeroCells346_size, fun j hj => absurd hj (Nat.not_lt_zero _)⟩⟩
   case round =>
    obtain ⟨k, hk, rfl, hbel, htab⟩ := hrel
    by_cases hlt : k < 256
    ·obtain ⟨⟨v, hc⟩, hf⟩ := tabw_cell htab hlt
     have HT := Lib.hid htab
     clear htab
     go_wp2
     go_roundw
     case rel => exact ⟨k + 1, by omega, by go_num, hbel.setCell (by exact Nat.le_refl _) _, tabw_set HT.out hlt⟩
     case measure => simp [intOf]; omega
    ·have hT3 : TabV w.heap.size 3 wr := by
      have h256 : k = 256 := by omega
      rw [h256] at htab
      exact tabw_v htab
     clear htab
     have HT := Lib.hid hT3
     clear hT3
     go_wp2
     obtain ⟨wo, rfl⟩ : ∃ wo : World, wo = wr := ⟨_, rfl⟩
     go_loopw [8] (fun i wr => ∃ m : Nat, m ≤ 3 ∧ i = .int .i64 (2 * (m : Nat) - 2 : Int) ∧ Below w.heap.size w wr ∧ TabV w.heap.size m wr) (fun i _ => (intOf i + 2).toNat)
     case atStart => exact ⟨3, by omega, rfl, hbel, HT.out⟩
     case round =>
      obtain ⟨m, hm, rfl, hbel2, htab2⟩ := hrel
      have d0 : wr.cell? ⟨g, 0, none⟩ = some (.string ⟨#[9]⟩) := (hbel2.cell (p := ⟨g, 0, none⟩) hg).trans c0
      have d1 : wr.cell? ⟨g, 1, none⟩ = some (.string ⟨#[32]⟩) := (hbel2.cell (p := ⟨g, 1, none⟩) hg).trans c1
      have d2 : wr.cell? ⟨g, 2, none⟩ = some (.string ⟨#[10]⟩) := (hbel2.cell (p := ⟨g, 2, none⟩) hg).trans c2
      have d3 : wr.cell? ⟨g, 3, none⟩ = some (.string ⟨#[32]⟩) := (hbel2.cell (p := ⟨g, 3, none⟩) hg).trans c3
      have d4 : wr.cell? ⟨g, 4, none⟩ = some (.string ⟨#[13]⟩) := (hbel2.cell (p := ⟨g, 4, none⟩) hg).trans c4
      have d5 : wr.cell? ⟨g, 5, none⟩ = some (.string ⟨#[32]⟩) := (hbel2.cell (p := ⟨g, 5, none⟩) hg).trans c5
      have k13 : ∀ h, ((⟨#[13]⟩ : ByteArray)[0]'h) = 13 := fun _ => rfl
      have k10 : ∀ h, ((⟨#[10]⟩ : ByteArray)[0]'h) = 10 := fun _ => rfl
      have k9 : ∀ h, ((⟨#[9]⟩ : ByteArray)[0]'h) = 9 := fun _ => rfl
      have k32 : ∀ h, ((⟨#[32]⟩ : ByteArray)[0]'h) = 32 := fun _ => rfl
      obtain rfl | rfl | rfl | rfl : m = 3 ∨ m = 2 ∨ m = 1 ∨ m = 0 := by omega
      ·obtain ⟨⟨v, hc⟩, hf⟩ := tabv_cell (j := 13) htab2 (by omega)
       have HT2 := Lib.hid htab2
       clear htab2
       go_wp2
       go_roundw
       case rel => exact ⟨2, by omega, rfl, hbel2.setCell (by exact Nat.le_refl _) _, tabv_set 13 32 HT2.out tk2⟩
       case measure => simp [intOf]
      ·obtain ⟨⟨v, hc⟩, hf⟩ := tabv_cell (j := 10) htab2 (by omega)
       have HT2 := Lib.hid htab2
       clear htab2
       go_wp2
       go_roundw
       case rel => exact ⟨1, by omega, rfl, hbel2.setCell (by exact Nat.le_refl _) _, tabv_set 10 32 HT2.out tk1⟩
       case measure => simp [intOf]
      ·obtain ⟨⟨v, hc⟩, hf⟩ := tabv_cell (j := 9) htab2 (by omega)
       have HT2 := Lib.hid htab2
       clear htab2
       go_wp2
       go_roundw
       case rel => exact ⟨0, by omega, rfl, hbel2.setCell (by exact Nat.le_refl _) _, tabv_set 9 32 HT2.out tk0⟩
       case measure => simp [intOf]
      ·have HT2 := Lib.hid htab2
       clear htab2
       go_wp2
       go_ret
       exact ⟨rfl, hbel2, HT2.out⟩
end Go.Mo
end

section
/-
  The locks under sync.Once.
-/
set_option linter.all false
namespace Go.Mo
open Go Go.W Go.Proofs Go.RowKit
theorem rd_disable (w : World) : (callFunc 329 #[]).run Tryz.prog w = .ok (.value (.tuple #[])) w := run_call_mark0 Tryz.func329 (by kernel_rfl) (by kernel_rfl) (by kernel_rfl) .disable (by kernel_rfl) w
theorem rd_enable (w : World) : (callFunc 331 #[]).run Tryz.prog w = .ok (.value (.tuple #[])) w := run_call_mark0 Tryz.func331 (by kernel_rfl) (by kernel_rfl) (by kernel_rfl) .enable (by kernel_rfl) w
theorem rd_acquire (a : Addr) (w : World) : (callFunc 332 #[.pointer (some a)]).run Tryz.prog w = .ok (.value (.tuple #[])) w := run_call_marked Tryz.func332 (by kernel_rfl) (by kernel_rfl) (by kernel_rfl) .acquire (by kernel_rfl) a w
theorem rd_release (a : Addr) (w : World) : (callFunc 334 #[.pointer (some a)]).run Tryz.prog w = .ok (.value (.tuple #[])) w := run_call_marked Tryz.func334 (by kernel_rfl) (by kernel_rfl) (by kernel_rfl) .releaseMerge (by kernel_rfl) a w
set_option maxHeartbeats 2000000 in
set_option maxRecDepth 1000000 in
theorem store_deferred (a : Addr) (x : Value) (u : FrameMode) (w : World) (hc : w.cell? a = some x) (hz : w.frozen? a = false) :
  CallsD Tryz.prog 320 #[.pointer (some a), .bool true] u w fun e u' w' => u' = u ∧ (e = .returned (.tuple #[]) ∧ w' = w.drew.setCell a (.int .u32 1)) := by
 have hc' : w.drew.cell? a = some x := by go_simp
 have hz' : w.drew.frozen? a = false := by go_simp
 have hst := run_call_store (P := Tryz.prog) Tryz.func325 (by kernel_rfl) (by kernel_rfl) (by kernel_rfl) (by kernel_rfl) (k := .u32) (y := 1) hc' hz'
 go_enter_d Tryz.func320, Tryz.ntmps320
 go_wp2
 go_region_calls
 all_goals (go_end0; exact ⟨rfl, rfl⟩)
set_option maxHeartbeats 2000000 in
set_option maxRecDepth 1000000 in
theorem unlock_deferred (a : Addr) (u : FrameMode) (w : World) (hc : w.cell? a = some (.int .i32 1)) (hz : w.frozen? a = false) :
  CallsD Tryz.prog 319 #[.pointer (some a)] u w fun e u' w' => u' = u ∧ (e = .returned (.tuple #[]) ∧ w' = w.setCell a (.int .i32 0)) := by
 have hd := rd_disable
 have he := rd_enable
 have hr := rd_release
 have hadd := run_call_add (P := Tryz.prog) Tryz.func335 (by kernel_rfl) (by kernel_rfl) (by kernel_rfl) .i32 (by kernel_rfl) (y := -1) (s := 0) hc hz (by simp [go_sem]; rfl)
 have hcv := run_convert_to_unsafe (P := Tryz.prog) (src := 366) (dst := 240) Tryz.underlying366 Tryz.underlying240 (by kernel_rfl) hc
 go_enter_d Tryz.func319, Tryz.ntmps319
 go_wp2
 go_end0
 go_wp2
 go_end0
 exact ⟨rfl, rfl⟩
set_option maxHeartbeats 2000000 in
set_option maxRecDepth 1000000 in
theorem lock_free (a : Addr) (w : World) (hc : w.cell? a = some (.int .i32 0)) (hz : w.frozen? a = false) :
  Calls Tryz.prog 318 #[.pointer (some a)] w fun e w' => e = .returned (.tuple #[]) ∧ w' = w.setCell a (.int .i32 1) := by
 have hd := rd_disable
 have he := rd_enable
 have ha := rd_acquire
 have hcas := run_call_cas_hit (P := Tryz.prog) Tryz.func330 (by kernel_rfl) (by kernel_rfl) (by kernel_rfl) .i32 (by kernel_rfl) (y := 1) hc hz
 have hc' : (w.setCell a (.int .i32 1)).cell? a = some (.int .i32 1) := World.cell?_setCell_same w a _ hc
 have hcv := run_convert_to_unsafe (P := Tryz.prog) (src := 366) (dst := 240) Tryz.underlying366 Tryz.underlying240 (by kernel_rfl) hc'
 go_enter Tryz.func318, Tryz.ntmps318
 go_wp2
 first | go_end0 | (simp only [Exit.inBlock, Exit.then]; refine bodyPost_ret (results_none rfl _ _ _) rfl ?_) | refine bodyPost_ret (results_none rfl _ _ _) rfl ?_
 go_wp2
 go_end0
 exact ⟨rfl, rfl⟩
end Go.Mo
end

section
/-
  The replacer of the library is built once: sync.Once.
-/
set_option linter.all false
namespace Go.Mo
open Go Go.W Go.Proofs Go.RowKit
theorem TabV.of_block {B k : Nat} {w w' : World} (h : TabV B k w) (hh : w'.heap[B]? = w.heap[B]?) : TabV B k w' := by
 obtain ⟨cur, h1, h2, h3⟩ := h
 exact ⟨cur, hh.trans h1, h2, h3⟩
theorem TabV.other {B k : Nat} {w : World} (h : TabV B k w) {a : Addr} (ha : B ≠ a.block) (u : Value) : TabV B k (w.setCell a u) :=
 h.of_block (Below.heap_setCell _ _ _ _ ha)
theorem sixAt.other {g : Nat} {w : World} (h : sixAt w g) {a : Addr} (ha : a.block ≠ g) (u : Value) : sixAt (w.setCell a u) g := fun j v hj =>
 (World.cell?_setCell_other w a ⟨g, j, none⟩ u (fun e => ha (by rw [e]))).trans (h j v hj)
def ifa (c : Nat) : Value := .iface 347 (.pointer (some ⟨c, 0, none⟩))
set_option maxHeartbeats 2000000 in
set_option maxRecDepth 1000000 in
theorem once_any (b g cap : Nat) (x3 : Value) (w : World) (hb : b < w.heap.size) (hg : g < w.heap.size) (hold : w.cell? ⟨b, 4, none⟩ = some (.slice (some ⟨g, 0, none⟩) 6 cap)) (h3 : w.cell? ⟨b, 3, none⟩ = some x3)
  (f3 : w.frozen? ⟨b, 3, none⟩ = false) (f4 : w.frozen? ⟨b, 4, none⟩ = false) (h6 : sixAt w g) :
  Calls Tryz.prog 303 #[.pointer (some ⟨b, 0, none⟩)] w fun e w' => e = .returned (.tuple #[]) ∧ ∃ w1, Below w.heap.size w w1 ∧ TabV w.heap.size 0 w1 ∧ w' = (w1.setCell ⟨b, 3, none⟩ (ifa w.heap.size)).setCell ⟨b, 4, none⟩ (.slice none 0 0) := by
 have HB := Lib.hid (build_any b g cap w hb hg hold h6)
 go_enter Tryz.func303, Tryz.ntmps303
 go_wp2_with fail
 refine HB.out.mono ?_
 rintro e w1 ⟨rfl, hbel, htab⟩
 have c3 : w1.cell? ⟨b, 3, none⟩ = some x3 := (hbel.cell (p := ⟨b, 3, none⟩) hb).trans h3
 have c4 : w1.cell? ⟨b, 4, none⟩ = some (.slice (some ⟨g, 0, none⟩) 6 cap) := (hbel.cell (p := ⟨b, 4, none⟩) hb).trans hold
 have z3 : w1.frozen? ⟨b, 3, none⟩ = false := (hbel.frozen (p := ⟨b, 3, none⟩) hb).trans f3
 have z4 : w1.frozen? ⟨b, 4, none⟩ = false := (hbel.frozen (p := ⟨b, 4, none⟩) hb).trans f4
 have d4 : (w1.setCell ⟨b, 3, none⟩ (.iface 347 (.pointer (some ⟨w.heap.size, 0, none⟩)))).cell? ⟨b, 4, none⟩ = some (.slice (some ⟨g, 0, none⟩) 6 cap) := (World.cell?_setCell_other _ _ _ _ (by simp)).trans c4
 have HT := Lib.hid htab
 clear htab
 go_wp2
 go_end0
 exact ⟨rfl, w1, hbel, HT.out, rfl⟩
def Built (b c : Nat) (w w' : World) : Prop := Below b w w' ∧ w'.cell? ⟨b, 3, none⟩ = some (ifa c) ∧ TabV c 0 w' ∧ c < w'.heap.size ∧ w'.frozen? ⟨b, 3, none⟩ = false
theorem built_mk {b : Nat} {w w1 : World} {v x : Value} (hb : b < w.heap.size) (h : Below w.heap.size (w.setCell ⟨b, 1, none⟩ v) w1) (ht : TabV w.heap.size 0 w1) (h3 : w1.cell? ⟨b, 3, none⟩ = some x) (hz : ∀ o, w1.frozen? ⟨b, o, none⟩ = false) :
  Built b w.heap.size w ((((w1.setCell ⟨b, 3, none⟩ (ifa w.heap.size)).setCell ⟨b, 4, none⟩ (.slice none 0 0)).drew.setCell ⟨b, 0, none⟩ (.int .u32 1)).setCell ⟨b, 1, none⟩ (.int .i32 0)) := by
 have hne : w.heap.size ≠ b := by omega
 refine ⟨?_, ?_, ?_, ?_, ?_⟩
 ·exact ((((((Below.refl b w).setCell (p := ⟨b, 1, none⟩) (Nat.le_refl _) v).trans (h.mono (Nat.le_of_lt hb))).setCell (p := ⟨b, 3, none⟩) (Nat.le_refl _) _).setCell (p := ⟨b, 4, none⟩) (Nat.le_refl _) _).drew.setCell (p := ⟨b, 0, none⟩) (Nat.le_refl _) _).setCell (p := ⟨b, 1, none⟩) (Nat.le_refl _) _
 ·rw [World.cell?_setCell_other _ ⟨b, 1, none⟩ ⟨b, 3, none⟩ _ (by simp), World.cell?_setCell_other _ ⟨b, 0, none⟩ ⟨b, 3, none⟩ _ (by simp), World.cell?_drew, World.cell?_setCell_other _ ⟨b, 4, none⟩ ⟨b, 3, none⟩ _ (by simp)]
  exact World.cell?_setCell_same _ _ _ h3
 ·exact (TabV.of_block (w := ((w1.setCell ⟨b, 3, none⟩ (ifa w.heap.size)).setCell ⟨b, 4, none⟩ (.slice none 0 0))) ((ht.other (by exact hne) _).other (by exact hne) _) rfl |>.other (by exact hne) _).other (by exact hne) _
 ·obtain ⟨cur, q1, _⟩ := ht
  have := (Array.getElem?_eq_some_iff.1 q1).1
  simpa [World.setCell, World.drew] using this
 ·simp only [World.frozen?_setCell, World.frozen?_drew]
  exact hz 3
set_option maxRecDepth 1000000 in
set_option maxHeartbeats 4000000 in
theorem slow_any (b g cap : Nat) (x3 : Value) (w : World) (hb : b < w.heap.size) (hg : g < w.heap.size) (hgb : g ≠ b) (hold : w.cell? ⟨b, 4, none⟩ = some (.slice (some ⟨g, 0, none⟩) 6 cap)) (h3 : w.cell? ⟨b, 3, none⟩ = some x3)
  (h0 : w.cell? ⟨b, 0, none⟩ = some (.int .u32 0)) (h1 : w.cell? ⟨b, 1, none⟩ = some (.int .i32 0)) (hz : ∀ o, w.frozen? ⟨b, o, none⟩ = false) (h6 : sixAt w g) :
  Calls Tryz.prog 313 #[.pointer (some ⟨b, 0, none⟩), .func (.func 303) #[.pointer (some ⟨b, 0, none⟩)] #[]] w fun e w' => e = .returned (.tuple #[]) ∧ Built b w.heap.size w w' := by
 have HL := Lib.hid (lock_free ⟨b, 1, none⟩ w h1 (hz 1))
 have hl := run_call_load (P := Tryz.prog) Tryz.func317 (by kernel_rfl) (by kernel_rfl) (by kernel_rfl) .u32 (by kernel_rfl) (w := w.setCell ⟨b, 1, none⟩ (.int .i32 1)) (a := ⟨b, 0, none⟩) (x := 0) ((World.cell?_setCell_other _ ⟨b, 1, none⟩ ⟨b, 0, none⟩ _ (by simp)).trans h0)
 have hnot : ∀ (x : Bool) (w : World), (Op.unary .not (.bool x)).run Tryz.prog w = .ok (.bool (!x)) w := fun _ _ => rfl
 have hs : (w.setCell ⟨b, 1, none⟩ (.int .i32 1)).heap.size = w.heap.size := by simp [World.setCell]
 have HO := Lib.hid (once_any b g cap x3 (w.setCell ⟨b, 1, none⟩ (.int .i32 1)) (by rw [hs]; exact hb) (by rw [hs]; exact hg) ((World.cell?_setCell_other _ ⟨b, 1, none⟩ ⟨b, 4, none⟩ _ (by simp)).trans hold) ((World.cell?_setCell_other _ ⟨b, 1, none⟩ ⟨b, 3, none⟩ _ (by simp)).trans h3)
  (by rw [World.frozen?_setCell]; exact hz 3) (by rw [World.frozen?_setCell]; exact hz 4) (h6.other (by exact fun e => hgb e.symm) _))
 rw [hs] at HO
 have HS := Lib.hid hs
 have H0 := Lib.hid h0
 have H1 := Lib.hid h1
 have H3 := Lib.hid h3
 have H4 := Lib.hid hold
 have HZ := Lib.hid hz
 clear hs h0 h1 h3 hold hz h6
 go_enter_defers Tryz.func313, Tryz.ntmps313
 go_wp2_with (go_at_call 318; refine HL.out.mono ?_; rintro e w' ⟨rfl, rfl⟩)
 go_wp2_with (first | (go_at_call 303; refine HO.out.mono ?_; rintro e w' ⟨rfl, w1, hbel, htab, rfl⟩; have HB1 := Lib.hid hbel; have HT := Lib.hid htab; clear hbel htab) | (go_at_call 312; go_in))
 have hsz : w.heap.size ≤ w1.heap.size := by
  have h1 := HB1.out.size
  have h2 := HS.out
  omega
 have hw1 : ∀ o v, o ≠ 1 → w.cell? ⟨b, o, none⟩ = some v → w1.cell? ⟨b, o, none⟩ = some v := fun o v ho hv =>
  (HB1.out.cell (p := ⟨b, o, none⟩) hb).trans ((World.cell?_setCell_other _ ⟨b, 1, none⟩ ⟨b, o, none⟩ _ (by simp <;> omega)).trans hv)
 have hw11 : w1.cell? ⟨b, 1, none⟩ = some (.int .i32 1) := (HB1.out.cell (p := ⟨b, 1, none⟩) hb).trans (World.cell?_setCell_same w ⟨b, 1, none⟩ _ H1.out)
 have hzz : ∀ o, w1.frozen? ⟨b, o, none⟩ = false := fun o => (HB1.out.frozen (p := ⟨b, o, none⟩) hb).trans ((World.frozen?_setCell _ _ _ _).trans (HZ.out o))
 refine leaves_cons (f := 320) (args := #[.pointer (some ⟨b, 0, none⟩), .bool true]) (by simp) (by simp [go_sem]) ?_
 refine (store_deferred ⟨b, 0, none⟩ (.int .u32 0) .returning _ ?_ (by simp [hzz])).mono ?_
 ·exact (World.cell?_setCell_other _ ⟨b, 4, none⟩ ⟨b, 0, none⟩ _ (by simp)).trans ((World.cell?_setCell_other _ ⟨b, 3, none⟩ ⟨b, 0, none⟩ _ (by simp)).trans (hw1 0 _ (by decide) H0.out))
 rintro e u' w'' ⟨rfl, rfl, rfl⟩
 refine leaves_cons (f := 319) (args := #[.pointer (some ⟨b, 1, none⟩)]) (by simp [settle]) (by simp [go_sem]) ?_
 refine (unlock_deferred ⟨b, 1, none⟩ _ _ ?_ (by simp [hzz])).mono ?_
 ·refine (World.cell?_setCell_other _ ⟨b, 0, none⟩ ⟨b, 1, none⟩ _ (by simp)).trans ?_
  rw [World.cell?_drew]
  exact (World.cell?_setCell_other _ ⟨b, 4, none⟩ ⟨b, 1, none⟩ _ (by simp)).trans ((World.cell?_setCell_other _ ⟨b, 3, none⟩ ⟨b, 1, none⟩ _ (by simp)).trans hw11)
 rintro e u' w'' ⟨rfl, rfl, rfl⟩
 simp [Leaves, settle, results, Tryz.results313]
 exact built_mk hb HB1.out HT.out (hw1 3 _ (by decide) H3.out) hzz
set_option maxRecDepth 1000000 in
set_option maxHeartbeats 4000000 in
theorem do_any (b g cap : Nat) (x3 : Value) (w : World) (hb : b < w.heap.size) (hg : g < w.heap.size) (hgb : g ≠ b) (hold : w.cell? ⟨b, 4, none⟩ = some (.slice (some ⟨g, 0, none⟩) 6 cap)) (h3 : w.cell? ⟨b, 3, none⟩ = some x3)
  (h0 : w.cell? ⟨b, 0, none⟩ = some (.int .u32 0)) (h1 : w.cell? ⟨b, 1, none⟩ = some (.int .i32 0)) (hz : ∀ o, w.frozen? ⟨b, o, none⟩ = false) (h6 : sixAt w g) :
  Calls Tryz.prog 302 #[.pointer (some ⟨b, 0, none⟩), .func (.func 303) #[.pointer (some ⟨b, 0, none⟩)] #[]] w fun e w' => e = .returned (.tuple #[]) ∧ Built b w.heap.size w w' := by
 have HS := Lib.hid (slow_any b g cap x3 w hb hg hgb hold h3 h0 h1 hz h6)
 have hl := run_call_load (P := Tryz.prog) Tryz.func317 (by kernel_rfl) (by kernel_rfl) (by kernel_rfl) .u32 (by kernel_rfl) h0
 have hnot : ∀ (x : Bool) (w : World), (Op.unary .not (.bool x)).run Tryz.prog w = .ok (.bool (!x)) w := fun _ _ => rfl
 clear hold h3 h0 h1 hz h6
 go_enter Tryz.func302, Tryz.ntmps302
 go_wp2_with (first | (go_at_call 313; refine HS.out.mono ?_; rintro e w' ⟨rfl, hbu⟩) | (go_at_call 312; go_in))
 go_end0
 exact ⟨rfl, hbu⟩
theorem method_rep (a : Addr) (w : World) : (method 504 347 (.pointer (some a)) "Replace").run Tryz.prog w = .ok (371, .pointer (some a)) w := by kernel_rfl
set_option maxRecDepth 1000000 in
set_option maxHeartbeats 4000000 in
theorem replacer_any (b g cap : Nat) (x3 : Value) (s : ByteArray) (w : World) (hsz : s.size ≤ 4294967281) (hb : b < w.heap.size) (hg : g < w.heap.size) (hgb : g ≠ b) (hold : w.cell? ⟨b, 4, none⟩ = some (.slice (some ⟨g, 0, none⟩) 6 cap)) (h3 : w.cell? ⟨b, 3, none⟩ = some x3)
  (h0 : w.cell? ⟨b, 0, none⟩ = some (.int .u32 0)) (h1 : w.cell? ⟨b, 1, none⟩ = some (.int .i32 0)) (hz : ∀ o, w.frozen? ⟨b, o, none⟩ = false) (h6 : sixAt w g) :
  Calls Tryz.prog 291 #[.pointer (some ⟨b, 0, none⟩), .string s] w fun e w' => e = .returned (.string ⟨(s.data.toList.map flatB).toArray⟩) ∧ Below b w w' := by
 have HS := Lib.hid (do_any b g cap x3 w hb hg hgb hold h3 h0 h1 hz h6)
 have hmf : ∀ (fn : Fn) (first cap : Array Value) (w : World), (Instr.makeFunc fn first cap).run Tryz.prog w = .ok (.func fn first cap) w := fun _ _ _ _ => rfl
 clear hold h3 h0 h1 hz h6
 go_enter Tryz.func291, Tryz.ntmps291
 go_wp2_with fail
 refine HS.out.mono ?_
 rintro e w1 ⟨rfl, hbel, hi, htab, hc, hf⟩
 replace hi : w1.cell? ⟨b, 3, none⟩ = some (.iface 347 (.pointer (some ⟨w.heap.size, 0, none⟩))) := hi
 have HR := Lib.hid (br_any w.heap.size s w1 hc hsz (fun x => by
  obtain ⟨cur, q1, q2, q3⟩ := htab
  have := q3 x
  simp only [World.cell?, q1]
  simpa [tabK] using this))
 have HT := Lib.hid htab
 clear htab
 have hm := method_rep ⟨w.heap.size, 0, none⟩ w1
 go_wp2_with (go_at_call 371; refine HR.out.mono ?_; rintro e w' ⟨rfl, hb2⟩)
 go_ret
 exact ⟨rfl, hbel.trans (hb2.mono (by have := hbel.size; omega))⟩
end Go.Mo
end

section
/-
  captioner/xml.flat: tabs, line feeds and carriage returns become blanks.
-/
set_option linter.all false
namespace Go.Mo
open Go Go.W Go.Proofs Go.RowKit
def six : List Value := [.string ⟨#[9]⟩, .string ⟨#[32]⟩, .string ⟨#[10]⟩, .string ⟨#[32]⟩, .string ⟨#[13]⟩, .string ⟨#[32]⟩]
def NewAt (w : World) (b : Nat) (w' : World) : Prop := ∃ g cap, w.heap.size ≤ b ∧ b < w'.heap.size ∧ g < w'.heap.size ∧ g ≠ b ∧ Below w.heap.size w w' ∧ w'.cell? ⟨b, 4, none⟩ = some (.slice (some ⟨g, 0, none⟩) 6 cap) ∧ w'.cell? ⟨b, 3, none⟩ = some .nilIface ∧
 w'.cell? ⟨b, 0, none⟩ = some (.int .u32 0) ∧ w'.cell? ⟨b, 1, none⟩ = some (.int .i32 0) ∧ (∀ o, w'.frozen? ⟨b, o, none⟩ = false) ∧ sixAt w' g
def NewP (w : World) (e : Ending) (w' : World) : Prop := ∃ b, e = .returned (.pointer (some ⟨b, 0, none⟩)) ∧ NewAt w b w'
theorem info9 : (Tryz.prog.info? 9).map (fun i => (i.zero, i.size, i.bytes)) = some (some (.string .empty), 1, 16) := by kernel_rfl
theorem new_at {w w1 : World} {v : Value} (h : w1.ownsRow w.heap.size 9 1 v 6 six) (hg : w.grownBy w1 none) : NewAt w w1.heap.size (w1.alloc (.cells #[.int .u32 0, .int .i32 0, .int .u32 0, .nilIface, v] 323)) := by
 rcases h.2 with ⟨_, h0⟩ | ⟨g, cap, cur, rfl, q1, q2, q3, q4, q5, q6⟩
 ·cases h0
 have hgl := (Array.getElem?_eq_some_iff.1 q2).1
 refine ⟨g, cap, hg.size, by simp, by simp; omega, by omega, ?_, ?_, ?_, ?_, ?_, ?_, ?_⟩
 ·exact ((Below.refl _ _).grown hg (Nat.le_refl _) (fun k hk => by cases hk)).alloc hg.size _
 ·rw [World.cell?_alloc_at _ _ _ _ rfl]; rfl
 ·rw [World.cell?_alloc_at _ _ _ _ rfl]; rfl
 ·rw [World.cell?_alloc_at _ _ _ _ rfl]; rfl
 ·rw [World.cell?_alloc_at _ _ _ _ rfl]; rfl
 ·intro o
  exact World.frozen?_alloc_at _ _ _ _ rfl
 ·intro j u hj
  rw [World.cell?_alloc_past _ _ _ hgl]
  have hj6 : j < 6 := by
   rcases Nat.lt_or_ge j 6 with h | h
   ·exact h
   ·rw [Array.getElem?_eq_none (by simpa using h)] at hj
    cases hj
  have := World.ownsRow.cellAt h j (by simpa using hj6)
  rw [this]
  have e : (#[Value.string ⟨#[9]⟩, .string ⟨#[32]⟩, .string ⟨#[10]⟩, .string ⟨#[32]⟩, .string ⟨#[13]⟩, .string ⟨#[32]⟩] : Array Value) = six.toArray := rfl
  rw [e] at hj
  simpa using hj
set_option maxRecDepth 1000000 in
set_option maxHeartbeats 4000000 in
theorem new_any (g : Nat) (w : World) (hc : ∀ j u, six[j]? = some u → w.cell? ((⟨g, 0, none⟩ : Addr).add j) = some u) : Calls Tryz.prog 290 #[.slice (some ⟨g, 0, none⟩) 6 6] w (NewP w) := by
 obtain ⟨i0, hi, hz0, hz1, hz2⟩ := info_parts info9
 have HC := Lib.hid hc
 clear hc
 go_enter Tryz.func290, Tryz.ntmps290
 go_wp2_with (first
   |(at_builtin; refine wpList_append_own _ rfl _ _ 92 rfl w.heap.size 9 i0 (.string .empty) 1 16 Tryz.underlying92 hi hz0 hz1 hz2 rfl (by decide) _ _ _ rfl (World.ownsRow_nil _ _ _ _) ⟨g, 0, none⟩ 6 6 six rfl rfl ?c1 ?c2 ?c3 ?c4 ?c5 ?_)
   |go_in)
 case c1 => exact HC.out
 case c2 => intro u hu; simp [six] at hu; rcases hu with rfl | rfl | rfl | rfl | rfl | rfl <;> rfl
 case c3 => unfold maxLen; omega
 case c4 => omega
 case c5 => exact Nat.le_refl _
 ·intro v' w1 hown hgrow _
  obtain ⟨g2, cap2, rfl⟩ : ∃ g2 cap2, v' = .slice (some ⟨g2, 0, none⟩) 6 cap2 := by
   rcases hown.2 with ⟨_, h0⟩ | ⟨g2, cap2, cur, e, _⟩
   ·cases h0
   ·exact ⟨g2, cap2, e⟩
  have HO := Lib.hid hown
  have HG := Lib.hid hgrow
  clear hown hgrow
  go_wp2
  go_ret
  exact ⟨_, rfl, new_at HO.out HG.out⟩
set_option maxRecDepth 1000000 in
set_option maxHeartbeats 4000000 in
theorem flat_any (s : ByteArray) (w : World) (hs : s.size ≤ 4294967281) : Calls Tryz.prog 273 #[.string s] w fun e w' => e = .returned (.string ⟨(s.data.toList.map flatB).toArray⟩) ∧ Below w.heap.size w w' := by
 go_enter Tryz.func273, Tryz.ntmps273
 go_wp2_with fail
 have h0 : ∀ j u, six[j]? = some u → (w.alloc (.cells #[.string ⟨#[9]⟩, .string ⟨#[32]⟩, .string ⟨#[10]⟩, .string ⟨#[32]⟩, .string ⟨#[13]⟩, .string ⟨#[32]⟩] 9)).cell? ((⟨w.heap.size, 0, none⟩ : Addr).add j) = some u := fun j u hj => by
  have e : (⟨w.heap.size, 0, none⟩ : Addr).add j = ⟨w.heap.size, j, none⟩ := by simp [Addr.add, eq_comm]
  rw [e, World.cell?_alloc_at _ _ _ _ rfl]
  have : (#[Value.string ⟨#[9]⟩, .string ⟨#[32]⟩, .string ⟨#[10]⟩, .string ⟨#[32]⟩, .string ⟨#[13]⟩, .string ⟨#[32]⟩] : Array Value) = six.toArray := rfl
  rw [this]
  simpa using hj
 have hb0 : Below w.heap.size w (w.alloc (.cells #[.string ⟨#[9]⟩, .string ⟨#[32]⟩, .string ⟨#[10]⟩, .string ⟨#[32]⟩, .string ⟨#[13]⟩, .string ⟨#[32]⟩] 9)) := (Below.refl _ _).alloc (Nat.le_refl _) _
 refine (new_any w.heap.size _ h0).mono ?_
 rintro e w1 ⟨b, rfl, g, cap, p1, p2, p3, p4, p5, p6, p7, p8, p9, p10, p11⟩
 have HR := Lib.hid (replacer_any b g cap .nilIface s w1 hs p2 p3 p4 p6 p7 p8 p9 p10 p11)
 have hb1 : Below w.heap.size w w1 := hb0.trans (p5.mono (by simp))
 have hbb : w.heap.size ≤ b := Nat.le_trans (by simp) p1
 clear h0 hb0 p1 p2 p3 p4 p5 p6 p7 p8 p9 p10 p11
 go_wp2_with (go_at_call 291; refine HR.out.mono ?_; rintro e w' ⟨rfl, hb2⟩)
 go_ret
 exact ⟨rfl, hb1.trans (hb2.mono hbb)⟩
end Go.Mo
end

section
/-
  The table of types of this program, as the machine on plain values sees them, and the package variables that are known.
-/
namespace Go.Mo
open Go Go.W Go.Proofs
noncomputable section
abbrev Y4 : Ty := .st (.pair (.str) (.pair (.int .i64) (.pair (.int .i64) (.pair (.int .i64) (.pair (.int .i64) (.pair (.u8) (.bool)))))))
abbrev Y5 : Ty := .st (.pair (.str) (.pair (.st (.pair (.u8) (.pair (.bool) (.bool)))) (.str)))
abbrev Y2 : Ty := .st (.pair (.int .i64) (.pair (.st (.pair (.int .i64) (.int .i64))) (.pair (.str) (.pair (.u8) (.pair (.str) (.slice (.st (.slice Y5))))))))
abbrev Y6 : Ty := .st (.pair (.int .i64) (.pair (.int .i64) (.pair (.int .i64) (.pair (.int .i64) (.pair (.str) (.pair (.str) (.pair (.bool) (.bool))))))))
abbrev Y1 : Ty := .st (.pair (.str) (.pair (.str) (.pair (.u8) (.pair (.bool) (.pair (.int .i64) (.pair (.slice Y4) (.pair (.slice Y2) (.slice Y6))))))))
abbrev Y8 : Ty := .slice (.st (.pair (.str) (.str)))
abbrev Y3 : Ty := .st (.pair (.str) (.pair (.str) (.pair Y8 (.int .i64))))
abbrev Y7 : Ty := .st (.pair (.int .i64) (.pair (.int .i64) (.int .i64)))
abbrev Y9 : Ty := .st (.pair (.nptr) (.slice (.u8)))
def tt : List (Option Ty) := [none,
 none,
 some (.int .i64),
 some (.int .i64),
 some (.bool),
 some (.u8),
 none,
 none,
 none,
 some (.str),
 none,
 none,
 some (.int .u64),
 none,
 none,
 some (.nptr),
 some (.nptr),
 some (.nptr),
 none,
 none,
 some (.nif),
 some (.int .i32),
 some (.u8),
 some (.slice Y4),
 some (.slice Y2),
 some (.slice Y6),
 some Y1,
 some Y1,
 none,
 none,
 some (.slice Y3),
 some (.int .i64),
 none,
 none,
 none,
 none,
 none,
 none,
 none,
 none,
 none,
 none,
 none,
 none,
 none,
 some Y8,
 some Y3,
 some Y3,
 none,
 some (.st (.pair (.str) (.str))),
 some (.st (.pair (.str) (.str))),
 none,
 none,
 some (.slice Y7),
 none,
 none,
 none,
 some Y7,
 some Y7,
 none,
 none,
 none,
 none,
 some (.st (.pair (.int .i64) (.int .i64))),
 some (.st (.pair (.int .i64) (.int .i64))),
 some (.u8),
 some (.u8),
 some (.st (.pair (.u8) (.pair (.bool) (.bool)))),
 some (.st (.pair (.u8) (.pair (.bool) (.bool)))),
 some Y5,
 some Y5,
 some (.slice Y5),
 some (.st (.slice Y5)),
 some (.st (.slice Y5)),
 some (.slice (.st (.slice Y5))),
 some Y2,
 some Y2,
 some (.slice Y3),
 none,
 none,
 none,
 none,
 some (.u8),
 some Y4,
 some Y4,
 some (.arr 3 (.str)),
 none,
 none,
 some (.arr 7 (.str)),
 none,
 none,
 none,
 some (.slice (.str)),
 none,
 none,
 none,
 none,
 some (.st (.pair (.str) (.pair (.str) (.pair (.u8) (.pair (.bool) (.int .i64)))))),
 some (.st (.pair (.str) (.pair (.str) (.pair (.u8) (.pair (.bool) (.int .i64)))))),
 none,
 none,
 none,
 none,
 none,
 some Y6,
 some Y6,
 none,
 none,
 none,
 none,
 some (.nptr),
 none,
 some (.nptr),
 some (.st (.pair Y3 (.int .i64))),
 some (.st (.pair Y3 (.int .i64))),
 none,
 some (.nptr),
 some (.nptr),
 none,
 some (.slice Y8),
 none,
 none,
 none,
 none,
 none,
 none,
 none,
 none,
 some (.nptr),
 some (.slice (.u8)),
 some Y9,
 some Y9,
 some (.nif),
 some (.nif),
 none,
 none,
 none,
 none,
 some (.nptr),
 some (.st (.pair (.str) (.pair (.int .i64) (.pair (.int .i64) (.bool))))),
 some (.st (.pair (.str) (.pair (.int .i64) (.pair (.int .i64) (.bool))))),
 none,
 none,
 none,
 none,
 none,
 some (.int .u64),
 none,
 none,
 none,
 none,
 none,
 none,
 none,
 none,
 none,
 none,
 none,
 some (.nptr),
 some (.st (.pair Y3 (.int .i64))),
 some (.st (.pair Y3 (.int .i64))),
 none,
 none,
 none,
 none,
 none,
 none,
 none,
 none,
 none,
 none,
 none,
 some (.nptr),
 some (.st (.pair (.slice Y3) (.pair (.slice (.str)) (.bool)))),
 some (.st (.pair (.slice Y3) (.pair (.slice (.str)) (.bool)))),
 some (.st (.pair (.int .i64) (.pair (.str) (.pair Y8 (.str))))),
 some (.st (.pair (.int .i64) (.pair (.str) (.pair Y8 (.str))))),
 none,
 none,
 none,
 some (.nptr),
 some (.st (.pair (.slice Y3) (.pair (.slice (.str)) (.pair (.bool) (.bool))))),
 some (.st (.pair (.slice Y3) (.pair (.slice (.str)) (.pair (.bool) (.bool))))),
 some (.st (.pair (.int .i64) (.pair (.int .i64) (.pair (.str) Y8)))),
 some (.st (.pair (.int .i64) (.pair (.int .i64) (.pair (.str) Y8)))),
 none,
 none,
 none,
 none,
 none,
 none,
 none,
 none,
 some (.slice Y7),
 none,
 none,
 some (.slice (.int .i64)),
 none,
 none,
 none,
 none,
 some (.arr 2 (.str)),
 some (.arr 5 (.arr 2 (.str))),
 none,
 some (.nptr),
 some (.arr 8 (.st (.pair (.str) (.pair (.int .i64) (.pair (.int .i64) (.bool)))))),
 none,
 none,
 none,
 none,
 none,
 none,
 none,
 none,
 some (.slice (.u8)),
 none,
 none,
 none,
 none,
 none,
 none,
 none,
 none,
 none,
 none,
 some (.arr 2 (.arr 2 (.str))),
 none,
 none,
 none,
 none,
 none,
 none,
 none,
 none,
 none,
 none,
 none,
 some Y7,
 some Y7,
 none,
 none,
 none,
 none,
 none,
 some (.arr 24 (.u8)),
 none,
 none,
 none,
 none,
 none,
 none,
 none,
 none,
 none,
 none,
 none,
 none,
 none,
 none,
 none,
 none,
 some (.arr 256 (.u8)),
 some (.st (.pair (.u8) (.u8))),
 some (.st (.pair (.u8) (.u8))),
 some (.arr 16 (.st (.pair (.u8) (.u8)))),
 some (.int .u64),
 none,
 none,
 none,
 none,
 none,
 none,
 none,
 some (.arr 20 (.int .u64)),
 some (.int .u32),
 some (.arr 65 (.u8)),
 none,
 none,
 some (.slice (.int .i32)),
 none,
 none,
 none,
 none,
 none,
 none,
 some (.arr 256 (.bool)),
 some (.arr 256 (.bool)),
 none,
 none,
 none,
 some (.nptr),
 none,
 none,
 none,
 none,
 none,
 none,
 some (.nptr),
 none,
 none,
 some (.arr 32 (.u8)),
 some (.arr 64 (.u8)),
 some (.int .i64),
 none,
 none,
 some (.nptr),
 none,
 none,
 none,
 none,
 none,
 none,
 none,
 none,
 some (.st (.pair (.int .i32) (.int .u32))),
 some (.st (.pair (.int .i32) (.int .u32))),
 none,
 none,
 none,
 none,
 some (.nif),
 some (.nif),
 none,
 none,
 none,
 none,
 none,
 none,
 some (.st (.pair (.str) (.pair (.str) (.nif)))),
 some (.st (.pair (.str) (.pair (.str) (.nif)))),
 none,
 none,
 some (.nptr),
 none,
 none,
 some (.nptr),
 some (.st (.str)),
 some (.st (.str)),
 some (.nptr),
 none,
 some (.nptr),
 none,
 some (.nptr),
 none,
 some (.nptr),
 none,
 some (.arr 256 (.u8)),
 some (.nptr),
 some (.arr 256 (.slice (.u8))),
 some (.st (.pair (.arr 256 (.slice (.u8))) (.slice (.str)))),
 some (.st (.pair (.arr 256 (.slice (.u8))) (.slice (.str)))),
 some (.nptr),
 some (.nptr),
 none,
 none,
 some (.nptr),
 none,
 some (.st (.pair (.nptr) (.str))),
 some (.st (.pair (.nptr) (.str))),
 some (.nptr),
 some (.slice (.nptr)),
 some (.st (.pair (.str) (.pair (.int .i64) (.pair (.str) (.pair (.nptr) (.slice (.nptr))))))),
 some (.st (.pair (.str) (.pair (.int .i64) (.pair (.str) (.pair (.nptr) (.slice (.nptr))))))),
 some (.st (.pair (.st (.pair (.str) (.pair (.int .i64) (.pair (.str) (.pair (.nptr) (.slice (.nptr))))))) (.pair (.int .i64) (.arr 256 (.u8))))),
 some (.st (.pair (.st (.pair (.str) (.pair (.int .i64) (.pair (.str) (.pair (.nptr) (.slice (.nptr))))))) (.pair (.int .i64) (.arr 256 (.u8))))),
 none,
 some (.nptr),
 none,
 some (.nptr),
 none,
 none,
 none,
 some (.arr 256 (.int .i64)),
 some (.st (.pair (.str) (.pair (.arr 256 (.int .i64)) (.slice (.int .i64))))),
 some (.st (.pair (.str) (.pair (.arr 256 (.int .i64)) (.slice (.int .i64))))),
 none,
 none,
 none,
 none,
 none,
 none,
 none,
 none,
 none,
 none,
 none,
 none,
 none,
 none,
 none,
 none,
 some (.slice (.u8)),
 some (.nptr),
 some (.nif),
 some (.nif),
 some (.nif),
 some (.nif),
 none,
 none,
 none,
 none,
 some (.st (.nif)),
 some (.st (.nif)),
 none]
def gl0 : List (List UInt8) := [[76, 69, 70, 84], [67, 69, 78, 84, 69, 82], [82, 73, 71, 72, 84]]
def gl1 : List (List UInt8) := [[119, 104, 105, 116, 101], [103, 114, 101, 101, 110], [98, 108, 117, 101], [99, 121, 97, 110], [114, 101, 100], [121, 101, 108, 108, 111, 119], [109, 97, 103, 101, 110, 116, 97]]
def gl2 : List (List (List UInt8)) := [[[38, 97, 109, 112, 59], [38]], [[38, 108, 116, 59], [60]], [[38, 103, 116, 59], [62]], [[38, 113, 117, 111, 116, 59], [34]], [[38, 97, 112, 111, 115, 59], [39]]]
def gl3 : List UInt8 := Go.Pinned.utf8FirstZ.map fun n => UInt8.ofNat n
def gl4 : List (UInt8 × UInt8) := [(128, 191), (160, 191), (128, 159), (144, 191), (128, 143), (0, 0), (0, 0), (0, 0), (0, 0), (0, 0), (0, 0), (0, 0), (0, 0), (0, 0), (0, 0), (0, 0)]
def gl5 : List Int := [1, 10, 100, 1000, 10000, 100000, 1000000, 10000000, 100000000, 1000000000, 10000000000, 100000000000, 1000000000000, 10000000000000, 100000000000000, 1000000000000000, 10000000000000000, 100000000000000000, 1000000000000000000, 10000000000000000000]
noncomputable def E : Env := ⟨Tryz.prog, tt, [(0, ⟨.arr 3 (.str), gl0⟩), (1, ⟨.arr 7 (.str), gl1⟩), (2, ⟨.arr 5 (.arr 2 (.str)), gl2⟩), (3, ⟨.arr 256 (.u8), gl3⟩), (4, ⟨.arr 16 (.st (.pair (.u8) (.u8))), gl4⟩), (5, ⟨.arr 20 (.int .u64), gl5⟩)], some 293, some (82, 131), [6], [], []⟩
set_option maxRecDepth 100000 in
theorem chk : chkAll E 0 E.ty = true := by kernel_rfl
theorem mixed : E.P.follows .mixedOrders = true := by kernel_rfl
end
end Go.Mo
end

section
/-
  What the functions of the program compute, on plain values. Printed by a program.
-/
namespace Go.Mo
open Go Go.W
noncomputable section
abbrev D5 := (List UInt8) × (UInt8 × Bool × Bool) × List UInt8
abbrev D1 := Int × (Int × Int) × (List UInt8) × UInt8 × (List UInt8) × List (List D5)
abbrev D6 := (List UInt8) × List UInt8
abbrev D2 := (List UInt8) × (List UInt8) × (List D6) × Int
abbrev D3 := Int × Int × Int × Int × (List UInt8) × (List UInt8) × Bool × Bool
abbrev D4 := (List UInt8) × Int × Int × Int × Int × UInt8 × Bool
abbrev D7 := (List UInt8) × (List UInt8) × UInt8 × Bool × Int × (List D4) × (List D1) × List D3
def ps_utf8_ValidString : List PK := [.k (.v (.str) [])]
def rs_utf8_ValidString : List Kd := [.v (.bool) []]
def utf8_ValidString (N : Nat) (x : List UInt8) : Option (Bool) := hand_utf8_ValidString N x
def ps_q11 : List PK := [.k (.v (.str) []), .k (.v (.int .i32) [])]
def rs_q11 : List Kd := [.v (.int .i64) []]
def q11 (N : Nat) (x : List UInt8 × Int) : Option (Int) :=
 jn (fun (v0 : Unit) =>
  some (-1))
 fun v1 =>
 fixN (fun v2 (v3 : Int × (List UInt8) × Int) =>
  cnd (nlt (toN v3.2.2) (nlen v3.2.1))
   (cnd (ieq (decR v3.2.1 (toN v3.2.2)) x.2)
    (some v3.1)
    (v2 (w64 (iadd v3.1 1), v3.2.1, ofN (nadd (toN v3.2.2) (decW v3.2.1 (toN v3.2.2))))))
   (v1 ())) N (0, x.1, ofN 0)
def ps_q12 : List PK := [.k (.v (.int .i32) [])]
def rs_q12 : List Kd := [.v (.int .i64) []]
def q12 (N : Nat) (x : Int) : Option (Int) :=
 cnd (ile 32 x)
  (cnd (ile x 126)
   (some (w64 (wr .i32 (isub x 32))))
   (bnd (q11 N (([32, 33, 34, 35, 36, 37, 38, 39, 40, 41, 42, 43, 44, 45, 46, 47, 48, 49, 50, 51, 52, 53, 54, 55, 56, 57, 58, 59, 60, 61, 62, 63, 64, 65, 66, 67, 68, 69, 70, 71, 72, 73, 74, 75, 76, 77, 78, 79, 80, 81, 82, 83, 84, 85, 86, 87, 88, 89, 90, 91, 92, 93, 94, 95, 96, 97, 98, 99, 100, 101, 102, 103, 104, 105, 106, 107, 108, 109, 110, 111, 112, 113, 114, 115, 116, 117, 118, 119, 120, 121, 122, 123, 124, 125, 126, 194, 161, 194, 162, 194, 163, 194, 164, 194, 165, 194, 166, 194, 167, 194, 169, 194, 171, 194, 174, 194, 176, 194, 183, 194, 187, 194, 189, 194, 191, 195, 128, 195, 129, 195, 130, 195, 131, 195, 132, 195, 133, 195, 134, 195, 135, 195, 136, 195, 137, 195, 138, 195, 139, 195, 140, 195, 141, 195, 142, 195, 143, 195, 145, 195, 146, 195, 147, 195, 148, 195, 149, 195, 150, 195, 152, 195, 153, 195, 154, 195, 155, 195, 156, 195, 159, 195, 160, 195, 161, 195, 162, 195, 163, 195, 164, 195, 165, 195, 166, 195, 167, 195, 168, 195, 169, 195, 170, 195, 171, 195, 172, 195, 173, 195, 174, 195, 175, 195, 177, 195, 178, 195, 179, 195, 180, 195, 181, 195, 182, 195, 184, 195, 185, 195, 186, 195, 187, 195, 188, 197, 146, 197, 147, 226, 128, 148, 226, 128, 152, 226, 128, 153, 226, 128, 156, 226, 128, 157, 226, 128, 162, 226, 128, 166, 226, 132, 162, 226, 153, 170] : List UInt8), x)) fun v0 =>
   some v0))
  (bnd (q11 N (([32, 33, 34, 35, 36, 37, 38, 39, 40, 41, 42, 43, 44, 45, 46, 47, 48, 49, 50, 51, 52, 53, 54, 55, 56, 57, 58, 59, 60, 61, 62, 63, 64, 65, 66, 67, 68, 69, 70, 71, 72, 73, 74, 75, 76, 77, 78, 79, 80, 81, 82, 83, 84, 85, 86, 87, 88, 89, 90, 91, 92, 93, 94, 95, 96, 97, 98, 99, 100, 101, 102, 103, 104, 105, 106, 107, 108, 109, 110, 111, 112, 113, 114, 115, 116, 117, 118, 119, 120, 121, 122, 123, 124, 125, 126, 194, 161, 194, 162, 194, 163, 194, 164, 194, 165, 194, 166, 194, 167, 194, 169, 194, 171, 194, 174, 194, 176, 194, 183, 194, 187, 194, 189, 194, 191, 195, 128, 195, 129, 195, 130, 195, 131, 195, 132, 195, 133, 195, 134, 195, 135, 195, 136, 195, 137, 195, 138, 195, 139, 195, 140, 195, 141, 195, 142, 195, 143, 195, 145, 195, 146, 195, 147, 195, 148, 195, 149, 195, 150, 195, 152, 195, 153, 195, 154, 195, 155, 195, 156, 195, 159, 195, 160, 195, 161, 195, 162, 195, 163, 195, 164, 195, 165, 195, 166, 195, 167, 195, 168, 195, 169, 195, 170, 195, 171, 195, 172, 195, 173, 195, 174, 195, 175, 195, 177, 195, 178, 195, 179, 195, 180, 195, 181, 195, 182, 195, 184, 195, 185, 195, 186, 195, 187, 195, 188, 197, 146, 197, 147, 226, 128, 148, 226, 128, 152, 226, 128, 153, 226, 128, 156, 226, 128, 157, 226, 128, 162, 226, 128, 166, 226, 132, 162, 226, 153, 170] : List UInt8), x)) fun v1 =>
  some v1)
def ps_q13 : List PK := [.k (.v (.str) [])]
def rs_q13 : List Kd := [.v (.bool) []]
def q13 (N : Nat) (x : List UInt8) : Option (Bool) :=
 bnd (utf8_ValidString N x) fun v0 =>
 cnd (bnot v0)
  (some false)
  (jn (fun (v1 : Unit) =>
   some true)
  fun v2 =>
  fixN (fun v3 (v4 : (List UInt8) × Int) =>
   cnd (nlt (toN v4.2) (nlen v4.1))
    (bnd (q12 N (decR v4.1 (toN v4.2))) fun v5 =>
    cnd (ilt v5 0)
     (some false)
     (v3 (v4.1, ofN (nadd (toN v4.2) (decW v4.1 (toN v4.2))))))
    (v2 ())) N (x, ofN 0))
def ps_q14 : List PK := [.k (.v (.str) [])]
def rs_q14 : List Kd := [.v (.bool) []]
def q14 (N : Nat) (x : List UInt8) : Option (Bool) :=
 cnd (ilt (len x) 1)
  (some false)
  (cnd (ilt 16 (len x))
   (some false)
   (grd (inb 0 (len x))
    (cnd (ilt (n8 (lget x (toN 0) 0)) (n8 65))
     (some false)
     (grd (inb 0 (len x))
      (cnd (ilt (n8 90) (n8 (lget x (toN 0) 0)))
       (some false)
       (jn (fun (v0 : Unit) =>
        some true)
       fun v1 =>
       fixN (fun v2 (v3 : Int) =>
        cnd (ilt v3 (len x))
         (jn (fun (v4 : Unit) =>
          v2 (w64 (iadd v3 1)))
         fun v5 =>
         grd (inb v3 (len x)) <|
         cnd (ilt (n8 (lget x (toN v3) 0)) (n8 65))
          (cnd (ilt (n8 (lget x (toN v3) 0)) (n8 48))
           (cnd (ine (n8 (lget x (toN v3) 0)) (n8 95))
            (cnd (ine (n8 (lget x (toN v3) 0)) (n8 45))
             (some false)
             (v5 ()))
            (v5 ()))
           (cnd (ilt (n8 57) (n8 (lget x (toN v3) 0)))
            (cnd (ine (n8 (lget x (toN v3) 0)) (n8 95))
             (cnd (ine (n8 (lget x (toN v3) 0)) (n8 45))
              (some false)
              (v5 ()))
             (v5 ()))
            (v5 ())))
          (cnd (ilt (n8 90) (n8 (lget x (toN v3) 0)))
           (cnd (ilt (n8 (lget x (toN v3) 0)) (n8 48))
            (cnd (ine (n8 (lget x (toN v3) 0)) (n8 95))
             (cnd (ine (n8 (lget x (toN v3) 0)) (n8 45))
              (some false)
              (v5 ()))
             (v5 ()))
            (cnd (ilt (n8 57) (n8 (lget x (toN v3) 0)))
             (cnd (ine (n8 (lget x (toN v3) 0)) (n8 95))
              (cnd (ine (n8 (lget x (toN v3) 0)) (n8 45))
               (some false)
               (v5 ()))
              (v5 ()))
             (v5 ())))
           (v5 ())))
         (v1 ())) N 0))))))
def ps_q15 : List PK := [.k (.v (.u8) [])]
def rs_q15 : List Kd := [.v (.st (.pair (.str) (.pair (.int .i64) (.pair (.int .i64) (.bool))))) []]
def q15 (N : Nat) (x : UInt8) : Option ((List UInt8) × Int × Int × Bool) :=
 grd (ieq (len (lrep 8 (([] : List UInt8), 0, 0, false))) (ofN 8)) <|
 cnd (ile 8 (w64 (n8 x)))
  (some (([] : List UInt8), 0, 0, false))
  (grd (inb (n8 x) (ofN 8))
   (grd (ilt (n8 x) (len ([(([] : List UInt8), 0, 0, false), (([50, 51, 46, 57, 55, 54] : List UInt8), 5005, 24, false), (([50, 52] : List UInt8), 5000, 24, false), (([50, 53] : List UInt8), 4800, 25, false), (([50, 57, 46, 57, 55] : List UInt8), 4004, 30, true), (([51, 48] : List UInt8), 4000, 30, false), (([53, 48] : List UInt8), 2400, 50, false), (([53, 57, 46, 57, 52] : List UInt8), 2002, 60, true)] : List ((List UInt8) × Int × Int × Bool))))
    (some (lget ([(([] : List UInt8), 0, 0, false), (([50, 51, 46, 57, 55, 54] : List UInt8), 5005, 24, false), (([50, 52] : List UInt8), 5000, 24, false), (([50, 53] : List UInt8), 4800, 25, false), (([50, 57, 46, 57, 55] : List UInt8), 4004, 30, true), (([51, 48] : List UInt8), 4000, 30, false), (([53, 48] : List UInt8), 2400, 50, false), (([53, 57, 46, 57, 52] : List UInt8), 2002, 60, true)] : List ((List UInt8) × Int × Int × Bool)) (toN (n8 x)) ([], (0, (0, false)))))))
def ps_q16 : List PK := [.k (.v (.u8) [])]
def rs_q16 : List Kd := [.v (.bool) []]
def q16 (N : Nat) (x : UInt8) : Option (Bool) :=
 bnd (q15 N x) fun v0 =>
 some (ilt 0 v0.2.1)
def ps_q17 : List PK := [.k (.v (.u8) [])]
def rs_q17 : List Kd := [.v (.bool) []]
def q17 (N : Nat) (x : UInt8) : Option (Bool) :=
 bnd (q15 N x) fun v0 =>
 some v0.2.2.2
def ps_q18 : List PK := [.k (.v (.u8) []), .k (.v (.bool) [])]
def rs_q18 : List Kd := [.v (.int .i64) []]
def q18 (N : Nat) (x : UInt8 × Bool) : Option (Int) :=
 bnd (q16 N x.1) fun v0 =>
 cnd (bnot v0)
  (some 13)
  (cnd x.2
   (bnd (q17 N x.1) fun v1 =>
   cnd (bnot v1)
    (some 13)
    (some 0))
   (some 0))
def ps_q19 : List PK := [.k (.v Y1 [])]
def rs_q19 : List Kd := [.v (.int .i64) []]
def q19 (N : Nat) (x : D7) : Option (Int) :=
 jn (fun (v0 : Unit) =>
  bnd (q18 N (x.2.2.1, x.2.2.2.1)) fun v1 =>
  cnd (ine v1 0)
   (some v1)
   (cnd (ilt x.2.2.2.2.1 0)
    (some 2)
    (cnd (ilt 1099511627776 x.2.2.2.2.1)
     (some 2)
     (some 0))))
 fun v2 =>
 bnd (q13 N x.1) fun v3 =>
 cnd (bnot v3)
  (some 10)
  (cnd (ilt 400 (len x.1))
   (some 9)
   (cnd (sne x.2.1 ([] : List UInt8))
    (bnd (q14 N x.2.1) fun v4 =>
    cnd (bnot v4)
     (some 5)
     (v2 ()))
    (v2 ())))
def ps_q20 : List PK := [.k (.v (.int .i64) []), .k (.v (.int .i64) []), .k (.v (.int .i64) [])]
def rs_q20 : List Kd := [.v (.bool) []]
def q20 (N : Nat) (x : Int × Int × Int) : Option (Bool) :=
 cnd (ile x.2.1 x.1)
  (some (ile x.1 x.2.2))
  (some false)
def ps_q21 : List PK := [.k (.v Y4 [])]
def rs_q21 : List Kd := [.v (.int .i64) []]
def q21 (N : Nat) (x : D4) : Option (Int) :=
 bnd (q14 N x.1) fun v0 =>
 cnd (bnot v0)
  (some 5)
  (bnd (q20 N (x.2.1, 0, 14)) fun v1 =>
  cnd (bnot v1)
   (some 2)
   (bnd (q20 N (x.2.2.1, 1, w64 (isub 15 x.2.1))) fun v2 =>
   cnd (bnot v2)
    (some 2)
    (bnd (q20 N (x.2.2.2.1, 0, 31)) fun v3 =>
    cnd (bnot v3)
     (some 2)
     (bnd (q20 N (x.2.2.2.2.1, 1, w64 (isub 32 x.2.2.2.1))) fun v4 =>
     cnd (bnot v4)
      (some 2)
      (cnd (ilt (n8 x.2.2.2.2.2.1) (n8 1))
       (some 3)
       (cnd (ilt (n8 3) (n8 x.2.2.2.2.2.1))
        (some 3)
        (some 0)))))))
def ps_q22 : List PK := [.k (.v (.slice Y4) [])]
def rs_q22 : List Kd := [.v (.int .i64) []]
def q22 (N : Nat) (x : List D4) : Option (Int) :=
 cnd (ilt 16 (len x))
  (some 9)
  (jn (fun (v0 : Unit) =>
   some 0)
  fun v1 =>
  fixN (fun v2 (v3 : Int) =>
   cnd (ilt v3 (len x))
    (grd (inb v3 (len x))
     (bnd (q21 N (lget x (toN v3) ([], (0, (0, (0, (0, (0, false)))))))) fun v4 =>
     cnd (ine v4 0)
      (some v4)
      (jn (fun (v5 : Unit) =>
       cnd (ilt 0 v3)
        (grd (inb (w64 (isub v3 1)) (len x))
         (cnd (slt (lget x (toN v3) ([], (0, (0, (0, (0, (0, false))))))).1 (lget x (toN (w64 (isub v3 1))) ([], (0, (0, (0, (0, (0, false))))))).1)
          (some 8)
          (v2 (w64 (iadd v3 1)))))
        (v2 (w64 (iadd v3 1))))
      fun v6 =>
      cnd (ilt 0 v3)
       (grd (inb (w64 (isub v3 1)) (len x))
        (cnd (seq (lget x (toN v3) ([], (0, (0, (0, (0, (0, false))))))).1 (lget x (toN (w64 (isub v3 1))) ([], (0, (0, (0, (0, (0, false))))))).1)
         (some 7)
         (v6 ())))
       (v6 ()))))
    (v1 ())) N 0)
def ps_q23 : List PK := []
def rs_q23 : List Kd := [.v Y4 []]
def q23 (N : Nat) (x : Unit) : Option D4 :=
 some (([] : List UInt8), 11, 4, 0, 32, 2, true)
def ps_q24 : List PK := [.k (.v (.slice Y4) []), .k (.v (.str) [])]
def rs_q24 : List Kd := [.v Y4 [], .v (.bool) []]
def q24 (N : Nat) (x : (List D4) × List UInt8) : Option (D4 × Bool) :=
 cnd (seq x.2 ([] : List UInt8))
  (bnd (q23 N ()) fun v0 =>
  some (v0, true))
  (jn (fun (v1 : Unit) =>
   some ((([] : List UInt8), 0, 0, 0, 0, 0, false), false))
  fun v2 =>
  fixN (fun v3 (v4 : Int) =>
   cnd (ilt v4 (len x.1))
    (grd (inb v4 (len x.1))
     (cnd (seq (lget x.1 (toN v4) ([], (0, (0, (0, (0, (0, false))))))).1 x.2)
      (some (lget x.1 (toN v4) ([], (0, (0, (0, (0, (0, false)))))), true))
      (v3 (w64 (iadd v4 1)))))
    (v2 ())) N 0)
def ps_q25 : List PK := [.k (.v (.st (.pair (.int .i64) (.int .i64))) [])]
def rs_q25 : List Kd := [.v (.bool) []]
def q25 (N : Nat) (x : Int × Int) : Option (Bool) :=
 cnd (ile 0 x.1)
  (cnd (ilt x.1 x.2)
   (some (ile x.2 5184000))
   (some false))
  (some false)
def ps_q26 : List PK := []
def rs_q26 : List Kd := [.v (.slice (.str)) [0]]
def q26 (N : Nat) (x : Unit) : Option (List (List UInt8)) :=
 some ([([68, 73, 65, 76, 79, 71, 85, 69] : List UInt8), ([83, 79, 85, 78, 68] : List UInt8), ([84, 73, 84, 76, 69] : List UInt8), ([77, 85, 83, 73, 67] : List UInt8)] : List (List UInt8))
def ps_q27 : List PK := [.k (.v (.u8) [])]
def rs_q27 : List Kd := [.v (.str) []]
def q27 (N : Nat) (x : UInt8) : Option (List UInt8) :=
 cnd (ilt (n8 x) (n8 1))
  (some ([] : List UInt8))
  (cnd (ilt (n8 4) (n8 x))
   (some ([] : List UInt8))
   (bnd (q26 N ()) fun v0 =>
   grd (inb (n8 (b8 (isub (n8 x) (n8 1)))) (len v0)) <|
   some (lget v0 (toN (n8 (b8 (isub (n8 x) (n8 1))))) [])))
def ps_q28 : List PK := [.k (.v (.st (.pair (.u8) (.pair (.bool) (.bool)))) [])]
def rs_q28 : List Kd := [.v (.bool) []]
def q28 (N : Nat) (x : UInt8 × Bool × Bool) : Option (Bool) :=
 some (ile (n8 x.1) (n8 6))
def ps_q29 : List PK := [.k (.v Y5 []), .k (.v Y5 [])]
def rs_q29 : List Kd := [.v (.bool) []]
def q29 (N : Nat) (x : D5 × (List UInt8) × (UInt8 × Bool × Bool) × List UInt8) : Option (Bool) :=
 cnd (band (ieq (n8 x.1.2.1.1) (n8 x.2.2.1.1)) (band (beqb x.1.2.1.2.1 x.2.2.1.2.1) (beqb x.1.2.1.2.2 x.2.2.1.2.2)))
  (cnd (seq x.1.2.2 ([] : List UInt8))
   (some (seq x.2.2.2 ([] : List UInt8)))
   (some false))
  (some false)
def ps_q30 : List PK := [.k (.v (.st (.slice Y5)) [])]
def rs_q30 : List Kd := [.v (.int .i64) []]
def q30 (N : Nat) (x : List D5) : Option (Int) :=
 cnd (ilt 16 (len x))
  (some 9)
  (jn (fun (v0 : Unit) =>
   some 0)
  fun v1 =>
  fixN (fun v2 (v3 : Int) =>
   cnd (ilt v3 (len x))
    (grd (inb v3 (len x))
     (bnd (q13 N (lget x (toN v3) ([], ((0, (false, false)), []))).1) fun v4 =>
     cnd (bnot v4)
      (some 10)
      (cnd (seq (lget x (toN v3) ([], ((0, (false, false)), []))).1 ([] : List UInt8))
       (some 4)
       (bnd (q28 N (lget x (toN v3) ([], ((0, (false, false)), []))).2.1) fun v5 =>
       cnd (bnot v5)
        (some 12)
        (bnd (q13 N (lget x (toN v3) ([], ((0, (false, false)), []))).2.2) fun v6 =>
        cnd (bnot v6)
         (some 10)
         (cnd (ilt 0 v3)
          (grd (inb (w64 (isub v3 1)) (len x))
           (bnd (q29 N (lget x (toN (w64 (isub v3 1))) ([], ((0, (false, false)), [])), lget x (toN v3) ([], ((0, (false, false)), [])))) fun v7 =>
           cnd v7
            (some 8)
            (v2 (w64 (iadd v3 1)))))
          (v2 (w64 (iadd v3 1)))))))))
    (v1 ())) N 0)
def ps_strings_Builder_copyCheck : List PK := [.k (.b 131 Y9 [1])]
def rs_strings_Builder_copyCheck : List Kd := []
def strings_Builder_copyCheck (N : Nat) (x : Unit × List UInt8) : Option (Unit × List UInt8) := hand_strings_Builder_copyCheck N x
def ps_q31 : List PK := [.k (.b 131 Y9 [1]), .k (.v (.str) [])]
def rs_q31 : List Kd := [.v (.int .i64) [], .v (.nif) []]
def q31 (N : Nat) (x : (Unit × List UInt8) × List UInt8) : Option (Int × Bool × Unit × List UInt8) :=
 bnd (strings_Builder_copyCheck N ((), x.1.2)) fun v0 =>
 grd (room (iadd (len v0.2) (len x.2)) 1) <|
 some (len x.2, false, (), lapp v0.2 x.2)
def ps_q32 : List PK := [.k (.v (.st (.slice Y5)) [])]
def rs_q32 : List Kd := [.v (.str) []]
def q32 (N : Nat) (x : List D5) : Option (List UInt8) :=
 jn (fun (v0 : Unit × List UInt8) =>
  some v0.2)
 fun v1 =>
 fixN (fun v2 (v3 : Int × Unit × List UInt8) =>
  cnd (ilt v3.1 (len x))
   (grd (inb v3.1 (len x))
    (bnd (q31 N (((), v3.2.2), (lget x (toN v3.1) ([], ((0, (false, false)), []))).1)) fun v4 =>
    v2 (w64 (iadd v3.1 1), (), v4.2.2.2)))
   (v1 ((), v3.2.2))) N (0, (), ([] : List UInt8))
def ps_strings_Contains : List PK := [.k (.v (.str) []), .k (.v (.str) [])]
def rs_strings_Contains : List Kd := [.v (.bool) []]
def strings_Contains (N : Nat) (x : List UInt8 × List UInt8) : Option (Bool) := hand_strings_Contains N x
def ps_q33 : List PK := [.k (.v (.str) [])]
def rs_q33 : List Kd := [.v (.int .i64) []]
def q33 (N : Nat) (x : List UInt8) : Option (Int) :=
 jn (fun (v0 : Int) =>
  some v0)
 fun v1 =>
 fixN (fun v2 (v3 : Int × (List UInt8) × Int) =>
  cnd (nlt (toN v3.2.2) (nlen v3.2.1))
   (v2 (w64 (iadd v3.1 1), v3.2.1, ofN (nadd (toN v3.2.2) (decW v3.2.1 (toN v3.2.2)))))
   (v1 v3.1)) N (0, x, ofN 0)
def ps_q34 : List PK := [.k (.v (.str) [])]
def rs_q34 : List Kd := [.v (.int .i64) []]
def q34 (N : Nat) (x : List UInt8) : Option (Int) :=
 bnd (q13 N x) fun v0 =>
 cnd (bnot v0)
  (some (-1))
  (bnd (q33 N x) fun v1 =>
  some v1)
def ps_q35 : List PK := [.k (.v (.st (.slice Y5)) [])]
def rs_q35 : List Kd := [.v (.int .i64) []]
def q35 (N : Nat) (x : List D5) : Option (Int) :=
 jn (fun (v0 : Int) =>
  some v0)
 fun v1 =>
 fixN (fun v2 (v3 : Int × Int) =>
  cnd (ilt v3.2 (len x))
   (grd (inb v3.2 (len x))
    (bnd (q34 N (lget x (toN v3.2) ([], ((0, (false, false)), []))).1) fun v4 =>
    cnd (ilt v4 0)
     (some (-1))
     (v2 (w64 (iadd v3.1 v4), w64 (iadd v3.2 1)))))
   (v1 v3.1)) N (0, 0)
def ps_q36 : List PK := [.k (.v (.st (.slice Y5)) [])]
def rs_q36 : List Kd := [.v (.int .i64) []]
def q36 (N : Nat) (x : List D5) : Option (Int) :=
 bnd (q30 N x) fun v0 =>
 cnd (ine v0 0)
  (some v0)
  (bnd (q32 N x) fun v1 =>
  cnd (seq v1 ([] : List UInt8))
   (some 4)
   (grd (inb 0 (len v1))
    (cnd (ieq (n8 (lget v1 (toN 0) 0)) (n8 32))
     (some 4)
     (grd (inb (w64 (isub (len v1) 1)) (len v1))
      (cnd (ieq (n8 (lget v1 (toN (w64 (isub (len v1) 1))) 0)) (n8 32))
       (some 4)
       (bnd (strings_Contains N (v1, ([32, 32] : List UInt8))) fun v2 =>
       cnd v2
        (some 4)
        (bnd (q35 N x) fun v3 =>
        cnd (ilt 32 v3)
         (some 11)
         (some 0))))))))
def ps_q37 : List PK := [.k (.v Y2 [])]
def rs_q37 : List Kd := [.v (.slice (.int .i64)) [0]]
def q37 (N : Nat) (x : D1) : Option (List Int) :=
 jn (fun (v0 : List Int) =>
  some v0)
 fun v1 =>
 fixN (fun v2 (v3 : (List Int) × Int) =>
  cnd (ilt v3.2 (len x.2.2.2.2.2))
   (grd (inb v3.2 (len x.2.2.2.2.2))
    (bnd (q35 N (lget x.2.2.2.2.2 (toN v3.2) [])) fun v4 =>
    grd (room (iadd (len v3.1) (len ([v4] : List Int))) 8) <|
    v2 (lapp v3.1 ([v4] : List Int), w64 (iadd v3.2 1))))
   (v1 v3.1)) N (([] : List Int), 0)
def ps_q38 : List PK := [.k (.v Y4 [])]
def rs_q38 : List Kd := [.v (.bool) []]
def q38 (N : Nat) (x : D4) : Option (Bool) :=
 bnd (q23 N ()) fun v0 =>
 cnd (band (seq x.1 v0.1) (band (ieq x.2.1 v0.2.1) (band (ieq x.2.2.1 v0.2.2.1) (band (ieq x.2.2.2.1 v0.2.2.2.1) (band (ieq x.2.2.2.2.1 v0.2.2.2.2.1) (band (ieq (n8 x.2.2.2.2.2.1) (n8 v0.2.2.2.2.2.1)) (beqb x.2.2.2.2.2.2 v0.2.2.2.2.2.2)))))))
  (some true)
  (bnd (q21 N x) fun v1 =>
  some (ieq v1 0))
def ps_q39 : List PK := [.k (.v Y4 []), .k (.v (.slice (.int .i64)) [])]
def rs_q39 : List Kd := [.v (.slice Y7) [0], .v (.int .i64) []]
def q39 (N : Nat) (x : D4 × List Int) : Option ((List (Int × Int × Int)) × Int) :=
 bnd (q38 N x.1) fun v0 =>
 cnd (bnot v0)
  (some (([] : List (Int × Int × Int)), 1))
  (cnd (ilt x.1.2.2.1 (len x.2))
   (some (([] : List (Int × Int × Int)), 9))
   (jn (fun (v1 : Int) =>
    jn (fun (v2 : List (Int × Int × Int)) =>
     some (v2, 0))
    fun v3 =>
    fixN (fun v4 (v5 : (List (Int × Int × Int)) × Int) =>
     cnd (ilt v5.2 (len x.2))
      (grd (inb v5.2 (len x.2))
       (cnd (ilt (lget x.2 (toN v5.2) 0) 0)
        (some (([] : List (Int × Int × Int)), 2))
        (cnd (ilt x.1.2.2.2.2.1 (lget x.2 (toN v5.2) 0))
         (some (([] : List (Int × Int × Int)), 11))
         (cnd (ieq (n8 x.1.2.2.2.2.2.1) (n8 3))
          (grd (room (iadd (len v5.1) (len ([(w64 (iadd v1 v5.2), w64 (iadd x.1.2.2.2.1 (w64 (isub x.1.2.2.2.2.1 (lget x.2 (toN v5.2) 0)))), lget x.2 (toN v5.2) 0)] : List (Int × Int × Int)))) 24)
           (v4 (lapp v5.1 ([(w64 (iadd v1 v5.2), w64 (iadd x.1.2.2.2.1 (w64 (isub x.1.2.2.2.2.1 (lget x.2 (toN v5.2) 0)))), lget x.2 (toN v5.2) 0)] : List (Int × Int × Int)), w64 (iadd v5.2 1))))
          (cnd (ieq (n8 x.1.2.2.2.2.2.1) (n8 2))
           (grd (room (iadd (len v5.1) (len ([(w64 (iadd v1 v5.2), w64 (iadd x.1.2.2.2.1 (w64 (idiv (w64 (isub x.1.2.2.2.2.1 (lget x.2 (toN v5.2) 0))) 2))), lget x.2 (toN v5.2) 0)] : List (Int × Int × Int)))) 24)
            (v4 (lapp v5.1 ([(w64 (iadd v1 v5.2), w64 (iadd x.1.2.2.2.1 (w64 (idiv (w64 (isub x.1.2.2.2.2.1 (lget x.2 (toN v5.2) 0))) 2))), lget x.2 (toN v5.2) 0)] : List (Int × Int × Int)), w64 (iadd v5.2 1))))
           (grd (room (iadd (len v5.1) (len ([(w64 (iadd v1 v5.2), x.1.2.2.2.1, lget x.2 (toN v5.2) 0)] : List (Int × Int × Int)))) 24)
            (v4 (lapp v5.1 ([(w64 (iadd v1 v5.2), x.1.2.2.2.1, lget x.2 (toN v5.2) 0)] : List (Int × Int × Int)), w64 (iadd v5.2 1)))))))))
      (v3 v5.1)) N (([] : List (Int × Int × Int)), 0))
   fun v6 =>
   cnd x.1.2.2.2.2.2.2
    (v6 (w64 (iadd x.1.2.1 (w64 (isub x.1.2.2.1 (len x.2))))))
    (v6 x.1.2.1)))
def ps_q40 : List PK := [.k (.v Y2 []), .k (.v (.slice Y4) [])]
def rs_q40 : List Kd := [.v (.int .i64) []]
def q40 (N : Nat) (x : D1 × List D4) : Option (Int) :=
 bnd (q24 N (x.2, x.1.2.2.1)) fun v0 =>
 cnd (ilt x.1.1 1)
  (some 2)
  (cnd (ilt 1099511627776 x.1.1)
   (some 2)
   (bnd (q25 N x.1.2.1) fun v1 =>
   cnd (bnot v1)
    (some 2)
    (cnd (bnot v0.2)
     (some 6)
     (bnd (q27 N x.1.2.2.2.1) fun v2 =>
     cnd (seq v2 ([] : List UInt8))
      (some 3)
      (jn (fun (v3 : Bool) =>
       cnd v3
        (some 5)
        (cnd (ieq (len x.1.2.2.2.2.2) 0)
         (some 9)
         (cnd (ilt 4 (len x.1.2.2.2.2.2))
          (some 9)
          (jn (fun (v4 : Unit) =>
           bnd (q37 N x.1) fun v5 =>
           bnd (q39 N (v0.1, v5)) fun v6 =>
           some v6.2)
          fun v7 =>
          fixN (fun v8 (v9 : Int) =>
           cnd (ilt v9 (len x.1.2.2.2.2.2))
            (grd (inb v9 (len x.1.2.2.2.2.2))
             (bnd (q36 N (lget x.1.2.2.2.2.2 (toN v9) [])) fun v10 =>
             cnd (ine v10 0)
              (some v10)
              (v8 (w64 (iadd v9 1)))))
            (v7 ())) N 0))))
      fun v11 =>
      cnd (sne x.1.2.2.2.2.1 ([] : List UInt8))
       (bnd (q14 N x.1.2.2.2.2.1) fun v12 =>
       v11 (bnot v12))
       (v11 false))))))
def ps_q41 : List PK := [.k (.v (.int .i64) [])]
def rs_q41 : List Kd := [.v (.bool) []]
def q41 (N : Nat) (x : Int) : Option (Bool) :=
 some (ine x x)
def ps_q42 : List PK := [.k (.v (.int .i64) []), .k (.v (.int .i64) [])]
def rs_q42 : List Kd := [.v (.int .i64) []]
def q42 (N : Nat) (x : Int × Int) : Option (Int) :=
 bnd (q41 N x.1) fun v0 =>
 bnd (q41 N x.2) fun v1 =>
 cnd v0
  (cnd v1
   (some 0)
   (some (-1)))
  (cnd v1
   (some 1)
   (cnd (ilt x.1 x.2)
    (some (-1))
    (cnd (ilt x.2 x.1)
     (some 1)
     (some 0))))
def ps_q43 : List PK := [.k (.v (.slice (.int .i64)) [])]
def rs_q43 : List Kd := [.v (.int .i64) []]
def q43 (N : Nat) (x : List Int) : Option (Int) :=
 jn (fun (v0 : Unit) =>
  some 0)
 fun v1 =>
 fixN (fun v2 (v3 : Int) =>
  cnd (ilt v3 (len x))
   (grd (inb v3 (len x))
    (cnd (ine (lget x (toN v3) 0) 0)
     (some (lget x (toN v3) 0))
     (v2 (w64 (iadd v3 1)))))
   (v1 ())) N 0
def ps_q44 : List PK := [.k (.v Y2 []), .k (.v Y2 [])]
def rs_q44 : List Kd := [.v (.bool) []]
def q44 (N : Nat) (x : D1 × Int × (Int × Int) × (List UInt8) × UInt8 × (List UInt8) × List (List D5)) : Option (Bool) :=
 bnd (q42 N (x.1.2.1.1, x.2.2.1.1)) fun v0 =>
 bnd (q42 N (x.1.1, x.2.1)) fun v1 =>
 bnd (q43 N ([v0, v1] : List Int)) fun v2 =>
 some (ilt v2 0)
def ps_q45 : List PK := [.k (.v Y2 [])]
def rs_q45 : List Kd := [.v (.int .i64) []]
def q45 (N : Nat) (x : D1) : Option (Int) :=
 jn (fun (v0 : Int) =>
  some v0)
 fun v1 =>
 bnd (q37 N x) fun v2 =>
 fixN (fun v3 (v4 : Int × Int) =>
  cnd (ilt v4.2 (len v2))
   (grd (inb v4.2 (len v2))
    (cnd (ilt (lget v2 (toN v4.2) 0) 0)
     (some (-1))
     (v3 (w64 (iadd v4.1 (lget v2 (toN v4.2) 0)), w64 (iadd v4.2 1)))))
   (v1 v4.1)) N (imax (w64 (isub (len x.2.2.2.2.2) 1)) 0, 0)
def ps_q46 : List PK := [.k (.v Y1 []), .k (.v Y6 []), .k (.m (.int .i64) (.int .i64))]
def rs_q46 : List Kd := [.v (.int .i64) []]
def q46 (N : Nat) (x : D7 × D3 × List (Int × Int)) : Option (Int × List (Int × Int)) :=
 cnd (ilt x.2.1.2.1 1)
  (some (2, x.2.2))
  (cnd (ilt x.1.2.2.2.2.1 x.2.1.2.1)
   (some (2, x.2.2))
   (cnd x.2.1.2.2.2.2.2.2.2
    (cnd (ine x.2.1.2.2.1 0)
     (some (2, x.2.2))
     (cnd (ine x.2.1.2.2.2.1 0)
      (some (2, x.2.2))
      (some (0, x.2.2))))
    (cnd (bnot (mhas ieq x.2.2 x.2.1.2.1))
     (some (6, x.2.2))
     (cnd (ilt x.2.1.2.2.1 0)
      (some (2, x.2.2))
      (cnd (ile x.2.1.2.2.2.1 x.2.1.2.2.1)
       (some (2, x.2.2))
       (grd (inb (mget ieq 0 x.2.2 x.2.1.2.1) (len x.1.2.2.2.2.2.2.1))
        (bnd (q45 N (lget x.1.2.2.2.2.2.2.1 (toN (mget ieq 0 x.2.2 x.2.1.2.1)) (0, ((0, 0), ([], (0, ([], []))))))) fun v0 =>
        cnd (ilt v0 x.2.1.2.2.2.1)
         (some (2, x.2.2))
         (some (0, x.2.2)))))))))
def ps_q47 : List PK := [.k (.v Y1 []), .k (.m (.int .i64) (.int .i64))]
def rs_q47 : List Kd := [.v (.int .i64) []]
def q47 (N : Nat) (x : D7 × List (Int × Int)) : Option (Int × List (Int × Int)) :=
 cnd (ilt 64 (len x.1.2.2.2.2.2.2.2))
  (some (9, x.2))
  (jn (fun (v0 : List (Int × Int)) =>
   some (0, v0))
  fun v1 =>
  fixN (fun v2 (v3 : Int × List (Int × Int)) =>
   cnd (ilt v3.1 (len x.1.2.2.2.2.2.2.2))
    (grd (inb v3.1 (len x.1.2.2.2.2.2.2.2))
     (jn (fun (v4 : Unit) =>
      bnd (q46 N (x.1, lget x.1.2.2.2.2.2.2.2 (toN v3.1) (0, (0, (0, (0, ([], ([], (false, false))))))), v3.2)) fun v5 =>
      cnd (ine v5.1 0)
       (some v5)
       (bnd (q14 N (lget x.1.2.2.2.2.2.2.2 (toN v3.1) (0, (0, (0, (0, ([], ([], (false, false)))))))).2.2.2.2.1) fun v6 =>
       cnd (bnot v6)
        (some (5, v5.2))
        (bnd (q13 N (lget x.1.2.2.2.2.2.2.2 (toN v3.1) (0, (0, (0, (0, ([], ([], (false, false)))))))).2.2.2.2.2.1) fun v7 =>
        cnd (bnot v7)
         (some (10, v5.2))
         (cnd (seq (lget x.1.2.2.2.2.2.2.2 (toN v3.1) (0, (0, (0, (0, ([], ([], (false, false)))))))).2.2.2.2.2.1 ([] : List UInt8))
          (some (4, v5.2))
          (cnd (ilt 400 (len (lget x.1.2.2.2.2.2.2.2 (toN v3.1) (0, (0, (0, (0, ([], ([], (false, false)))))))).2.2.2.2.2.1))
           (some (9, v5.2))
           (v2 (w64 (iadd v3.1 1), v5.2)))))))
     fun v8 =>
     cnd (ilt (lget x.1.2.2.2.2.2.2.2 (toN v3.1) (0, (0, (0, (0, ([], ([], (false, false)))))))).1 1)
      (some (2, v3.2))
      (cnd (ilt x.1.2.2.2.2.1 (lget x.1.2.2.2.2.2.2.2 (toN v3.1) (0, (0, (0, (0, ([], ([], (false, false)))))))).1)
       (some (2, v3.2))
       (cnd (ilt 0 v3.1)
        (grd (inb (w64 (isub v3.1 1)) (len x.1.2.2.2.2.2.2.2))
         (cnd (ile (lget x.1.2.2.2.2.2.2.2 (toN v3.1) (0, (0, (0, (0, ([], ([], (false, false)))))))).1 (lget x.1.2.2.2.2.2.2.2 (toN (w64 (isub v3.1 1))) (0, (0, (0, (0, ([], ([], (false, false)))))))).1)
          (some (8, v3.2))
          (cnd (mhas ieq v3.2 (lget x.1.2.2.2.2.2.2.2 (toN v3.1) (0, (0, (0, (0, ([], ([], (false, false)))))))).1)
           (some (7, v3.2))
           (v8 ()))))
        (cnd (mhas ieq v3.2 (lget x.1.2.2.2.2.2.2.2 (toN v3.1) (0, (0, (0, (0, ([], ([], (false, false)))))))).1)
         (some (7, v3.2))
         (v8 ()))))))
    (v1 v3.2)) N (0, x.2))
def ps_q48 : List PK := [.k (.v Y1 [])]
def rs_q48 : List Kd := [.v (.int .i64) []]
def q48 (N : Nat) (x : D7) : Option (Int) :=
 bnd (q19 N x) fun v0 =>
 cnd (ine v0 0)
  (some v0)
  (bnd (q22 N x.2.2.2.2.2.1) fun v1 =>
  cnd (ine v1 0)
   (some v1)
   (cnd (ilt 400 (len x.2.2.2.2.2.2.1))
    (some 9)
    (jn (fun (v2 : List (Int × Int)) =>
     bnd (q47 N (x, v2)) fun v3 =>
     some v3.1)
    fun v4 =>
    fixN (fun v5 (v6 : Int × List (Int × Int)) =>
     cnd (ilt v6.1 (len x.2.2.2.2.2.2.1))
      (grd (inb v6.1 (len x.2.2.2.2.2.2.1))
       (bnd (q40 N (lget x.2.2.2.2.2.2.1 (toN v6.1) (0, ((0, 0), ([], (0, ([], []))))), x.2.2.2.2.2.1)) fun v7 =>
       cnd (ine v7 0)
        (some v7)
        (cnd (ilt x.2.2.2.2.1 (lget x.2.2.2.2.2.2.1 (toN v6.1) (0, ((0, 0), ([], (0, ([], [])))))).1)
         (some 2)
         (cnd (ilt 0 v6.1)
          (grd (inb (w64 (isub v6.1 1)) (len x.2.2.2.2.2.2.1))
           (bnd (q44 N (lget x.2.2.2.2.2.2.1 (toN (w64 (isub v6.1 1))) (0, ((0, 0), ([], (0, ([], []))))), lget x.2.2.2.2.2.2.1 (toN v6.1) (0, ((0, 0), ([], (0, ([], []))))))) fun v8 =>
           cnd (bnot v8)
            (some 8)
            (cnd (mhas ieq v6.2 (lget x.2.2.2.2.2.2.1 (toN v6.1) (0, ((0, 0), ([], (0, ([], [])))))).1)
             (some 7)
             (v5 (w64 (iadd v6.1 1), mput ieq v6.2 (lget x.2.2.2.2.2.2.1 (toN v6.1) (0, ((0, 0), ([], (0, ([], [])))))).1 v6.1)))))
          (cnd (mhas ieq v6.2 (lget x.2.2.2.2.2.2.1 (toN v6.1) (0, ((0, 0), ([], (0, ([], [])))))).1)
           (some 7)
           (v5 (w64 (iadd v6.1 1), mput ieq v6.2 (lget x.2.2.2.2.2.2.1 (toN v6.1) (0, ((0, 0), ([], (0, ([], [])))))).1 v6.1)))))))
      (v4 v6.2)) N (0, ([] : List (Int × Int))))))
def ps_q49 : List PK := [.k (.v (.u8) [])]
def rs_q49 : List Kd := [.v (.str) []]
def q49 (N : Nat) (x : UInt8) : Option (List UInt8) :=
 bnd (q15 N x) fun v0 =>
 some v0.1
def ps_q50 : List PK := [.k (.v (.str) []), .k (.v (.bool) [])]
def rs_q50 : List Kd := [.v (.st (.pair (.str) (.str))) []]
def q50 (N : Nat) (x : List UInt8 × Bool) : Option D6 :=
 cnd x.2
  (some (x.1, ([49] : List UInt8)))
  (some (x.1, ([] : List UInt8)))
def ps_istrconv_FormatInt : List PK := [.k (.v (.int .i64) []), .k (.v (.int .i64) [])]
def rs_istrconv_FormatInt : List Kd := [.v (.str) []]
def istrconv_FormatInt (N : Nat) (x : Int × Int) : Option (List UInt8) := hand_istrconv_FormatInt N x
def ps_q51 : List PK := [.k (.v (.int .i64) []), .k (.v (.int .i64) [])]
def rs_q51 : List Kd := [.v (.str) []]
def q51 (N : Nat) (x : Int × Int) : Option (List UInt8) :=
 bnd (istrconv_FormatInt N x) fun v0 =>
 some v0
def ps_q52 : List PK := [.k (.v (.int .i64) [])]
def rs_q52 : List Kd := [.v (.str) []]
def q52 (N : Nat) (x : Int) : Option (List UInt8) :=
 bnd (q51 N (x, 10)) fun v0 =>
 some v0
def ps_q53 : List PK := [.k (.v (.str) []), .k (.v (.int .i64) [])]
def rs_q53 : List Kd := [.v (.st (.pair (.str) (.str))) []]
def q53 (N : Nat) (x : List UInt8 × Int) : Option D6 :=
 bnd (q52 N x.2) fun v0 =>
 some (x.1, v0)
def ps_q54 : List PK := [.k (.b 77 (.slice Y3) [0]), .k (.v (.int .i64) []), .k (.v (.str) []), .k (.v Y8 [])]
def rs_q54 : List Kd := []
def q54 (N : Nat) (x : (List D2) × Int × List UInt8 × List D6) : Option (List D2) :=
 jn (fun (v0 : D2) =>
  grd (room (iadd (len x.1) (len ([v0] : List D2))) 64) <|
  some (lapp x.1 ([v0] : List D2)))
 fun v1 =>
 fixN (fun v2 (v3 : Int × (List UInt8) × (List UInt8) × (List D6) × Int) =>
  cnd (ilt v3.1 (len x.2.2.2))
   (grd (inb v3.1 (len x.2.2.2))
    (cnd (sne (lget x.2.2.2 (toN v3.1) ([], [])).2 ([] : List UInt8))
     (grd (room (iadd (len v3.2.2.2.1) (len ([lget x.2.2.2 (toN v3.1) ([], [])] : List D6))) 32)
      (v2 (w64 (iadd v3.1 1), v3.2.1, v3.2.2.1, lapp v3.2.2.2.1 ([lget x.2.2.2 (toN v3.1) ([], [])] : List D6), v3.2.2.2.2)))
     (v2 (w64 (iadd v3.1 1), v3.2))))
   (v1 v3.2)) N (0, x.2.2.1, ([] : List UInt8), ([] : List D6), x.2.1)
def ps_q55 : List PK := [.k (.v Y1 [])]
def rs_q55 : List Kd := [.v (.slice Y3) [0], .v (.int .i64) []]
def q55 (N : Nat) (x : D7) : Option ((List D2) × Int) :=
 bnd (q48 N x) fun v0 =>
 cnd (ine v0 0)
  (some (([] : List D2), v0))
  (bnd (q49 N x.2.2.1) fun v1 =>
  bnd (q50 N (([100, 114, 111, 112] : List UInt8), x.2.2.2.1)) fun v2 =>
  bnd (q53 N (([108, 97, 115, 116] : List UInt8), x.2.2.2.2.1)) fun v3 =>
  bnd (q54 N (([] : List D2), 0, ([116, 116] : List UInt8), ([(([116, 105, 116, 108, 101] : List UInt8), x.1), (([108, 97, 110, 103] : List UInt8), x.2.1), (([114, 97, 116, 101] : List UInt8), v1), v2, v3] : List D6))) fun v4 =>
  jn (fun (v5 : List D2) =>
   jn (fun (v6 : List D2) =>
    cnd (ilt 8192 (len v6))
     (some (([] : List D2), 9))
     (some (v6, 0)))
   fun v7 =>
   fixN (fun v8 (v9 : Int × List D2) =>
    cnd (ilt v9.1 (len x.2.2.2.2.2.2.1))
     (jn (fun (v10 : List D2) =>
      v8 (w64 (iadd v9.1 1), v10))
     fun v11 =>
     grd (inb v9.1 (len x.2.2.2.2.2.2.1)) <|
     bnd (q53 N (([105, 100] : List UInt8), (lget x.2.2.2.2.2.2.1 (toN v9.1) (0, ((0, 0), ([], (0, ([], [])))))).1)) fun v12 =>
     bnd (q52 N (lget x.2.2.2.2.2.2.1 (toN v9.1) (0, ((0, 0), ([], (0, ([], [])))))).2.1.1) fun v13 =>
     grd (catOk (iadd (len v13) (len ([102] : List UInt8)))) <|
     bnd (q52 N (lget x.2.2.2.2.2.2.1 (toN v9.1) (0, ((0, 0), ([], (0, ([], [])))))).2.1.2) fun v14 =>
     grd (catOk (iadd (len v14) (len ([102] : List UInt8)))) <|
     bnd (q27 N (lget x.2.2.2.2.2.2.1 (toN v9.1) (0, ((0, 0), ([], (0, ([], [])))))).2.2.2.1) fun v15 =>
     bnd (q54 N (v9.2, 1, ([112] : List UInt8), ([v12, (([105, 110] : List UInt8), lapp v13 ([102] : List UInt8)), (([111, 117, 116] : List UInt8), lapp v14 ([102] : List UInt8)), (([114, 101, 103, 105, 111, 110] : List UInt8), (lget x.2.2.2.2.2.2.1 (toN v9.1) (0, ((0, 0), ([], (0, ([], [])))))).2.2.1), (([107, 105, 110, 100] : List UInt8), v15), (([115, 112, 101, 97, 107, 101, 114] : List UInt8), (lget x.2.2.2.2.2.2.1 (toN v9.1) (0, ((0, 0), ([], (0, ([], [])))))).2.2.2.2.1)] : List D6))) fun v16 =>
     fixN (fun v17 (v18 : Int × List D2) =>
      cnd (ilt v18.1 (len (lget x.2.2.2.2.2.2.1 (toN v9.1) (0, ((0, 0), ([], (0, ([], [])))))).2.2.2.2.2))
       (jn (fun (v19 : List D2) =>
        v17 (w64 (iadd v18.1 1), v19))
       fun v20 =>
       grd (inb v18.1 (len (lget x.2.2.2.2.2.2.1 (toN v9.1) (0, ((0, 0), ([], (0, ([], [])))))).2.2.2.2.2)) <|
       bnd (q54 N (v18.2, 2, ([114, 111, 119] : List UInt8), ([] : List D6))) fun v21 =>
       fixN (fun v22 (v23 : Int × List D2) =>
        cnd (ilt v23.1 (len (lget (lget x.2.2.2.2.2.2.1 (toN v9.1) (0, ((0, 0), ([], (0, ([], [])))))).2.2.2.2.2 (toN v18.1) [])))
         (grd (inb v23.1 (len (lget (lget x.2.2.2.2.2.2.1 (toN v9.1) (0, ((0, 0), ([], (0, ([], [])))))).2.2.2.2.2 (toN v18.1) [])))
          (jn (fun (v24 : List UInt8) =>
           bnd (q50 N (([105, 116, 97, 108, 105, 99] : List UInt8), (lget (lget (lget x.2.2.2.2.2.2.1 (toN v9.1) (0, ((0, 0), ([], (0, ([], [])))))).2.2.2.2.2 (toN v18.1) []) (toN v23.1) ([], ((0, (false, false)), []))).2.1.2.1)) fun v25 =>
           bnd (q50 N (([117, 110, 100, 101, 114, 108, 105, 110, 101] : List UInt8), (lget (lget (lget x.2.2.2.2.2.2.1 (toN v9.1) (0, ((0, 0), ([], (0, ([], [])))))).2.2.2.2.2 (toN v18.1) []) (toN v23.1) ([], ((0, (false, false)), []))).2.1.2.2)) fun v26 =>
           bnd (q54 N (v23.2, 3, ([114, 117, 110] : List UInt8), ([(([99, 111, 108, 111, 114] : List UInt8), v24), v25, v26, (([114, 117, 98, 121] : List UInt8), (lget (lget (lget x.2.2.2.2.2.2.1 (toN v9.1) (0, ((0, 0), ([], (0, ([], [])))))).2.2.2.2.2 (toN v18.1) []) (toN v23.1) ([], ((0, (false, false)), []))).2.2)] : List D6))) fun v27 =>
           grd (room (iadd (len v27) (len ([(([] : List UInt8), (lget (lget (lget x.2.2.2.2.2.2.1 (toN v9.1) (0, ((0, 0), ([], (0, ([], [])))))).2.2.2.2.2 (toN v18.1) []) (toN v23.1) ([], ((0, (false, false)), []))).1, ([] : List D6), 4)] : List D2))) 64) <|
           v22 (w64 (iadd v23.1 1), lapp v27 ([(([] : List UInt8), (lget (lget (lget x.2.2.2.2.2.2.1 (toN v9.1) (0, ((0, 0), ([], (0, ([], [])))))).2.2.2.2.2 (toN v18.1) []) (toN v23.1) ([], ((0, (false, false)), []))).1, ([] : List D6), 4)] : List D2)))
          fun v28 =>
          cnd (ine (n8 (lget (lget (lget x.2.2.2.2.2.2.1 (toN v9.1) (0, ((0, 0), ([], (0, ([], [])))))).2.2.2.2.2 (toN v18.1) []) (toN v23.1) ([], ((0, (false, false)), []))).2.1.1) (n8 0))
           (grd (inb (n8 (lget (lget (lget x.2.2.2.2.2.2.1 (toN v9.1) (0, ((0, 0), ([], (0, ([], [])))))).2.2.2.2.2 (toN v18.1) []) (toN v23.1) ([], ((0, (false, false)), []))).2.1.1) (ofN 7))
            (v28 (lget gl1 (toN (n8 (lget (lget (lget x.2.2.2.2.2.2.1 (toN v9.1) (0, ((0, 0), ([], (0, ([], [])))))).2.2.2.2.2 (toN v18.1) []) (toN v23.1) ([], ((0, (false, false)), []))).2.1.1)) [])))
           (v28 ([] : List UInt8))))
         (v20 v23.2)) N (0, v21))
       (v11 v18.2)) N (0, v16))
     (v7 v9.2)) N (0, v5))
  fun v29 =>
  fixN (fun v30 (v31 : Int × List D2) =>
   cnd (ilt v31.1 (len x.2.2.2.2.2.1))
    (grd (inb v31.1 (len x.2.2.2.2.2.1))
     (jn (fun (v32 : List UInt8) =>
      bnd (q53 N (([116, 111, 112] : List UInt8), (lget x.2.2.2.2.2.1 (toN v31.1) ([], (0, (0, (0, (0, (0, false))))))).2.1)) fun v33 =>
      bnd (q53 N (([104, 101, 105, 103, 104, 116] : List UInt8), (lget x.2.2.2.2.2.1 (toN v31.1) ([], (0, (0, (0, (0, (0, false))))))).2.2.1)) fun v34 =>
      bnd (q53 N (([108, 101, 102, 116] : List UInt8), (lget x.2.2.2.2.2.1 (toN v31.1) ([], (0, (0, (0, (0, (0, false))))))).2.2.2.1)) fun v35 =>
      bnd (q53 N (([119, 105, 100, 116, 104] : List UInt8), (lget x.2.2.2.2.2.1 (toN v31.1) ([], (0, (0, (0, (0, (0, false))))))).2.2.2.2.1)) fun v36 =>
      grd (inb (n8 (b8 (isub (n8 (lget x.2.2.2.2.2.1 (toN v31.1) ([], (0, (0, (0, (0, (0, false))))))).2.2.2.2.2.1) (n8 1)))) (ofN 3)) <|
      bnd (q54 N (v31.2, 1, ([114, 101, 103, 105, 111, 110] : List UInt8), ([(([110, 97, 109, 101] : List UInt8), (lget x.2.2.2.2.2.1 (toN v31.1) ([], (0, (0, (0, (0, (0, false))))))).1), v33, v34, v35, v36, (([97, 108, 105, 103, 110] : List UInt8), lget gl0 (toN (n8 (b8 (isub (n8 (lget x.2.2.2.2.2.1 (toN v31.1) ([], (0, (0, (0, (0, (0, false))))))).2.2.2.2.2.1) (n8 1))))) []), (([97, 110, 99, 104, 111, 114] : List UInt8), v32)] : List D6))) fun v37 =>
      v30 (w64 (iadd v31.1 1), v37))
     fun v38 =>
     cnd (lget x.2.2.2.2.2.1 (toN v31.1) ([], (0, (0, (0, (0, (0, false))))))).2.2.2.2.2.2
      (v38 ([66, 79, 84, 84, 79, 77] : List UInt8))
      (v38 ([84, 79, 80] : List UInt8))))
    (v29 v31.2)) N (0, v4))
def ps_q56 : List PK := [.k (.v (.slice Y3) []), .k (.v (.int .i64) [])]
def rs_q56 : List Kd := [.v (.int .i64) []]
def q56 (N : Nat) (x : (List D2) × Int) : Option (Int) :=
 grd (inb x.2 (len x.1)) <|
 cnd (ieq x.2 0)
  (cnd (ine (lget x.1 (toN x.2) ([], ([], ([], 0)))).2.2.2 0)
   (some 8)
   (some 0))
  (grd (inb (w64 (isub x.2 1)) (len x.1))
   (jn (fun (v0 : Int) =>
    cnd (ilt (lget x.1 (toN x.2) ([], ([], ([], 0)))).2.2.2 1)
     (some 8)
     (cnd (ilt v0 (lget x.1 (toN x.2) ([], ([], ([], 0)))).2.2.2)
      (some 8)
      (cnd (ilt 15 (lget x.1 (toN x.2) ([], ([], ([], 0)))).2.2.2)
       (some 9)
       (some 0))))
   fun v1 =>
   grd (inb (w64 (isub x.2 1)) (len x.1)) <|
   cnd (sne (lget x.1 (toN (w64 (isub x.2 1))) ([], ([], ([], 0)))).1 ([] : List UInt8))
    (v1 (w64 (iadd (lget x.1 (toN (w64 (isub x.2 1))) ([], ([], ([], 0)))).2.2.2 1)))
    (v1 (lget x.1 (toN (w64 (isub x.2 1))) ([], ([], ([], 0)))).2.2.2)))
def ps_q57 : List PK := [.k (.v (.u8) [])]
def rs_q57 : List Kd := [.v (.bool) []]
def q57 (N : Nat) (x : UInt8) : Option (Bool) :=
 cnd (ile (n8 97) (n8 x))
  (cnd (ile (n8 x) (n8 122))
   (some true)
   (cnd (ile (n8 65) (n8 x))
    (some (ile (n8 x) (n8 90)))
    (some false)))
  (cnd (ile (n8 65) (n8 x))
   (some (ile (n8 x) (n8 90)))
   (some false))
def ps_q58 : List PK := [.k (.v (.u8) [])]
def rs_q58 : List Kd := [.v (.bool) []]
def q58 (N : Nat) (x : UInt8) : Option (Bool) :=
 bnd (q57 N x) fun v0 =>
 cnd v0
  (some true)
  (cnd (ile (n8 48) (n8 x))
   (cnd (ile (n8 x) (n8 57))
    (some true)
    (some (ieq (n8 x) (n8 45))))
   (some (ieq (n8 x) (n8 45))))
def ps_xml_Name : List PK := [.k (.v (.str) [])]
def rs_xml_Name : List Kd := [.v (.bool) []]
def xml_Name (N : Nat) (x : List UInt8) : Option (Bool) :=
 cnd (ilt (len x) 1)
  (some false)
  (cnd (ilt 32 (len x))
   (some false)
   (grd (inb 0 (len x))
    (bnd (q57 N (lget x (toN 0) 0)) fun v0 =>
    cnd (bnot v0)
     (some false)
     (jn (fun (v1 : Unit) =>
      some true)
     fun v2 =>
     fixN (fun v3 (v4 : Int) =>
      cnd (ilt v4 (len x))
       (grd (inb v4 (len x))
        (bnd (q58 N (lget x (toN v4) 0)) fun v5 =>
        cnd (bnot v5)
         (some false)
         (v3 (w64 (iadd v4 1)))))
       (v2 ())) N 0))))
def ps_q59 : List PK := [.k (.v Y3 [])]
def rs_q59 : List Kd := [.v (.int .i64) []]
def q59 (N : Nat) (x : D2) : Option (Int) :=
 bnd (xml_Name N x.1) fun v0 =>
 cnd (bnot v0)
  (some 5)
  (cnd (sne x.2.1 ([] : List UInt8))
   (some 4)
   (cnd (ilt 16 (len x.2.2.1))
    (some 9)
    (jn (fun (v1 : Unit) =>
     some 0)
    fun v2 =>
    fixN (fun v3 (v4 : Int × List ((List UInt8) × Bool)) =>
     cnd (ilt v4.1 (len x.2.2.1))
      (grd (inb v4.1 (len x.2.2.1))
       (bnd (xml_Name N (lget x.2.2.1 (toN v4.1) ([], [])).1) fun v5 =>
       cnd (bnot v5)
        (some 5)
        (cnd (mget seq false v4.2 (lget x.2.2.1 (toN v4.1) ([], [])).1)
         (some 7)
         (bnd (q13 N (lget x.2.2.1 (toN v4.1) ([], [])).2) fun v6 =>
         cnd (bnot v6)
          (some 10)
          (v3 (w64 (iadd v4.1 1), mput seq v4.2 (lget x.2.2.1 (toN v4.1) ([], [])).1 true))))))
      (v2 ())) N (0, ([] : List ((List UInt8) × Bool))))))
def ps_q60 : List PK := [.k (.v (.slice Y3) []), .k (.v (.int .i64) [])]
def rs_q60 : List Kd := [.v (.int .i64) []]
def q60 (N : Nat) (x : (List D2) × Int) : Option (Int) :=
 grd (inb x.2 (len x.1)) <|
 jn (fun (v0 : Bool) =>
  cnd v0
   (some 8)
   (cnd (seq (lget x.1 (toN x.2) ([], ([], ([], 0)))).2.1 ([] : List UInt8))
    (some 4)
    (cnd (ilt 0 (len (lget x.1 (toN x.2) ([], ([], ([], 0)))).2.2.1))
     (some 4)
     (bnd (q13 N (lget x.1 (toN x.2) ([], ([], ([], 0)))).2.1) fun v1 =>
     cnd (bnot v1)
      (some 10)
      (some 0)))))
 fun v2 =>
 cnd (ieq x.2 0)
  (v2 true)
  (grd (inb (w64 (isub x.2 1)) (len x.1))
   (cnd (seq (lget x.1 (toN (w64 (isub x.2 1))) ([], ([], ([], 0)))).1 ([] : List UInt8))
    (grd (inb (w64 (isub x.2 1)) (len x.1))
     (v2 (ieq (lget x.1 (toN (w64 (isub x.2 1))) ([], ([], ([], 0)))).2.2.2 (lget x.1 (toN x.2) ([], ([], ([], 0)))).2.2.2)))
    (v2 false)))
def ps_q61 : List PK := [.k (.v (.slice Y3) [])]
def rs_q61 : List Kd := [.v (.int .i64) []]
def q61 (N : Nat) (x : List D2) : Option (Int) :=
 cnd (ieq (len x) 0)
  (some 6)
  (cnd (ilt 8192 (len x))
   (some 9)
   (jn (fun (v0 : Unit) =>
    some 0)
   fun v1 =>
   fixN (fun v2 (v3 : Int) =>
    cnd (ilt v3 (len x))
     (grd (inb v3 (len x))
      (bnd (q56 N (x, v3)) fun v4 =>
      cnd (ine v4 0)
       (some v4)
       (cnd (sne (lget x (toN v3) ([], ([], ([], 0)))).1 ([] : List UInt8))
        (bnd (q59 N (lget x (toN v3) ([], ([], ([], 0))))) fun v5 =>
        cnd (ine v5 0)
         (some v5)
         (v2 (w64 (iadd v3 1))))
        (bnd (q60 N (x, v3)) fun v6 =>
        cnd (ine v6 0)
         (some v6)
         (v2 (w64 (iadd v3 1)))))))
     (v1 ())) N 0))
def ps_strings_Replace : List PK := [.k (.v (.str) []), .k (.v (.str) []), .k (.v (.str) []), .k (.v (.int .i64) [])]
def rs_strings_Replace : List Kd := [.v (.str) []]
def strings_Replace (N : Nat) (x : List UInt8 × List UInt8 × List UInt8 × Int) : Option (List UInt8) := hand_strings_Replace N x
def ps_q62 : List PK := [.k (.v (.str) []), .k (.v (.str) []), .k (.v (.str) [])]
def rs_q62 : List Kd := [.v (.str) []]
def q62 (N : Nat) (x : List UInt8 × List UInt8 × List UInt8) : Option (List UInt8) :=
 bnd (strings_Replace N (x.1, x.2.1, x.2.2, (-1))) fun v0 =>
 some v0
def ps_q63 : List PK := [.k (.v (.str) [])]
def rs_q63 : List Kd := [.v (.str) []]
def q63 (N : Nat) (x : List UInt8) : Option (List UInt8) :=
 jn (fun (v0 : List UInt8) =>
  some v0)
 fun v1 =>
 fixN (fun v2 (v3 : (List UInt8) × Int) =>
  cnd (ilt v3.2 5)
   (grd (inb v3.2 (ofN 5))
    (grd (ieq (len (lrep 2 ([] : List UInt8))) (ofN 2))
     (grd (inb 1 (ofN 2))
      (grd (ilt 1 (len ([lget (lget ([([lget (lget gl2 0 (lrep 2 [])) 0 [], lget (lget gl2 0 (lrep 2 [])) 1 []] : List (List UInt8)), ([lget (lget gl2 1 (lrep 2 [])) 0 [], lget (lget gl2 1 (lrep 2 [])) 1 []] : List (List UInt8)), ([lget (lget gl2 2 (lrep 2 [])) 0 [], lget (lget gl2 2 (lrep 2 [])) 1 []] : List (List UInt8)), ([lget (lget gl2 3 (lrep 2 [])) 0 [], lget (lget gl2 3 (lrep 2 [])) 1 []] : List (List UInt8)), ([lget (lget gl2 4 (lrep 2 [])) 0 [], lget (lget gl2 4 (lrep 2 [])) 1 []] : List (List UInt8))] : List (List (List UInt8))) (toN v3.2) (lrep 2 [])) 0 [], lget (lget ([([lget (lget gl2 0 (lrep 2 [])) 0 [], lget (lget gl2 0 (lrep 2 [])) 1 []] : List (List UInt8)), ([lget (lget gl2 1 (lrep 2 [])) 0 [], lget (lget gl2 1 (lrep 2 [])) 1 []] : List (List UInt8)), ([lget (lget gl2 2 (lrep 2 [])) 0 [], lget (lget gl2 2 (lrep 2 [])) 1 []] : List (List UInt8)), ([lget (lget gl2 3 (lrep 2 [])) 0 [], lget (lget gl2 3 (lrep 2 [])) 1 []] : List (List UInt8)), ([lget (lget gl2 4 (lrep 2 [])) 0 [], lget (lget gl2 4 (lrep 2 [])) 1 []] : List (List UInt8))] : List (List (List UInt8))) (toN v3.2) (lrep 2 [])) 1 []] : List (List UInt8))))
       (grd (inb 0 (ofN 2))
        (grd (ilt 0 (len ([lget (lget ([([lget (lget gl2 0 (lrep 2 [])) 0 [], lget (lget gl2 0 (lrep 2 [])) 1 []] : List (List UInt8)), ([lget (lget gl2 1 (lrep 2 [])) 0 [], lget (lget gl2 1 (lrep 2 [])) 1 []] : List (List UInt8)), ([lget (lget gl2 2 (lrep 2 [])) 0 [], lget (lget gl2 2 (lrep 2 [])) 1 []] : List (List UInt8)), ([lget (lget gl2 3 (lrep 2 [])) 0 [], lget (lget gl2 3 (lrep 2 [])) 1 []] : List (List UInt8)), ([lget (lget gl2 4 (lrep 2 [])) 0 [], lget (lget gl2 4 (lrep 2 [])) 1 []] : List (List UInt8))] : List (List (List UInt8))) (toN v3.2) (lrep 2 [])) 0 [], lget (lget ([([lget (lget gl2 0 (lrep 2 [])) 0 [], lget (lget gl2 0 (lrep 2 [])) 1 []] : List (List UInt8)), ([lget (lget gl2 1 (lrep 2 [])) 0 [], lget (lget gl2 1 (lrep 2 [])) 1 []] : List (List UInt8)), ([lget (lget gl2 2 (lrep 2 [])) 0 [], lget (lget gl2 2 (lrep 2 [])) 1 []] : List (List UInt8)), ([lget (lget gl2 3 (lrep 2 [])) 0 [], lget (lget gl2 3 (lrep 2 [])) 1 []] : List (List UInt8)), ([lget (lget gl2 4 (lrep 2 [])) 0 [], lget (lget gl2 4 (lrep 2 [])) 1 []] : List (List UInt8))] : List (List (List UInt8))) (toN v3.2) (lrep 2 [])) 1 []] : List (List UInt8))))
         (bnd (q62 N (v3.1, lget ([lget (lget ([([lget (lget gl2 0 (lrep 2 [])) 0 [], lget (lget gl2 0 (lrep 2 [])) 1 []] : List (List UInt8)), ([lget (lget gl2 1 (lrep 2 [])) 0 [], lget (lget gl2 1 (lrep 2 [])) 1 []] : List (List UInt8)), ([lget (lget gl2 2 (lrep 2 [])) 0 [], lget (lget gl2 2 (lrep 2 [])) 1 []] : List (List UInt8)), ([lget (lget gl2 3 (lrep 2 [])) 0 [], lget (lget gl2 3 (lrep 2 [])) 1 []] : List (List UInt8)), ([lget (lget gl2 4 (lrep 2 [])) 0 [], lget (lget gl2 4 (lrep 2 [])) 1 []] : List (List UInt8))] : List (List (List UInt8))) (toN v3.2) (lrep 2 [])) 0 [], lget (lget ([([lget (lget gl2 0 (lrep 2 [])) 0 [], lget (lget gl2 0 (lrep 2 [])) 1 []] : List (List UInt8)), ([lget (lget gl2 1 (lrep 2 [])) 0 [], lget (lget gl2 1 (lrep 2 [])) 1 []] : List (List UInt8)), ([lget (lget gl2 2 (lrep 2 [])) 0 [], lget (lget gl2 2 (lrep 2 [])) 1 []] : List (List UInt8)), ([lget (lget gl2 3 (lrep 2 [])) 0 [], lget (lget gl2 3 (lrep 2 [])) 1 []] : List (List UInt8)), ([lget (lget gl2 4 (lrep 2 [])) 0 [], lget (lget gl2 4 (lrep 2 [])) 1 []] : List (List UInt8))] : List (List (List UInt8))) (toN v3.2) (lrep 2 [])) 1 []] : List (List UInt8)) (toN 1) [], lget ([lget (lget ([([lget (lget gl2 0 (lrep 2 [])) 0 [], lget (lget gl2 0 (lrep 2 [])) 1 []] : List (List UInt8)), ([lget (lget gl2 1 (lrep 2 [])) 0 [], lget (lget gl2 1 (lrep 2 [])) 1 []] : List (List UInt8)), ([lget (lget gl2 2 (lrep 2 [])) 0 [], lget (lget gl2 2 (lrep 2 [])) 1 []] : List (List UInt8)), ([lget (lget gl2 3 (lrep 2 [])) 0 [], lget (lget gl2 3 (lrep 2 [])) 1 []] : List (List UInt8)), ([lget (lget gl2 4 (lrep 2 [])) 0 [], lget (lget gl2 4 (lrep 2 [])) 1 []] : List (List UInt8))] : List (List (List UInt8))) (toN v3.2) (lrep 2 [])) 0 [], lget (lget ([([lget (lget gl2 0 (lrep 2 [])) 0 [], lget (lget gl2 0 (lrep 2 [])) 1 []] : List (List UInt8)), ([lget (lget gl2 1 (lrep 2 [])) 0 [], lget (lget gl2 1 (lrep 2 [])) 1 []] : List (List UInt8)), ([lget (lget gl2 2 (lrep 2 [])) 0 [], lget (lget gl2 2 (lrep 2 [])) 1 []] : List (List UInt8)), ([lget (lget gl2 3 (lrep 2 [])) 0 [], lget (lget gl2 3 (lrep 2 [])) 1 []] : List (List UInt8)), ([lget (lget gl2 4 (lrep 2 [])) 0 [], lget (lget gl2 4 (lrep 2 [])) 1 []] : List (List UInt8))] : List (List (List UInt8))) (toN v3.2) (lrep 2 [])) 1 []] : List (List UInt8)) (toN 0) [])) fun v4 =>
         v2 (v4, w64 (iadd v3.2 1)))))))))
   (v1 v3.1)) N (x, 0)
def ps_q64 : List PK := [.k (.b 131 Y9 [1])]
def rs_q64 : List Kd := [.v (.int .i64) []]
def q64 (N : Nat) (x : Unit × List UInt8) : Option (Int × Unit × List UInt8) :=
 some (len x.2, (), x.2)
def ps_q65 : List PK := [.k (.v (.slice Y3) [])]
def rs_q65 : List Kd := [.v (.str) [], .v (.int .i64) []]
def q65 (N : Nat) (x : List D2) : Option (List UInt8 × Int) :=
 bnd (q61 N x) fun v0 =>
 cnd (ine v0 0)
  (some (([] : List UInt8), v0))
  (jn (fun (v1 : (List (List UInt8)) × Unit × List UInt8) =>
   jn (fun (v2 : Unit × List UInt8) =>
    bnd (q64 N ((), v2.2)) fun v3 =>
    cnd (ilt 262144 v3.1)
     (some (([] : List UInt8), 9))
     (some (v3.2.2, 0)))
   fun v4 =>
   fixN (fun v5 (v6 : Int × Unit × List UInt8) =>
    cnd (ile 0 v6.1)
     (grd (inb v6.1 (len v1.1))
      (grd (catOk (iadd (len ([60, 47] : List UInt8)) (len (lget v1.1 (toN v6.1) []))))
       (grd (catOk (iadd (len (lapp ([60, 47] : List UInt8) (lget v1.1 (toN v6.1) []))) (len ([62] : List UInt8))))
        (bnd (q31 N (((), v6.2.2), lapp (lapp ([60, 47] : List UInt8) (lget v1.1 (toN v6.1) [])) ([62] : List UInt8))) fun v7 =>
        v5 (w64 (isub v6.1 1), (), v7.2.2.2)))))
     (v4 ((), v6.2.2))) N (w64 (isub (len v1.1) 1), (), v1.2.2))
  fun v8 =>
  fixN (fun v9 (v10 : (List (List UInt8)) × Int × Unit × List UInt8) =>
   cnd (ilt v10.2.1 (len x))
    (jn (fun (v11 : (List (List UInt8)) × Unit × List UInt8) =>
     v9 (v11.1, w64 (iadd v10.2.1 1), (), v11.2.2))
    fun v12 =>
    grd (inb v10.2.1 (len x)) <|
    jn (fun (v13 : (List (List UInt8)) × Unit × List UInt8) =>
     cnd (seq (lget x (toN v10.2.1) ([], ([], ([], 0)))).1 ([] : List UInt8))
      (bnd (q63 N (lget x (toN v10.2.1) ([], ([], ([], 0)))).2.1) fun v14 =>
      bnd (q31 N (((), v13.2.2), v14)) fun v15 =>
      v12 (v13.1, (), v15.2.2.2))
      (grd (catOk (iadd (len ([60] : List UInt8)) (len (lget x (toN v10.2.1) ([], ([], ([], 0)))).1)))
       (bnd (q31 N (((), v13.2.2), lapp ([60] : List UInt8) (lget x (toN v10.2.1) ([], ([], ([], 0)))).1)) fun v16 =>
       jn (fun (v17 : Unit × List UInt8) =>
        cnd (ilt (w64 (iadd v10.2.1 1)) (len x))
         (grd (inb (w64 (iadd v10.2.1 1)) (len x))
          (cnd (ilt (lget x (toN v10.2.1) ([], ([], ([], 0)))).2.2.2 (lget x (toN (w64 (iadd v10.2.1 1))) ([], ([], ([], 0)))).2.2.2)
           (bnd (q31 N (((), v17.2), ([62] : List UInt8))) fun v18 =>
           grd (room (iadd (len v13.1) (len ([(lget x (toN v10.2.1) ([], ([], ([], 0)))).1] : List (List UInt8)))) 16) <|
           v12 (lapp v13.1 ([(lget x (toN v10.2.1) ([], ([], ([], 0)))).1] : List (List UInt8)), (), v18.2.2.2))
           (bnd (q31 N (((), v17.2), ([47, 62] : List UInt8))) fun v19 =>
           v12 (v13.1, (), v19.2.2.2))))
         (bnd (q31 N (((), v17.2), ([47, 62] : List UInt8))) fun v20 =>
         v12 (v13.1, (), v20.2.2.2)))
       fun v21 =>
       fixN (fun v22 (v23 : Int × Unit × List UInt8) =>
        cnd (ilt v23.1 (len (lget x (toN v10.2.1) ([], ([], ([], 0)))).2.2.1))
         (grd (inb v23.1 (len (lget x (toN v10.2.1) ([], ([], ([], 0)))).2.2.1))
          (grd (catOk (iadd (len ([32] : List UInt8)) (len (lget (lget x (toN v10.2.1) ([], ([], ([], 0)))).2.2.1 (toN v23.1) ([], [])).1)))
           (grd (catOk (iadd (len (lapp ([32] : List UInt8) (lget (lget x (toN v10.2.1) ([], ([], ([], 0)))).2.2.1 (toN v23.1) ([], [])).1)) (len ([61, 34] : List UInt8))))
            (bnd (q63 N (lget (lget x (toN v10.2.1) ([], ([], ([], 0)))).2.2.1 (toN v23.1) ([], [])).2) fun v24 =>
            grd (catOk (iadd (len (lapp (lapp ([32] : List UInt8) (lget (lget x (toN v10.2.1) ([], ([], ([], 0)))).2.2.1 (toN v23.1) ([], [])).1) ([61, 34] : List UInt8))) (len v24))) <|
            grd (catOk (iadd (len (lapp (lapp (lapp ([32] : List UInt8) (lget (lget x (toN v10.2.1) ([], ([], ([], 0)))).2.2.1 (toN v23.1) ([], [])).1) ([61, 34] : List UInt8)) v24)) (len ([34] : List UInt8)))) <|
            bnd (q31 N (((), v23.2.2), lapp (lapp (lapp (lapp ([32] : List UInt8) (lget (lget x (toN v10.2.1) ([], ([], ([], 0)))).2.2.1 (toN v23.1) ([], [])).1) ([61, 34] : List UInt8)) v24) ([34] : List UInt8))) fun v25 =>
            v22 (w64 (iadd v23.1 1), (), v25.2.2.2)))))
         (v21 ((), v23.2.2))) N (0, (), v16.2.2.2))))
    fun v26 =>
    fixN (fun v27 (v28 : (List (List UInt8)) × Unit × List UInt8) =>
     cnd (ilt (lget x (toN v10.2.1) ([], ([], ([], 0)))).2.2.2 (len v28.1))
      (grd (inb (w64 (isub (len v28.1) 1)) (len v28.1))
       (grd (catOk (iadd (len ([60, 47] : List UInt8)) (len (lget v28.1 (toN (w64 (isub (len v28.1) 1))) []))))
        (grd (catOk (iadd (len (lapp ([60, 47] : List UInt8) (lget v28.1 (toN (w64 (isub (len v28.1) 1))) []))) (len ([62] : List UInt8))))
         (bnd (q31 N (((), v28.2.2), lapp (lapp ([60, 47] : List UInt8) (lget v28.1 (toN (w64 (isub (len v28.1) 1))) [])) ([62] : List UInt8))) fun v29 =>
         grd (in2 (w64 (isub (len v28.1) 1)) (ofN (nlen v28.1))) <|
         v27 (cutl v28.1 0 (toN (w64 (isub (len v28.1) 1))), (), v29.2.2.2)))))
      (v26 (v28.1, (), v28.2.2))) N (v10.1, (), v10.2.2.2))
    (v8 (v10.1, (), v10.2.2.2))) N (([] : List (List UInt8)), 0, (), ([] : List UInt8)))
def ps_q66 : List PK := [.k (.v Y1 [])]
def rs_q66 : List Kd := [.v (.str) [], .v (.int .i64) []]
def q66 (N : Nat) (x : D7) : Option (List UInt8 × Int) :=
 bnd (q55 N x) fun v0 =>
 cnd (ine v0.2 0)
  (some (([] : List UInt8), v0.2))
  (bnd (q65 N v0.1) fun v1 =>
  some v1)
def ps_l21_awake : List PK := []
def rs_l21_awake : List Kd := [.v (.bool) []]
def l21_awake (N : Nat) (x : Unit) : Option (Bool) :=
 bnd (q66 N (([] : List UInt8), ([] : List UInt8), 3, false, 3, ([] : List D4), ([(3, (0, 50), ([] : List UInt8), 1, ([] : List UInt8), ([([(([71, 111] : List UInt8), (4, true, false), ([] : List UInt8))] : List D5)] : List (List D5)))] : List D1), ([] : List D3))) fun v0 =>
 cnd (ieq v0.2 0)
  (some (seq v0.1 ([60, 116, 116, 32, 114, 97, 116, 101, 61, 34, 50, 53, 34, 32, 108, 97, 115, 116, 61, 34, 51, 34, 62, 60, 112, 32, 105, 100, 61, 34, 51, 34, 32, 105, 110, 61, 34, 48, 102, 34, 32, 111, 117, 116, 61, 34, 53, 48, 102, 34, 32, 107, 105, 110, 100, 61, 34, 68, 73, 65, 76, 79, 71, 85, 69, 34, 62, 60, 114, 111, 119, 62, 60, 114, 117, 110, 32, 99, 111, 108, 111, 114, 61, 34, 114, 101, 100, 34, 32, 105, 116, 97, 108, 105, 99, 61, 34, 49, 34, 62, 71, 111, 60, 47, 114, 117, 110, 62, 60, 47, 114, 111, 119, 62, 60, 47, 112, 62, 60, 47, 116, 116, 62] : List UInt8)))
  (some false)
def ps_l21_few : List PK := [.k (.v Y1 [])]
def rs_l21_few : List Kd := [.v Y1 []]
def l21_few (N : Nat) (x : D7) : Option D7 :=
 grd (in2 (imin (len x.2.2.2.2.2.2.1) 5) (len x.2.2.2.2.2.2.1)) <|
 grd (in2 (imin (len x.2.2.2.2.2.2.2) 4) (len x.2.2.2.2.2.2.2)) <|
 grd (in2 (imin (len x.2.2.2.2.2.1) 6) (len x.2.2.2.2.2.1)) <|
 some (x.1, x.2.1, x.2.2.1, x.2.2.2.1, x.2.2.2.2.1, ltake (toN (imin (len x.2.2.2.2.2.1) 6)) x.2.2.2.2.2.1, ltake (toN (imin (len x.2.2.2.2.2.2.1) 5)) x.2.2.2.2.2.2.1, ltake (toN (imin (len x.2.2.2.2.2.2.2) 4)) x.2.2.2.2.2.2.2)
def ps_q67 : List PK := []
def rs_q67 : List Kd := [.v (.str) []]
def q67 (N : Nat) (x : Unit) : Option (List UInt8) :=
 some ([32, 33, 34, 35, 36, 37, 38, 39, 40, 41, 42, 43, 44, 45, 46, 47, 48, 49, 50, 51, 52, 53, 54, 55, 56, 57, 58, 59, 60, 61, 62, 63, 64, 65, 66, 67, 68, 69, 70, 71, 72, 73, 74, 75, 76, 77, 78, 79, 80, 81, 82, 83, 84, 85, 86, 87, 88, 89, 90, 91, 92, 93, 94, 95, 96, 97, 98, 99, 100, 101, 102, 103, 104, 105, 106, 107, 108, 109, 110, 111, 112, 113, 114, 115, 116, 117, 118, 119, 120, 121, 122, 123, 124, 125, 126, 194, 161, 194, 162, 194, 163, 194, 164, 194, 165, 194, 166, 194, 167, 194, 169, 194, 171, 194, 174, 194, 176, 194, 183, 194, 187, 194, 189, 194, 191, 195, 128, 195, 129, 195, 130, 195, 131, 195, 132, 195, 133, 195, 134, 195, 135, 195, 136, 195, 137, 195, 138, 195, 139, 195, 140, 195, 141, 195, 142, 195, 143, 195, 145, 195, 146, 195, 147, 195, 148, 195, 149, 195, 150, 195, 152, 195, 153, 195, 154, 195, 155, 195, 156, 195, 159, 195, 160, 195, 161, 195, 162, 195, 163, 195, 164, 195, 165, 195, 166, 195, 167, 195, 168, 195, 169, 195, 170, 195, 171, 195, 172, 195, 173, 195, 174, 195, 175, 195, 177, 195, 178, 195, 179, 195, 180, 195, 181, 195, 182, 195, 184, 195, 185, 195, 186, 195, 187, 195, 188, 197, 146, 197, 147, 226, 128, 148, 226, 128, 152, 226, 128, 153, 226, 128, 156, 226, 128, 157, 226, 128, 162, 226, 128, 166, 226, 132, 162, 226, 153, 170] : List UInt8)
def ps_q68 : List PK := [.k (.v (.int .i32) [])]
def rs_q68 : List Kd := [.v (.int .i64) []]
def q68 (N : Nat) (x : Int) : Option (Int) :=
 jn (fun (v0 : Unit) =>
  jn (fun (v1 : Unit) =>
   some (-1))
  fun v2 =>
  bnd (q67 N ()) fun v3 =>
  fixN (fun v4 (v5 : Int × (List UInt8) × Int) =>
   cnd (nlt (toN v5.2.2) (nlen v5.2.1))
    (cnd (ieq (decR v5.2.1 (toN v5.2.2)) x)
     (some v5.1)
     (v4 (w64 (iadd v5.1 1), v5.2.1, ofN (nadd (toN v5.2.2) (decW v5.2.1 (toN v5.2.2))))))
    (v2 ())) N (0, v3, ofN 0))
 fun v6 =>
 cnd (ile 32 x)
  (cnd (ile x 126)
   (some (w64 (wr .i32 (isub x 32))))
   (v6 ()))
  (v6 ())
def ps_q69 : List PK := [.k (.v (.str) [])]
def rs_q69 : List Kd := [.v (.bool) []]
def q69 (N : Nat) (x : List UInt8) : Option (Bool) :=
 jn (fun (v0 : Unit) =>
  some true)
 fun v1 =>
 fixN (fun v2 (v3 : (List UInt8) × Int) =>
  cnd (nlt (toN v3.2) (nlen v3.1))
   (bnd (q68 N (decR v3.1 (toN v3.2))) fun v4 =>
   cnd (ilt v4 0)
    (some false)
    (v2 (v3.1, ofN (nadd (toN v3.2) (decW v3.1 (toN v3.2))))))
   (v1 ())) N (x, ofN 0)
def ps_q70 : List PK := [.k (.v (.u8) [])]
def rs_q70 : List Kd := [.v (.bool) []]
def q70 (N : Nat) (x : UInt8) : Option (Bool) :=
 cnd (ile (n8 48) (n8 x))
  (some (ile (n8 x) (n8 57)))
  (some false)
def ps_r07_Name : List PK := [.k (.v (.str) [])]
def rs_r07_Name : List Kd := [.v (.bool) []]
def r07_Name (N : Nat) (x : List UInt8) : Option (Bool) :=
 cnd (ilt (len x) 1)
  (some false)
  (cnd (ilt 16 (len x))
   (some false)
   (jn (fun (v0 : Unit) =>
    some true)
   fun v1 =>
   fixN (fun v2 (v3 : Int) =>
    cnd (ilt v3 (len x))
     (jn (fun (v4 : Bool) =>
      cnd (bnot v4)
       (cnd (ieq v3 0)
        (some false)
        (grd (inb v3 (len x))
         (bnd (q70 N (lget x (toN v3) 0)) fun v5 =>
         cnd (bnot v5)
          (grd (inb v3 (len x))
           (cnd (ine (n8 (lget x (toN v3) 0)) (n8 95))
            (grd (inb v3 (len x))
             (cnd (ine (n8 (lget x (toN v3) 0)) (n8 45))
              (some false)
              (v2 (w64 (iadd v3 1)))))
            (v2 (w64 (iadd v3 1)))))
          (v2 (w64 (iadd v3 1))))))
       (v2 (w64 (iadd v3 1))))
     fun v6 =>
     grd (inb v3 (len x)) <|
     cnd (ile (n8 65) (n8 (lget x (toN v3) 0)))
      (grd (inb v3 (len x))
       (v6 (ile (n8 (lget x (toN v3) 0)) (n8 90))))
      (v6 false))
     (v1 ())) N 0))
def ps_q71 : List PK := [.k (.v (.u8) [])]
def rs_q71 : List Kd := [.v (.bool) []]
def q71 (N : Nat) (x : UInt8) : Option (Bool) :=
 cnd (ile (n8 1) (n8 x))
  (some (ile (n8 x) (n8 7)))
  (some false)
def ps_q72 : List PK := [.k (.v (.u8) [])]
def rs_q72 : List Kd := [.v (.bool) []]
def q72 (N : Nat) (x : UInt8) : Option (Bool) :=
 cnd (ieq (n8 x) (n8 4))
  (some true)
  (some (ieq (n8 x) (n8 7)))
def ps_q73 : List PK := [.k (.v Y1 [])]
def rs_q73 : List Kd := [.v (.int .i64) []]
def q73 (N : Nat) (x : D7) : Option (Int) :=
 bnd (q69 N x.1) fun v0 =>
 cnd (bnot v0)
  (some 10)
  (cnd (ilt 400 (len x.1))
   (some 9)
   (jn (fun (v1 : Bool) =>
    cnd v1
     (some 5)
     (jn (fun (v2 : Bool) =>
      cnd v2
       (some 13)
       (cnd (ilt x.2.2.2.2.1 0)
        (some 2)
        (cnd (ilt 1099511627776 x.2.2.2.2.1)
         (some 2)
         (some 0))))
     fun v3 =>
     bnd (q71 N x.2.2.1) fun v4 =>
     cnd (bnot v4)
      (v3 true)
      (cnd x.2.2.2.1
       (bnd (q72 N x.2.2.1) fun v5 =>
       v3 (bnot v5))
       (v3 false))))
   fun v6 =>
   cnd (sne x.2.1 ([] : List UInt8))
    (bnd (r07_Name N x.2.1) fun v7 =>
    v6 (bnot v7))
    (v6 false)))
def ps_q74 : List PK := [.k (.v Y4 [])]
def rs_q74 : List Kd := [.v (.int .i64) []]
def q74 (N : Nat) (x : D4) : Option (Int) :=
 bnd (r07_Name N x.1) fun v0 =>
 cnd (bnot v0)
  (some 5)
  (cnd (ilt x.2.1 0)
   (some 2)
   (cnd (ilt 14 x.2.1)
    (some 2)
    (cnd (ilt x.2.2.1 1)
     (some 2)
     (cnd (ilt (w64 (isub 15 x.2.1)) x.2.2.1)
      (some 2)
      (cnd (ilt x.2.2.2.1 0)
       (some 2)
       (cnd (ilt 31 x.2.2.2.1)
        (some 2)
        (cnd (ilt x.2.2.2.2.1 1)
         (some 2)
         (cnd (ilt (w64 (isub 32 x.2.2.2.1)) x.2.2.2.2.1)
          (some 2)
          (cnd (ine (n8 x.2.2.2.2.2.1) (n8 1))
           (cnd (ine (n8 x.2.2.2.2.2.1) (n8 2))
            (cnd (ine (n8 x.2.2.2.2.2.1) (n8 3))
             (some 3)
             (some 0))
            (some 0))
           (some 0))))))))))
def ps_q75 : List PK := [.k (.v (.slice Y4) [])]
def rs_q75 : List Kd := [.v (.int .i64) []]
def q75 (N : Nat) (x : List D4) : Option (Int) :=
 cnd (ilt 16 (len x))
  (some 9)
  (jn (fun (v0 : Unit) =>
   some 0)
  fun v1 =>
  fixN (fun v2 (v3 : Int) =>
   cnd (ilt v3 (len x))
    (grd (inb v3 (len x))
     (bnd (q74 N (lget x (toN v3) ([], (0, (0, (0, (0, (0, false)))))))) fun v4 =>
     cnd (ine v4 0)
      (some v4)
      (jn (fun (v5 : Unit) =>
       cnd (ilt 0 v3)
        (grd (inb (w64 (isub v3 1)) (len x))
         (cnd (slt (lget x (toN v3) ([], (0, (0, (0, (0, (0, false))))))).1 (lget x (toN (w64 (isub v3 1))) ([], (0, (0, (0, (0, (0, false))))))).1)
          (some 8)
          (v2 (w64 (iadd v3 1)))))
        (v2 (w64 (iadd v3 1))))
      fun v6 =>
      cnd (ilt 0 v3)
       (grd (inb (w64 (isub v3 1)) (len x))
        (cnd (seq (lget x (toN v3) ([], (0, (0, (0, (0, (0, false))))))).1 (lget x (toN (w64 (isub v3 1))) ([], (0, (0, (0, (0, (0, false))))))).1)
         (some 7)
         (v6 ())))
       (v6 ()))))
    (v1 ())) N 0)
def ps_q76 : List PK := [.k (.v (.st (.pair (.int .i64) (.int .i64))) [])]
def rs_q76 : List Kd := [.v (.bool) []]
def q76 (N : Nat) (x : Int × Int) : Option (Bool) :=
 cnd (ile 0 x.1)
  (cnd (ilt x.1 x.2)
   (some (ile x.2 5184000))
   (some false))
  (some false)
def ps_q77 : List PK := []
def rs_q77 : List Kd := [.v Y4 []]
def q77 (N : Nat) (x : Unit) : Option D4 :=
 some (([] : List UInt8), 11, 4, 0, 32, 2, true)
def ps_r10_Find : List PK := [.k (.v (.slice Y4) []), .k (.v (.str) [])]
def rs_r10_Find : List Kd := [.v Y4 [], .v (.bool) []]
def r10_Find (N : Nat) (x : (List D4) × List UInt8) : Option (D4 × Bool) :=
 cnd (seq x.2 ([] : List UInt8))
  (bnd (q77 N ()) fun v0 =>
  some (v0, true))
  (jn (fun (v1 : Unit) =>
   some ((([] : List UInt8), 0, 0, 0, 0, 0, false), false))
  fun v2 =>
  fixN (fun v3 (v4 : Int) =>
   cnd (ilt v4 (len x.1))
    (grd (inb v4 (len x.1))
     (cnd (seq (lget x.1 (toN v4) ([], (0, (0, (0, (0, (0, false))))))).1 x.2)
      (some (lget x.1 (toN v4) ([], (0, (0, (0, (0, (0, false)))))), true))
      (v3 (w64 (iadd v4 1)))))
    (v2 ())) N 0)
def ps_q78 : List PK := [.k (.v (.st (.pair (.u8) (.pair (.bool) (.bool)))) [])]
def rs_q78 : List Kd := [.v (.bool) []]
def q78 (N : Nat) (x : UInt8 × Bool × Bool) : Option (Bool) :=
 some (ile (n8 x.1) (n8 6))
def ps_q79 : List PK := [.k (.v (.st (.slice Y5)) [])]
def rs_q79 : List Kd := [.v (.int .i64) []]
def q79 (N : Nat) (x : List D5) : Option (Int) :=
 cnd (ilt 16 (len x))
  (some 9)
  (jn (fun (v0 : Unit) =>
   some 0)
  fun v1 =>
  fixN (fun v2 (v3 : Int) =>
   cnd (ilt v3 (len x))
    (grd (inb v3 (len x))
     (bnd (q69 N (lget x (toN v3) ([], ((0, (false, false)), []))).1) fun v4 =>
     cnd (bnot v4)
      (some 10)
      (cnd (seq (lget x (toN v3) ([], ((0, (false, false)), []))).1 ([] : List UInt8))
       (some 4)
       (bnd (q78 N (lget x (toN v3) ([], ((0, (false, false)), []))).2.1) fun v5 =>
       cnd (bnot v5)
        (some 12)
        (bnd (q69 N (lget x (toN v3) ([], ((0, (false, false)), []))).2.2) fun v6 =>
        cnd (bnot v6)
         (some 10)
         (cnd (ilt 0 v3)
          (grd (inb (w64 (isub v3 1)) (len x))
           (cnd (band (ieq (n8 (lget x (toN (w64 (isub v3 1))) ([], ((0, (false, false)), []))).2.1.1) (n8 (lget x (toN v3) ([], ((0, (false, false)), []))).2.1.1)) (band (beqb (lget x (toN (w64 (isub v3 1))) ([], ((0, (false, false)), []))).2.1.2.1 (lget x (toN v3) ([], ((0, (false, false)), []))).2.1.2.1) (beqb (lget x (toN (w64 (isub v3 1))) ([], ((0, (false, false)), []))).2.1.2.2 (lget x (toN v3) ([], ((0, (false, false)), []))).2.1.2.2)))
            (grd (inb (w64 (isub v3 1)) (len x))
             (cnd (seq (lget x (toN (w64 (isub v3 1))) ([], ((0, (false, false)), []))).2.2 ([] : List UInt8))
              (cnd (seq (lget x (toN v3) ([], ((0, (false, false)), []))).2.2 ([] : List UInt8))
               (some 8)
               (v2 (w64 (iadd v3 1))))
              (v2 (w64 (iadd v3 1)))))
            (v2 (w64 (iadd v3 1)))))
          (v2 (w64 (iadd v3 1)))))))))
    (v1 ())) N 0)
def ps_q80 : List PK := [.k (.v (.st (.slice Y5)) [])]
def rs_q80 : List Kd := [.v (.str) []]
def q80 (N : Nat) (x : List D5) : Option (List UInt8) :=
 jn (fun (v0 : List UInt8) =>
  some v0)
 fun v1 =>
 fixN (fun v2 (v3 : (List UInt8) × Int) =>
  cnd (ilt v3.2 (len x))
   (grd (inb v3.2 (len x))
    (grd (catOk (iadd (len v3.1) (len (lget x (toN v3.2) ([], ((0, (false, false)), []))).1)))
     (v2 (lapp v3.1 (lget x (toN v3.2) ([], ((0, (false, false)), []))).1, w64 (iadd v3.2 1)))))
   (v1 v3.1)) N (([] : List UInt8), 0)
def ps_r11_neat : List PK := [.k (.v (.str) [])]
def rs_r11_neat : List Kd := [.v (.bool) []]
def r11_neat (N : Nat) (x : List UInt8) : Option (Bool) :=
 cnd (seq x ([] : List UInt8))
  (some false)
  (grd (inb 0 (len x))
   (cnd (ieq (n8 (lget x (toN 0) 0)) (n8 32))
    (some false)
    (grd (inb (w64 (isub (len x) 1)) (len x))
     (cnd (ieq (n8 (lget x (toN (w64 (isub (len x) 1))) 0)) (n8 32))
      (some false)
      (jn (fun (v0 : Unit) =>
       some true)
      fun v1 =>
      fixN (fun v2 (v3 : Int) =>
       cnd (ilt v3 (len x))
        (grd (inb v3 (len x))
         (cnd (ieq (n8 (lget x (toN v3) 0)) (n8 32))
          (grd (inb (w64 (isub v3 1)) (len x))
           (cnd (ieq (n8 (lget x (toN (w64 (isub v3 1))) 0)) (n8 32))
            (some false)
            (v2 (w64 (iadd v3 1)))))
          (v2 (w64 (iadd v3 1)))))
        (v1 ())) N 1)))))
def ps_q81 : List PK := [.k (.v (.str) [])]
def rs_q81 : List Kd := [.v (.slice (.int .i32)) [0]]
def q81 (N : Nat) (x : List UInt8) : Option (List Int) :=
 jn (fun (v0 : List Int) =>
  some v0)
 fun v1 =>
 fixN (fun v2 (v3 : (List Int) × (List UInt8) × Int) =>
  cnd (nlt (toN v3.2.2) (nlen v3.2.1))
   (grd (room (iadd (len v3.1) (len ([decR v3.2.1 (toN v3.2.2)] : List Int))) 4)
    (v2 (lapp v3.1 ([decR v3.2.1 (toN v3.2.2)] : List Int), v3.2.1, ofN (nadd (toN v3.2.2) (decW v3.2.1 (toN v3.2.2))))))
   (v1 v3.1)) N (([] : List Int), x, ofN 0)
def ps_r08_Len : List PK := [.k (.v (.str) [])]
def rs_r08_Len : List Kd := [.v (.int .i64) []]
def r08_Len (N : Nat) (x : List UInt8) : Option (Int) :=
 bnd (q69 N x) fun v0 =>
 cnd (bnot v0)
  (some (-1))
  (bnd (q81 N x) fun v1 =>
  some (len v1))
def ps_r09_Len : List PK := [.k (.v (.st (.slice Y5)) [])]
def rs_r09_Len : List Kd := [.v (.int .i64) []]
def r09_Len (N : Nat) (x : List D5) : Option (Int) :=
 jn (fun (v0 : Int) =>
  some v0)
 fun v1 =>
 fixN (fun v2 (v3 : Int × Int) =>
  cnd (ilt v3.2 (len x))
   (grd (inb v3.2 (len x))
    (bnd (r08_Len N (lget x (toN v3.2) ([], ((0, (false, false)), []))).1) fun v4 =>
    cnd (ilt v4 0)
     (some (-1))
     (v2 (w64 (iadd v3.1 v4), w64 (iadd v3.2 1)))))
   (v1 v3.1)) N (0, 0)
def ps_q82 : List PK := [.k (.v Y4 [])]
def rs_q82 : List Kd := [.v (.bool) []]
def q82 (N : Nat) (x : D4) : Option (Bool) :=
 bnd (q74 N x) fun v0 =>
 cnd (ieq v0 0)
  (some true)
  (bnd (q77 N ()) fun v1 =>
  some (band (seq x.1 v1.1) (band (ieq x.2.1 v1.2.1) (band (ieq x.2.2.1 v1.2.2.1) (band (ieq x.2.2.2.1 v1.2.2.2.1) (band (ieq x.2.2.2.2.1 v1.2.2.2.2.1) (band (ieq (n8 x.2.2.2.2.2.1) (n8 v1.2.2.2.2.2.1)) (beqb x.2.2.2.2.2.2 v1.2.2.2.2.2.2))))))))
def ps_q83 : List PK := [.k (.v Y4 []), .k (.v (.slice (.int .i64)) [])]
def rs_q83 : List Kd := [.v (.slice Y7) [0], .v (.int .i64) []]
def q83 (N : Nat) (x : D4 × List Int) : Option ((List (Int × Int × Int)) × Int) :=
 bnd (q82 N x.1) fun v0 =>
 cnd (bnot v0)
  (some (([] : List (Int × Int × Int)), 1))
  (cnd (ilt x.1.2.2.1 (len x.2))
   (some (([] : List (Int × Int × Int)), 9))
   (jn (fun (v1 : List (Int × Int × Int)) =>
    some (v1, 0))
   fun v2 =>
   fixN (fun v3 (v4 : (List (Int × Int × Int)) × Int) =>
    cnd (ilt v4.2 (len x.2))
     (grd (inb v4.2 (len x.2))
      (cnd (ilt (lget x.2 (toN v4.2) 0) 0)
       (some (([] : List (Int × Int × Int)), 2))
       (cnd (ilt x.1.2.2.2.2.1 (lget x.2 (toN v4.2) 0))
        (some (([] : List (Int × Int × Int)), 11))
        (jn (fun (v5 : Int × Int × Int) =>
         cnd (ieq (n8 x.1.2.2.2.2.2.1) (n8 3))
          (grd (room (iadd (len v4.1) (len ([(v5.1, w64 (iadd v5.2.1 (w64 (isub x.1.2.2.2.2.1 (lget x.2 (toN v4.2) 0)))), v5.2.2)] : List (Int × Int × Int)))) 24)
           (v3 (lapp v4.1 ([(v5.1, w64 (iadd v5.2.1 (w64 (isub x.1.2.2.2.2.1 (lget x.2 (toN v4.2) 0)))), v5.2.2)] : List (Int × Int × Int)), w64 (iadd v4.2 1))))
          (cnd (ieq (n8 x.1.2.2.2.2.2.1) (n8 2))
           (grd (room (iadd (len v4.1) (len ([(v5.1, w64 (iadd v5.2.1 (w64 (idiv (w64 (isub x.1.2.2.2.2.1 (lget x.2 (toN v4.2) 0))) 2))), v5.2.2)] : List (Int × Int × Int)))) 24)
            (v3 (lapp v4.1 ([(v5.1, w64 (iadd v5.2.1 (w64 (idiv (w64 (isub x.1.2.2.2.2.1 (lget x.2 (toN v4.2) 0))) 2))), v5.2.2)] : List (Int × Int × Int)), w64 (iadd v4.2 1))))
           (grd (room (iadd (len v4.1) (len ([v5] : List (Int × Int × Int)))) 24)
            (v3 (lapp v4.1 ([v5] : List (Int × Int × Int)), w64 (iadd v4.2 1))))))
        fun v6 =>
        cnd x.1.2.2.2.2.2.2
         (v6 (w64 (iadd (w64 (iadd x.1.2.1 v4.2)) (w64 (isub x.1.2.2.1 (len x.2)))), x.1.2.2.2.1, lget x.2 (toN v4.2) 0))
         (v6 (w64 (iadd x.1.2.1 v4.2), x.1.2.2.2.1, lget x.2 (toN v4.2) 0))))))
     (v2 v4.1)) N (([] : List (Int × Int × Int)), 0)))
def ps_q84 : List PK := [.k (.v Y2 []), .k (.v (.slice Y4) [])]
def rs_q84 : List Kd := [.v (.int .i64) []]
def q84 (N : Nat) (x : D1 × List D4) : Option (Int) :=
 cnd (ilt x.1.1 1)
  (some 2)
  (cnd (ilt 1099511627776 x.1.1)
   (some 2)
   (bnd (q76 N x.1.2.1) fun v0 =>
   cnd (bnot v0)
    (some 2)
    (bnd (r10_Find N (x.2, x.1.2.2.1)) fun v1 =>
    cnd (bnot v1.2)
     (some 6)
     (cnd (ilt (n8 x.1.2.2.2.1) (n8 1))
      (some 3)
      (cnd (ilt (n8 4) (n8 x.1.2.2.2.1))
       (some 3)
       (jn (fun (v2 : Bool) =>
        cnd v2
         (some 5)
         (cnd (ieq (len x.1.2.2.2.2.2) 0)
          (some 9)
          (cnd (ilt 4 (len x.1.2.2.2.2.2))
           (some 9)
           (jn (fun (v3 : List Int) =>
            bnd (q83 N (v1.1, v3)) fun v4 =>
            some v4.2)
           fun v5 =>
           fixN (fun v6 (v7 : (List Int) × Int) =>
            cnd (ilt v7.2 (len x.1.2.2.2.2.2))
             (grd (inb v7.2 (len x.1.2.2.2.2.2))
              (bnd (q79 N (lget x.1.2.2.2.2.2 (toN v7.2) [])) fun v8 =>
              cnd (ine v8 0)
               (some v8)
               (bnd (q80 N (lget x.1.2.2.2.2.2 (toN v7.2) [])) fun v9 =>
               bnd (r11_neat N v9) fun v10 =>
               cnd (bnot v10)
                (some 4)
                (bnd (r09_Len N (lget x.1.2.2.2.2.2 (toN v7.2) [])) fun v11 =>
                cnd (ilt 32 v11)
                 (some 11)
                 (bnd (r09_Len N (lget x.1.2.2.2.2.2 (toN v7.2) [])) fun v12 =>
                 grd (room (iadd (len v7.1) (len ([v12] : List Int))) 8) <|
                 v6 (lapp v7.1 ([v12] : List Int), w64 (iadd v7.2 1)))))))
             (v5 v7.1)) N (([] : List Int), 0)))))
       fun v13 =>
       cnd (sne x.1.2.2.2.2.1 ([] : List UInt8))
        (bnd (r07_Name N x.1.2.2.2.2.1) fun v14 =>
        v13 (bnot v14))
        (v13 false)))))))
def ps_r11_Less : List PK := [.k (.v Y2 []), .k (.v Y2 [])]
def rs_r11_Less : List Kd := [.v (.bool) []]
def r11_Less (N : Nat) (x : D1 × Int × (Int × Int) × (List UInt8) × UInt8 × (List UInt8) × List (List D5)) : Option (Bool) :=
 cnd (ilt x.1.2.1.1 x.2.2.1.1)
  (some true)
  (cnd (ieq x.1.2.1.1 x.2.2.1.1)
   (some (ilt x.1.1 x.2.1))
   (some false))
def ps_r12_Find : List PK := [.k (.v Y1 []), .k (.v (.int .i64) [])]
def rs_r12_Find : List Kd := [.v (.int .i64) []]
def r12_Find (N : Nat) (x : D7 × Int) : Option (Int) :=
 jn (fun (v0 : Unit) =>
  some (-1))
 fun v1 =>
 fixN (fun v2 (v3 : Int) =>
  cnd (ilt v3 (len x.1.2.2.2.2.2.2.1))
   (grd (inb v3 (len x.1.2.2.2.2.2.2.1))
    (cnd (ieq (lget x.1.2.2.2.2.2.2.1 (toN v3) (0, ((0, 0), ([], (0, ([], [])))))).1 x.2)
     (some v3)
     (v2 (w64 (iadd v3 1)))))
   (v1 ())) N 0
def ps_r11_Len : List PK := [.k (.v Y2 [])]
def rs_r11_Len : List Kd := [.v (.int .i64) []]
def r11_Len (N : Nat) (x : D1) : Option (Int) :=
 jn (fun (v0 : Int) =>
  some v0)
 fun v1 =>
 fixN (fun v2 (v3 : Int × Int) =>
  cnd (ilt v3.2 (len x.2.2.2.2.2))
   (grd (inb v3.2 (len x.2.2.2.2.2))
    (bnd (r09_Len N (lget x.2.2.2.2.2 (toN v3.2) [])) fun v4 =>
    cnd (ilt v4 0)
     (some (-1))
     (cnd (ilt 0 v3.2)
      (v2 (w64 (iadd (w64 (iadd v3.1 1)) v4), w64 (iadd v3.2 1)))
      (v2 (w64 (iadd v3.1 v4), w64 (iadd v3.2 1))))))
   (v1 v3.1)) N (0, 0)
def ps_q85 : List PK := [.k (.v Y1 []), .k (.v (.int .i64) [])]
def rs_q85 : List Kd := [.v (.int .i64) []]
def q85 (N : Nat) (x : D7 × Int) : Option (Int) :=
 grd (inb x.2 (len x.1.2.2.2.2.2.2.2)) <|
 cnd (ilt (lget x.1.2.2.2.2.2.2.2 (toN x.2) (0, (0, (0, (0, ([], ([], (false, false)))))))).1 1)
  (some 2)
  (cnd (ilt x.1.2.2.2.2.1 (lget x.1.2.2.2.2.2.2.2 (toN x.2) (0, (0, (0, (0, ([], ([], (false, false)))))))).1)
   (some 2)
   (jn (fun (v0 : Unit) =>
    bnd (r12_Find N (x.1, (lget x.1.2.2.2.2.2.2.2 (toN x.2) (0, (0, (0, (0, ([], ([], (false, false)))))))).1)) fun v1 =>
    cnd (ile 0 v1)
     (some 7)
     (cnd (ilt (lget x.1.2.2.2.2.2.2.2 (toN x.2) (0, (0, (0, (0, ([], ([], (false, false)))))))).2.1 1)
      (some 2)
      (cnd (ilt x.1.2.2.2.2.1 (lget x.1.2.2.2.2.2.2.2 (toN x.2) (0, (0, (0, (0, ([], ([], (false, false)))))))).2.1)
       (some 2)
       (jn (fun (v2 : Unit) =>
        bnd (r07_Name N (lget x.1.2.2.2.2.2.2.2 (toN x.2) (0, (0, (0, (0, ([], ([], (false, false)))))))).2.2.2.2.1) fun v3 =>
        cnd (bnot v3)
         (some 5)
         (bnd (q69 N (lget x.1.2.2.2.2.2.2.2 (toN x.2) (0, (0, (0, (0, ([], ([], (false, false)))))))).2.2.2.2.2.1) fun v4 =>
         cnd (bnot v4)
          (some 10)
          (cnd (seq (lget x.1.2.2.2.2.2.2.2 (toN x.2) (0, (0, (0, (0, ([], ([], (false, false)))))))).2.2.2.2.2.1 ([] : List UInt8))
           (some 4)
           (cnd (ilt 400 (len (lget x.1.2.2.2.2.2.2.2 (toN x.2) (0, (0, (0, (0, ([], ([], (false, false)))))))).2.2.2.2.2.1))
            (some 9)
            (some 0)))))
       fun v5 =>
       cnd (lget x.1.2.2.2.2.2.2.2 (toN x.2) (0, (0, (0, (0, ([], ([], (false, false)))))))).2.2.2.2.2.2.2
        (cnd (ine (lget x.1.2.2.2.2.2.2.2 (toN x.2) (0, (0, (0, (0, ([], ([], (false, false)))))))).2.2.1 0)
         (some 2)
         (cnd (ine (lget x.1.2.2.2.2.2.2.2 (toN x.2) (0, (0, (0, (0, ([], ([], (false, false)))))))).2.2.2.1 0)
          (some 2)
          (v5 ())))
        (bnd (r12_Find N (x.1, (lget x.1.2.2.2.2.2.2.2 (toN x.2) (0, (0, (0, (0, ([], ([], (false, false)))))))).2.1)) fun v6 =>
        cnd (ilt v6 0)
         (some 6)
         (cnd (ilt (lget x.1.2.2.2.2.2.2.2 (toN x.2) (0, (0, (0, (0, ([], ([], (false, false)))))))).2.2.1 0)
          (some 2)
          (cnd (ile (lget x.1.2.2.2.2.2.2.2 (toN x.2) (0, (0, (0, (0, ([], ([], (false, false)))))))).2.2.2.1 (lget x.1.2.2.2.2.2.2.2 (toN x.2) (0, (0, (0, (0, ([], ([], (false, false)))))))).2.2.1)
           (some 2)
           (grd (inb v6 (len x.1.2.2.2.2.2.2.1))
            (bnd (r11_Len N (lget x.1.2.2.2.2.2.2.1 (toN v6) (0, ((0, 0), ([], (0, ([], []))))))) fun v7 =>
            cnd (ilt v7 (lget x.1.2.2.2.2.2.2.2 (toN x.2) (0, (0, (0, (0, ([], ([], (false, false)))))))).2.2.2.1)
             (some 2)
             (v5 ()))))))))))
   fun v8 =>
   cnd (ilt 0 x.2)
    (grd (inb (w64 (isub x.2 1)) (len x.1.2.2.2.2.2.2.2))
     (cnd (ile (lget x.1.2.2.2.2.2.2.2 (toN x.2) (0, (0, (0, (0, ([], ([], (false, false)))))))).1 (lget x.1.2.2.2.2.2.2.2 (toN (w64 (isub x.2 1))) (0, (0, (0, (0, ([], ([], (false, false)))))))).1)
      (some 8)
      (v8 ())))
    (v8 ())))
def ps_q86 : List PK := [.k (.v Y1 [])]
def rs_q86 : List Kd := [.v (.int .i64) []]
def q86 (N : Nat) (x : D7) : Option (Int) :=
 bnd (q73 N x) fun v0 =>
 cnd (ine v0 0)
  (some v0)
  (bnd (q75 N x.2.2.2.2.2.1) fun v1 =>
  cnd (ine v1 0)
   (some v1)
   (cnd (ilt 400 (len x.2.2.2.2.2.2.1))
    (some 9)
    (jn (fun (v2 : Unit) =>
     cnd (ilt 64 (len x.2.2.2.2.2.2.2))
      (some 9)
      (jn (fun (v3 : Unit) =>
       some 0)
      fun v4 =>
      fixN (fun v5 (v6 : Int) =>
       cnd (ilt v6 (len x.2.2.2.2.2.2.2))
        (bnd (q85 N (x, v6)) fun v7 =>
        cnd (ine v7 0)
         (some v7)
         (v5 (w64 (iadd v6 1))))
        (v4 ())) N 0))
    fun v8 =>
    fixN (fun v9 (v10 : Int) =>
     cnd (ilt v10 (len x.2.2.2.2.2.2.1))
      (grd (inb v10 (len x.2.2.2.2.2.2.1))
       (bnd (q84 N (lget x.2.2.2.2.2.2.1 (toN v10) (0, ((0, 0), ([], (0, ([], []))))), x.2.2.2.2.2.1)) fun v11 =>
       cnd (ine v11 0)
        (some v11)
        (cnd (ilt x.2.2.2.2.1 (lget x.2.2.2.2.2.2.1 (toN v10) (0, ((0, 0), ([], (0, ([], [])))))).1)
         (some 2)
         (cnd (ilt 0 v10)
          (grd (inb (w64 (isub v10 1)) (len x.2.2.2.2.2.2.1))
           (bnd (r11_Less N (lget x.2.2.2.2.2.2.1 (toN (w64 (isub v10 1))) (0, ((0, 0), ([], (0, ([], []))))), lget x.2.2.2.2.2.2.1 (toN v10) (0, ((0, 0), ([], (0, ([], []))))))) fun v12 =>
           cnd (bnot v12)
            (some 8)
            (bnd (r12_Find N (x, (lget x.2.2.2.2.2.2.1 (toN v10) (0, ((0, 0), ([], (0, ([], [])))))).1)) fun v13 =>
            cnd (ine v13 v10)
             (some 7)
             (v9 (w64 (iadd v10 1))))))
          (bnd (r12_Find N (x, (lget x.2.2.2.2.2.2.1 (toN v10) (0, ((0, 0), ([], (0, ([], [])))))).1)) fun v14 =>
          cnd (ine v14 v10)
           (some 7)
           (v9 (w64 (iadd v10 1))))))))
      (v8 ())) N 0)))
def ps_r21_some : List PK := [.k (.v (.str) []), .k (.v (.str) [])]
def rs_r21_some : List Kd := [.v Y8 [0]]
def r21_some (N : Nat) (x : List UInt8 × List UInt8) : Option (List D6) :=
 cnd (seq x.2 ([] : List UInt8))
  (some ([] : List D6))
  (some ([x] : List D6))
def ps_r02_Name : List PK := [.k (.v (.u8) [])]
def rs_r02_Name : List Kd := [.v (.str) []]
def r02_Name (N : Nat) (x : UInt8) : Option (List UInt8) :=
 bnd (q71 N x) fun v0 =>
 cnd (bnot v0)
  (some ([] : List UInt8))
  (grd (inb (n8 (b8 (isub (n8 x) (n8 1)))) (len ([([50, 51, 46, 57, 55, 54] : List UInt8), ([50, 52] : List UInt8), ([50, 53] : List UInt8), ([50, 57, 46, 57, 55] : List UInt8), ([51, 48] : List UInt8), ([53, 48] : List UInt8), ([53, 57, 46, 57, 52] : List UInt8)] : List (List UInt8))))
   (some (lget ([([50, 51, 46, 57, 55, 54] : List UInt8), ([50, 52] : List UInt8), ([50, 53] : List UInt8), ([50, 57, 46, 57, 55] : List UInt8), ([51, 48] : List UInt8), ([53, 48] : List UInt8), ([53, 57, 46, 57, 52] : List UInt8)] : List (List UInt8)) (toN (n8 (b8 (isub (n8 x) (n8 1))))) [])))
def ps_r21_one : List PK := [.k (.v (.bool) [])]
def rs_r21_one : List Kd := [.v (.str) []]
def r21_one (N : Nat) (x : Bool) : Option (List UInt8) :=
 cnd x
  (some ([49] : List UInt8))
  (some ([] : List UInt8))
def ps_q87 : List PK := [.k (.v (.int .i64) [])]
def rs_q87 : List Kd := [.v (.str) []]
def q87 (N : Nat) (x : Int) : Option (List UInt8) :=
 jn (fun (v0 : Int × List UInt8) =>
  jn (fun (v1 : Int × List UInt8) =>
   grd (in3 v1.1 (wr .u64 (iadd v1.1 1)) (len ([48, 49, 50, 51, 52, 53, 54, 55, 56, 57] : List UInt8))) <|
   grd (catOk (iadd (len v0.2) (len (ldrop (toN v1.1) (ltake (toN (wr .u64 (iadd v1.1 1))) ([48, 49, 50, 51, 52, 53, 54, 55, 56, 57] : List UInt8)))))) <|
   grd (catOk (iadd (len (lapp v0.2 (ldrop (toN v1.1) (ltake (toN (wr .u64 (iadd v1.1 1))) ([48, 49, 50, 51, 52, 53, 54, 55, 56, 57] : List UInt8))))) (len v1.2))) <|
   some (lapp (lapp v0.2 (ldrop (toN v1.1) (ltake (toN (wr .u64 (iadd v1.1 1))) ([48, 49, 50, 51, 52, 53, 54, 55, 56, 57] : List UInt8)))) v1.2))
  fun v2 =>
  fixN (fun v3 (v4 : Int × List UInt8) =>
   cnd (ile 10 v4.1)
    (grd (in3 (imod v4.1 10) (wr .u64 (iadd (imod v4.1 10) 1)) (len ([48, 49, 50, 51, 52, 53, 54, 55, 56, 57] : List UInt8)))
     (grd (catOk (iadd (len (ldrop (toN (imod v4.1 10)) (ltake (toN (wr .u64 (iadd (imod v4.1 10) 1))) ([48, 49, 50, 51, 52, 53, 54, 55, 56, 57] : List UInt8)))) (len v4.2)))
      (v3 (wr .u64 (idiv v4.1 10), lapp (ldrop (toN (imod v4.1 10)) (ltake (toN (wr .u64 (iadd (imod v4.1 10) 1))) ([48, 49, 50, 51, 52, 53, 54, 55, 56, 57] : List UInt8))) v4.2))))
    (v2 v4)) N (v0.1, ([] : List UInt8)))
 fun v5 =>
 cnd (ilt x 0)
  (v5 (wr .u64 (isub 0 (wr .u64 x)), ([45] : List UInt8)))
  (v5 (wr .u64 x, ([] : List UInt8)))
def ps_q88 : List PK := [.k (.v (.str) []), .k (.v (.int .i64) [])]
def rs_q88 : List Kd := [.v Y8 [0]]
def q88 (N : Nat) (x : List UInt8 × Int) : Option (List D6) :=
 bnd (q87 N x.2) fun v0 =>
 bnd (r21_some N (x.1, v0)) fun v1 =>
 some v1
def ps_q89 : List PK := [.k (.v (.slice Y8) [])]
def rs_q89 : List Kd := [.v Y8 [0]]
def q89 (N : Nat) (x : List (List D6)) : Option (List D6) :=
 jn (fun (v0 : List D6) =>
  some v0)
 fun v1 =>
 fixN (fun v2 (v3 : (List D6) × Int) =>
  cnd (ilt v3.2 (len x))
   (grd (inb v3.2 (len x))
    (grd (room (iadd (len v3.1) (len (lget x (toN v3.2) []))) 32)
     (v2 (lapp v3.1 (lget x (toN v3.2) []), w64 (iadd v3.2 1)))))
   (v1 v3.1)) N (([] : List D6), 0)
def ps_q90 : List PK := []
def rs_q90 : List Kd := [.v (.slice (.str)) [0]]
def q90 (N : Nat) (x : Unit) : Option (List (List UInt8)) :=
 some ([([] : List UInt8), ([76, 69, 70, 84] : List UInt8), ([67, 69, 78, 84, 69, 82] : List UInt8), ([82, 73, 71, 72, 84] : List UInt8)] : List (List UInt8))
def ps_q91 : List PK := []
def rs_q91 : List Kd := [.v (.slice (.str)) [0]]
def q91 (N : Nat) (x : Unit) : Option (List (List UInt8)) :=
 some ([([68, 73, 65, 76, 79, 71, 85, 69] : List UInt8), ([83, 79, 85, 78, 68] : List UInt8), ([84, 73, 84, 76, 69] : List UInt8), ([77, 85, 83, 73, 67] : List UInt8)] : List (List UInt8))
def ps_q92 : List PK := [.k (.v (.u8) [])]
def rs_q92 : List Kd := [.v (.str) []]
def q92 (N : Nat) (x : UInt8) : Option (List UInt8) :=
 cnd (ilt (n8 x) (n8 1))
  (some ([] : List UInt8))
  (cnd (ilt (n8 4) (n8 x))
   (some ([] : List UInt8))
   (bnd (q91 N ()) fun v0 =>
   grd (inb (n8 (b8 (isub (n8 x) (n8 1)))) (len v0)) <|
   some (lget v0 (toN (n8 (b8 (isub (n8 x) (n8 1))))) [])))
def ps_q93 : List PK := []
def rs_q93 : List Kd := [.v (.slice (.str)) [0]]
def q93 (N : Nat) (x : Unit) : Option (List (List UInt8)) :=
 some ([([119, 104, 105, 116, 101] : List UInt8), ([103, 114, 101, 101, 110] : List UInt8), ([98, 108, 117, 101] : List UInt8), ([99, 121, 97, 110] : List UInt8), ([114, 101, 100] : List UInt8), ([121, 101, 108, 108, 111, 119] : List UInt8), ([109, 97, 103, 101, 110, 116, 97] : List UInt8)] : List (List UInt8))
def ps_q94 : List PK := [.k (.v Y1 [])]
def rs_q94 : List Kd := [.v (.slice Y3) [0], .v (.int .i64) []]
def q94 (N : Nat) (x : D7) : Option ((List D2) × Int) :=
 bnd (q86 N x) fun v0 =>
 cnd (ine v0 0)
  (some (([] : List D2), v0))
  (bnd (r21_some N (([116, 105, 116, 108, 101] : List UInt8), x.1)) fun v1 =>
  bnd (r21_some N (([108, 97, 110, 103] : List UInt8), x.2.1)) fun v2 =>
  bnd (r02_Name N x.2.2.1) fun v3 =>
  bnd (r21_some N (([114, 97, 116, 101] : List UInt8), v3)) fun v4 =>
  bnd (r21_one N x.2.2.2.1) fun v5 =>
  bnd (r21_some N (([100, 114, 111, 112] : List UInt8), v5)) fun v6 =>
  bnd (q88 N (([108, 97, 115, 116] : List UInt8), x.2.2.2.2.1)) fun v7 =>
  bnd (q89 N ([v1, v2, v4, v6, v7] : List (List D6))) fun v8 =>
  jn (fun (v9 : List D2) =>
   jn (fun (v10 : List D2) =>
    cnd (ilt 8192 (len v10))
     (some (([] : List D2), 9))
     (some (v10, 0)))
   fun v11 =>
   fixN (fun v12 (v13 : (List D2) × Int) =>
    cnd (ilt v13.2 (len x.2.2.2.2.2.2.1))
     (jn (fun (v14 : List D2) =>
      v12 (v14, w64 (iadd v13.2 1)))
     fun v15 =>
     grd (inb v13.2 (len x.2.2.2.2.2.2.1)) <|
     bnd (q88 N (([105, 100] : List UInt8), (lget x.2.2.2.2.2.2.1 (toN v13.2) (0, ((0, 0), ([], (0, ([], [])))))).1)) fun v16 =>
     bnd (q87 N (lget x.2.2.2.2.2.2.1 (toN v13.2) (0, ((0, 0), ([], (0, ([], [])))))).2.1.1) fun v17 =>
     grd (catOk (iadd (len v17) (len ([102] : List UInt8)))) <|
     bnd (r21_some N (([105, 110] : List UInt8), lapp v17 ([102] : List UInt8))) fun v18 =>
     bnd (q87 N (lget x.2.2.2.2.2.2.1 (toN v13.2) (0, ((0, 0), ([], (0, ([], [])))))).2.1.2) fun v19 =>
     grd (catOk (iadd (len v19) (len ([102] : List UInt8)))) <|
     bnd (r21_some N (([111, 117, 116] : List UInt8), lapp v19 ([102] : List UInt8))) fun v20 =>
     bnd (r21_some N (([114, 101, 103, 105, 111, 110] : List UInt8), (lget x.2.2.2.2.2.2.1 (toN v13.2) (0, ((0, 0), ([], (0, ([], [])))))).2.2.1)) fun v21 =>
     bnd (q92 N (lget x.2.2.2.2.2.2.1 (toN v13.2) (0, ((0, 0), ([], (0, ([], [])))))).2.2.2.1) fun v22 =>
     bnd (r21_some N (([107, 105, 110, 100] : List UInt8), v22)) fun v23 =>
     bnd (r21_some N (([115, 112, 101, 97, 107, 101, 114] : List UInt8), (lget x.2.2.2.2.2.2.1 (toN v13.2) (0, ((0, 0), ([], (0, ([], [])))))).2.2.2.2.1)) fun v24 =>
     bnd (q89 N ([v16, v18, v20, v21, v23, v24] : List (List D6))) fun v25 =>
     grd (room (iadd (len v13.1) (len ([(([112] : List UInt8), ([] : List UInt8), v25, 1)] : List D2))) 64) <|
     fixN (fun v26 (v27 : (List D2) × Int) =>
      cnd (ilt v27.2 (len (lget x.2.2.2.2.2.2.1 (toN v13.2) (0, ((0, 0), ([], (0, ([], [])))))).2.2.2.2.2))
       (jn (fun (v28 : List D2) =>
        v26 (v28, w64 (iadd v27.2 1)))
       fun v29 =>
       grd (inb v27.2 (len (lget x.2.2.2.2.2.2.1 (toN v13.2) (0, ((0, 0), ([], (0, ([], [])))))).2.2.2.2.2)) <|
       grd (room (iadd (len v27.1) (len ([(([114, 111, 119] : List UInt8), ([] : List UInt8), ([] : List D6), 2)] : List D2))) 64) <|
       fixN (fun v30 (v31 : (List D2) × Int) =>
        cnd (ilt v31.2 (len (lget (lget x.2.2.2.2.2.2.1 (toN v13.2) (0, ((0, 0), ([], (0, ([], [])))))).2.2.2.2.2 (toN v27.2) [])))
         (grd (inb v31.2 (len (lget (lget x.2.2.2.2.2.2.1 (toN v13.2) (0, ((0, 0), ([], (0, ([], [])))))).2.2.2.2.2 (toN v27.2) [])))
          (bnd (q93 N ()) fun v32 =>
          grd (inb (n8 (lget (lget (lget x.2.2.2.2.2.2.1 (toN v13.2) (0, ((0, 0), ([], (0, ([], [])))))).2.2.2.2.2 (toN v27.2) []) (toN v31.2) ([], ((0, (false, false)), []))).2.1.1) (len v32)) <|
          jn (fun (v33 : List UInt8) =>
           bnd (r21_some N (([99, 111, 108, 111, 114] : List UInt8), v33)) fun v34 =>
           bnd (r21_one N (lget (lget (lget x.2.2.2.2.2.2.1 (toN v13.2) (0, ((0, 0), ([], (0, ([], [])))))).2.2.2.2.2 (toN v27.2) []) (toN v31.2) ([], ((0, (false, false)), []))).2.1.2.1) fun v35 =>
           bnd (r21_some N (([105, 116, 97, 108, 105, 99] : List UInt8), v35)) fun v36 =>
           bnd (r21_one N (lget (lget (lget x.2.2.2.2.2.2.1 (toN v13.2) (0, ((0, 0), ([], (0, ([], [])))))).2.2.2.2.2 (toN v27.2) []) (toN v31.2) ([], ((0, (false, false)), []))).2.1.2.2) fun v37 =>
           bnd (r21_some N (([117, 110, 100, 101, 114, 108, 105, 110, 101] : List UInt8), v37)) fun v38 =>
           bnd (r21_some N (([114, 117, 98, 121] : List UInt8), (lget (lget (lget x.2.2.2.2.2.2.1 (toN v13.2) (0, ((0, 0), ([], (0, ([], [])))))).2.2.2.2.2 (toN v27.2) []) (toN v31.2) ([], ((0, (false, false)), []))).2.2)) fun v39 =>
           bnd (q89 N ([v34, v36, v38, v39] : List (List D6))) fun v40 =>
           grd (room (iadd (len v31.1) (len ([(([114, 117, 110] : List UInt8), ([] : List UInt8), v40, 3), (([] : List UInt8), (lget (lget (lget x.2.2.2.2.2.2.1 (toN v13.2) (0, ((0, 0), ([], (0, ([], [])))))).2.2.2.2.2 (toN v27.2) []) (toN v31.2) ([], ((0, (false, false)), []))).1, ([] : List D6), 4)] : List D2))) 64) <|
           v30 (lapp v31.1 ([(([114, 117, 110] : List UInt8), ([] : List UInt8), v40, 3), (([] : List UInt8), (lget (lget (lget x.2.2.2.2.2.2.1 (toN v13.2) (0, ((0, 0), ([], (0, ([], [])))))).2.2.2.2.2 (toN v27.2) []) (toN v31.2) ([], ((0, (false, false)), []))).1, ([] : List D6), 4)] : List D2), w64 (iadd v31.2 1)))
          fun v41 =>
          cnd (ieq (n8 (lget (lget (lget x.2.2.2.2.2.2.1 (toN v13.2) (0, ((0, 0), ([], (0, ([], [])))))).2.2.2.2.2 (toN v27.2) []) (toN v31.2) ([], ((0, (false, false)), []))).2.1.1) (n8 0))
           (v41 ([] : List UInt8))
           (v41 (lget v32 (toN (n8 (lget (lget (lget x.2.2.2.2.2.2.1 (toN v13.2) (0, ((0, 0), ([], (0, ([], [])))))).2.2.2.2.2 (toN v27.2) []) (toN v31.2) ([], ((0, (false, false)), []))).2.1.1)) []))))
         (v29 v31.1)) N (lapp v27.1 ([(([114, 111, 119] : List UInt8), ([] : List UInt8), ([] : List D6), 2)] : List D2), 0))
       (v15 v27.1)) N (lapp v13.1 ([(([112] : List UInt8), ([] : List UInt8), v25, 1)] : List D2), 0))
     (v11 v13.1)) N (v9, 0))
  fun v42 =>
  fixN (fun v43 (v44 : (List D2) × Int) =>
   cnd (ilt v44.2 (len x.2.2.2.2.2.1))
    (grd (inb v44.2 (len x.2.2.2.2.2.1))
     (jn (fun (v45 : List UInt8) =>
      bnd (r21_some N (([110, 97, 109, 101] : List UInt8), (lget x.2.2.2.2.2.1 (toN v44.2) ([], (0, (0, (0, (0, (0, false))))))).1)) fun v46 =>
      bnd (q88 N (([116, 111, 112] : List UInt8), (lget x.2.2.2.2.2.1 (toN v44.2) ([], (0, (0, (0, (0, (0, false))))))).2.1)) fun v47 =>
      bnd (q88 N (([104, 101, 105, 103, 104, 116] : List UInt8), (lget x.2.2.2.2.2.1 (toN v44.2) ([], (0, (0, (0, (0, (0, false))))))).2.2.1)) fun v48 =>
      bnd (q88 N (([108, 101, 102, 116] : List UInt8), (lget x.2.2.2.2.2.1 (toN v44.2) ([], (0, (0, (0, (0, (0, false))))))).2.2.2.1)) fun v49 =>
      bnd (q88 N (([119, 105, 100, 116, 104] : List UInt8), (lget x.2.2.2.2.2.1 (toN v44.2) ([], (0, (0, (0, (0, (0, false))))))).2.2.2.2.1)) fun v50 =>
      bnd (q90 N ()) fun v51 =>
      grd (inb (n8 (lget x.2.2.2.2.2.1 (toN v44.2) ([], (0, (0, (0, (0, (0, false))))))).2.2.2.2.2.1) (len v51)) <|
      bnd (r21_some N (([97, 108, 105, 103, 110] : List UInt8), lget v51 (toN (n8 (lget x.2.2.2.2.2.1 (toN v44.2) ([], (0, (0, (0, (0, (0, false))))))).2.2.2.2.2.1)) [])) fun v52 =>
      bnd (r21_some N (([97, 110, 99, 104, 111, 114] : List UInt8), v45)) fun v53 =>
      bnd (q89 N ([v46, v47, v48, v49, v50, v52, v53] : List (List D6))) fun v54 =>
      grd (room (iadd (len v44.1) (len ([(([114, 101, 103, 105, 111, 110] : List UInt8), ([] : List UInt8), v54, 1)] : List D2))) 64) <|
      v43 (lapp v44.1 ([(([114, 101, 103, 105, 111, 110] : List UInt8), ([] : List UInt8), v54, 1)] : List D2), w64 (iadd v44.2 1)))
     fun v55 =>
     cnd (lget x.2.2.2.2.2.1 (toN v44.2) ([], (0, (0, (0, (0, (0, false))))))).2.2.2.2.2.2
      (v55 ([66, 79, 84, 84, 79, 77] : List UInt8))
      (v55 ([84, 79, 80] : List UInt8))))
    (v42 v44.1)) N (([(([116, 116] : List UInt8), ([] : List UInt8), v8, 0)] : List D2), 0))
def ps_q95 : List PK := [.k (.v (.u8) [])]
def rs_q95 : List Kd := [.v (.bool) []]
def q95 (N : Nat) (x : UInt8) : Option (Bool) :=
 cnd (ile (n8 97) (n8 x))
  (cnd (ile (n8 x) (n8 122))
   (some true)
   (cnd (ile (n8 65) (n8 x))
    (some (ile (n8 x) (n8 90)))
    (some false)))
  (cnd (ile (n8 65) (n8 x))
   (some (ile (n8 x) (n8 90)))
   (some false))
def ps_q96 : List PK := [.k (.v (.u8) [])]
def rs_q96 : List Kd := [.v (.bool) []]
def q96 (N : Nat) (x : UInt8) : Option (Bool) :=
 cnd (ile (n8 48) (n8 x))
  (some (ile (n8 x) (n8 57)))
  (some false)
def ps_q97 : List PK := [.k (.v (.str) [])]
def rs_q97 : List Kd := [.v (.str) []]
def q97 (N : Nat) (x : List UInt8) : Option (List UInt8) :=
 cnd (seq x ([] : List UInt8))
  (some ([] : List UInt8))
  (grd (inb 0 (len x))
   (bnd (q95 N (lget x (toN 0) 0)) fun v0 =>
   cnd (bnot v0)
    (some ([] : List UInt8))
    (jn (fun (v1 : Int) =>
     grd (in2 v1 (len x)) <|
     some (ltake (toN v1) x))
    fun v2 =>
    fixN (fun v3 (v4 : Int) =>
     cnd (ilt v4 (len x))
      (grd (inb v4 (len x))
       (bnd (q95 N (lget x (toN v4) 0)) fun v5 =>
       cnd v5
        (v3 (w64 (iadd v4 1)))
        (grd (inb v4 (len x))
         (bnd (q96 N (lget x (toN v4) 0)) fun v6 =>
         cnd v6
          (v3 (w64 (iadd v4 1)))
          (grd (inb v4 (len x))
           (cnd (ieq (n8 (lget x (toN v4) 0)) (n8 45))
            (v3 (w64 (iadd v4 1)))
            (v2 v4)))))))
      (v2 v4)) N 1)))
def ps_r20_Name : List PK := [.k (.v (.str) [])]
def rs_r20_Name : List Kd := [.v (.bool) []]
def r20_Name (N : Nat) (x : List UInt8) : Option (Bool) :=
 cnd (sne x ([] : List UInt8))
  (cnd (ile (len x) 32)
   (bnd (q97 N x) fun v0 =>
   some (seq v0 x))
   (some false))
  (some false)
def ps_q98 : List PK := [.k (.v Y3 [])]
def rs_q98 : List Kd := [.v (.int .i64) []]
def q98 (N : Nat) (x : D2) : Option (Int) :=
 bnd (r20_Name N x.1) fun v0 =>
 cnd (bnot v0)
  (some 5)
  (cnd (sne x.2.1 ([] : List UInt8))
   (some 4)
   (cnd (ilt 16 (len x.2.2.1))
    (some 9)
    (jn (fun (v1 : Unit) =>
     some 0)
    fun v2 =>
    fixN (fun v3 (v4 : Int) =>
     cnd (ilt v4 (len x.2.2.1))
      (jn (fun (v5 : Unit) =>
       v3 (w64 (iadd v4 1)))
      fun v6 =>
      grd (inb v4 (len x.2.2.1)) <|
      bnd (r20_Name N (lget x.2.2.1 (toN v4) ([], [])).1) fun v7 =>
      cnd (bnot v7)
       (some 5)
       (jn (fun (v8 : Unit) =>
        bnd (q69 N (lget x.2.2.1 (toN v4) ([], [])).2) fun v9 =>
        cnd (bnot v9)
         (some 10)
         (v6 ()))
       fun v10 =>
       grd (in2 v4 (len x.2.2.1)) <|
       fixN (fun v11 (v12 : Int) =>
        cnd (ilt v12 (len (ltake (toN v4) x.2.2.1)))
         (grd (inb v12 (len (ltake (toN v4) x.2.2.1)))
          (cnd (seq (lget x.2.2.1 (toN v4) ([], [])).1 (lget (ltake (toN v4) x.2.2.1) (toN v12) ([], [])).1)
           (some 7)
           (v11 (w64 (iadd v12 1)))))
         (v10 ())) N 0))
      (v2 ())) N 0)))
def ps_q99 : List PK := [.k (.v (.slice Y3) [])]
def rs_q99 : List Kd := [.v (.int .i64) []]
def q99 (N : Nat) (x : List D2) : Option (Int) :=
 cnd (ieq (len x) 0)
  (some 6)
  (cnd (ilt 8192 (len x))
   (some 9)
   (jn (fun (v0 : Unit) =>
    some 0)
   fun v1 =>
   fixN (fun v2 (v3 : Int) =>
    cnd (ilt v3 (len x))
     (grd (inb v3 (len x))
      (jn (fun (v4 : Unit) =>
       jn (fun (v5 : Unit) =>
        cnd (ilt 15 (lget x (toN v3) ([], ([], ([], 0)))).2.2.2)
         (some 9)
         (cnd (sne (lget x (toN v3) ([], ([], ([], 0)))).1 ([] : List UInt8))
          (bnd (q98 N (lget x (toN v3) ([], ([], ([], 0))))) fun v6 =>
          cnd (ine v6 0)
           (some v6)
           (v2 (w64 (iadd v3 1))))
          (jn (fun (v7 : Bool) =>
           cnd v7
            (some 8)
            (cnd (seq (lget x (toN v3) ([], ([], ([], 0)))).2.1 ([] : List UInt8))
             (some 4)
             (cnd (ilt 0 (len (lget x (toN v3) ([], ([], ([], 0)))).2.2.1))
              (some 4)
              (bnd (q69 N (lget x (toN v3) ([], ([], ([], 0)))).2.1) fun v8 =>
              cnd (bnot v8)
               (some 10)
               (v2 (w64 (iadd v3 1)))))))
          fun v9 =>
          cnd (ieq v3 0)
           (v9 true)
           (grd (inb (w64 (isub v3 1)) (len x))
            (cnd (seq (lget x (toN (w64 (isub v3 1))) ([], ([], ([], 0)))).1 ([] : List UInt8))
             (grd (inb (w64 (isub v3 1)) (len x))
              (v9 (ieq (lget x (toN (w64 (isub v3 1))) ([], ([], ([], 0)))).2.2.2 (lget x (toN v3) ([], ([], ([], 0)))).2.2.2)))
             (v9 false))))))
       fun v10 =>
       cnd (ilt 0 v3)
        (grd (inb (w64 (isub v3 1)) (len x))
         (grd (inb (w64 (isub v3 1)) (len x))
          (cnd (sne (lget x (toN (w64 (isub v3 1))) ([], ([], ([], 0)))).1 ([] : List UInt8))
           (cnd (ilt (w64 (iadd (lget x (toN (w64 (isub v3 1))) ([], ([], ([], 0)))).2.2.2 1)) (lget x (toN v3) ([], ([], ([], 0)))).2.2.2)
            (some 8)
            (v10 ()))
           (cnd (ilt (lget x (toN (w64 (isub v3 1))) ([], ([], ([], 0)))).2.2.2 (lget x (toN v3) ([], ([], ([], 0)))).2.2.2)
            (some 8)
            (v10 ())))))
        (v10 ()))
      fun v11 =>
      cnd (ieq v3 0)
       (cnd (ine (lget x (toN v3) ([], ([], ([], 0)))).2.2.2 0)
        (some 8)
        (cnd (ilt 0 v3)
         (cnd (ilt (lget x (toN v3) ([], ([], ([], 0)))).2.2.2 1)
          (some 8)
          (v11 ()))
         (v11 ())))
       (cnd (ilt 0 v3)
        (cnd (ilt (lget x (toN v3) ([], ([], ([], 0)))).2.2.2 1)
         (some 8)
         (v11 ()))
        (v11 ()))))
     (v1 ())) N 0))
def ps_q100 : List PK := [.k (.v (.str) [])]
def rs_q100 : List Kd := [.v (.str) []]
def q100 (N : Nat) (x : List UInt8) : Option (List UInt8) :=
 jn (fun (v0 : List UInt8) =>
  some v0)
 fun v1 =>
 fixN (fun v2 (v3 : (List UInt8) × Int) =>
  cnd (ilt v3.2 (len x))
   (jn (fun (v4 : List UInt8) =>
    v2 (v4, w64 (iadd v3.2 1)))
   fun v5 =>
   grd (inb v3.2 (len x)) <|
   cnd (ieq (n8 (lget x (toN v3.2) 0)) (n8 38))
    (grd (catOk (iadd (len v3.1) (len ([38, 97, 109, 112, 59] : List UInt8))))
     (v5 (lapp v3.1 ([38, 97, 109, 112, 59] : List UInt8))))
    (cnd (ieq (n8 (lget x (toN v3.2) 0)) (n8 60))
     (grd (catOk (iadd (len v3.1) (len ([38, 108, 116, 59] : List UInt8))))
      (v5 (lapp v3.1 ([38, 108, 116, 59] : List UInt8))))
     (cnd (ieq (n8 (lget x (toN v3.2) 0)) (n8 62))
      (grd (catOk (iadd (len v3.1) (len ([38, 103, 116, 59] : List UInt8))))
       (v5 (lapp v3.1 ([38, 103, 116, 59] : List UInt8))))
      (cnd (ieq (n8 (lget x (toN v3.2) 0)) (n8 34))
       (grd (catOk (iadd (len v3.1) (len ([38, 113, 117, 111, 116, 59] : List UInt8))))
        (v5 (lapp v3.1 ([38, 113, 117, 111, 116, 59] : List UInt8))))
       (cnd (ieq (n8 (lget x (toN v3.2) 0)) (n8 39))
        (grd (catOk (iadd (len v3.1) (len ([38, 97, 112, 111, 115, 59] : List UInt8))))
         (v5 (lapp v3.1 ([38, 97, 112, 111, 115, 59] : List UInt8))))
        (grd (in3 v3.2 (w64 (iadd v3.2 1)) (len x))
         (grd (catOk (iadd (len v3.1) (len (ldrop (toN v3.2) (ltake (toN (w64 (iadd v3.2 1))) x)))))
          (v5 (lapp v3.1 (ldrop (toN v3.2) (ltake (toN (w64 (iadd v3.2 1))) x)))))))))))
   (v1 v3.1)) N (([] : List UInt8), 0)
def ps_q101 : List PK := [.k (.v (.slice Y3) []), .k (.v (.int .i64) [])]
def rs_q101 : List Kd := [.v (.slice (.int .i64)) [0]]
def q101 (N : Nat) (x : (List D2) × Int) : Option (List Int) :=
 cnd (ilt x.2 0)
  (some ([] : List Int))
  (cnd (ile (len x.1) x.2)
   (some ([] : List Int))
   (jn (fun (v0 : List Int) =>
    some v0)
   fun v1 =>
   fixN (fun v2 (v3 : (List Int) × Int) =>
    cnd (ilt v3.2 (len x.1))
     (grd (inb v3.2 (len x.1))
      (grd (inb x.2 (len x.1))
       (cnd (ilt (lget x.1 (toN x.2) ([], ([], ([], 0)))).2.2.2 (lget x.1 (toN v3.2) ([], ([], ([], 0)))).2.2.2)
        (grd (inb v3.2 (len x.1))
         (grd (inb x.2 (len x.1))
          (cnd (ieq (w64 (isub (lget x.1 (toN v3.2) ([], ([], ([], 0)))).2.2.2 1)) (lget x.1 (toN x.2) ([], ([], ([], 0)))).2.2.2)
           (grd (room (iadd (len v3.1) (len ([v3.2] : List Int))) 8)
            (v2 (lapp v3.1 ([v3.2] : List Int), w64 (iadd v3.2 1))))
           (v2 (v3.1, w64 (iadd v3.2 1))))))
        (v1 v3.1))))
     (v1 v3.1)) N (([] : List Int), w64 (iadd x.2 1))))
def ps_r20_text : List PK := [.k (.v (.slice Y3) []), .k (.v (.int .i64) [])]
def rs_r20_text : List Kd := [.v (.str) []]
def r20_text_r (N : Nat) : Nat → ((List D2) × Int) → Option (List UInt8)
 | 0, _ => none
 | D + 1, x => grd (inb x.2 (len x.1)) <|
  cnd (seq (lget x.1 (toN x.2) ([], ([], ([], 0)))).1 ([] : List UInt8))
   (bnd (q100 N (lget x.1 (toN x.2) ([], ([], ([], 0)))).2.1) fun v0 =>
   some v0)
   (grd (catOk (iadd (len ([60] : List UInt8)) (len (lget x.1 (toN x.2) ([], ([], ([], 0)))).1)))
    (jn (fun (v1 : List UInt8) =>
     bnd (q101 N x) fun v2 =>
     cnd (ieq (len v2) 0)
      (grd (catOk (iadd (len v1) (len ([47, 62] : List UInt8))))
       (some (lapp v1 ([47, 62] : List UInt8))))
      (grd (catOk (iadd (len v1) (len ([62] : List UInt8))))
       (jn (fun (v3 : List UInt8) =>
        grd (catOk (iadd (len v3) (len ([60, 47] : List UInt8)))) <|
        grd (catOk (iadd (len (lapp v3 ([60, 47] : List UInt8))) (len (lget x.1 (toN x.2) ([], ([], ([], 0)))).1))) <|
        grd (catOk (iadd (len (lapp (lapp v3 ([60, 47] : List UInt8)) (lget x.1 (toN x.2) ([], ([], ([], 0)))).1)) (len ([62] : List UInt8)))) <|
        some (lapp (lapp (lapp v3 ([60, 47] : List UInt8)) (lget x.1 (toN x.2) ([], ([], ([], 0)))).1) ([62] : List UInt8)))
       fun v4 =>
       fixN (fun v5 (v6 : (List UInt8) × Int) =>
        cnd (ilt v6.2 (len v2))
         (grd (inb v6.2 (len v2))
          (bnd (r20_text_r N D (x.1, lget v2 (toN v6.2) 0)) fun v7 =>
          grd (catOk (iadd (len v6.1) (len v7))) <|
          v5 (lapp v6.1 v7, w64 (iadd v6.2 1))))
         (v4 v6.1)) N (lapp v1 ([62] : List UInt8), 0))))
    fun v8 =>
    fixN (fun v9 (v10 : (List UInt8) × Int) =>
     cnd (ilt v10.2 (len (lget x.1 (toN x.2) ([], ([], ([], 0)))).2.2.1))
      (grd (inb v10.2 (len (lget x.1 (toN x.2) ([], ([], ([], 0)))).2.2.1))
       (grd (catOk (iadd (len ([32] : List UInt8)) (len (lget (lget x.1 (toN x.2) ([], ([], ([], 0)))).2.2.1 (toN v10.2) ([], [])).1)))
        (grd (catOk (iadd (len (lapp ([32] : List UInt8) (lget (lget x.1 (toN x.2) ([], ([], ([], 0)))).2.2.1 (toN v10.2) ([], [])).1)) (len ([61, 34] : List UInt8))))
         (bnd (q100 N (lget (lget x.1 (toN x.2) ([], ([], ([], 0)))).2.2.1 (toN v10.2) ([], [])).2) fun v11 =>
         grd (catOk (iadd (len (lapp (lapp ([32] : List UInt8) (lget (lget x.1 (toN x.2) ([], ([], ([], 0)))).2.2.1 (toN v10.2) ([], [])).1) ([61, 34] : List UInt8))) (len v11))) <|
         grd (catOk (iadd (len (lapp (lapp (lapp ([32] : List UInt8) (lget (lget x.1 (toN x.2) ([], ([], ([], 0)))).2.2.1 (toN v10.2) ([], [])).1) ([61, 34] : List UInt8)) v11)) (len ([34] : List UInt8)))) <|
         grd (catOk (iadd (len v10.1) (len (lapp (lapp (lapp (lapp ([32] : List UInt8) (lget (lget x.1 (toN x.2) ([], ([], ([], 0)))).2.2.1 (toN v10.2) ([], [])).1) ([61, 34] : List UInt8)) v11) ([34] : List UInt8))))) <|
         v9 (lapp v10.1 (lapp (lapp (lapp (lapp ([32] : List UInt8) (lget (lget x.1 (toN x.2) ([], ([], ([], 0)))).2.2.1 (toN v10.2) ([], [])).1) ([61, 34] : List UInt8)) v11) ([34] : List UInt8)), w64 (iadd v10.2 1))))))
      (v8 v10.1)) N (lapp ([60] : List UInt8) (lget x.1 (toN x.2) ([], ([], ([], 0)))).1, 0)))
def r20_text (N : Nat) (x : (List D2) × Int) : Option (List UInt8) := r20_text_r N N x
def ps_q102 : List PK := [.k (.v (.slice Y3) [])]
def rs_q102 : List Kd := [.v (.str) [], .v (.int .i64) []]
def q102 (N : Nat) (x : List D2) : Option (List UInt8 × Int) :=
 bnd (q99 N x) fun v0 =>
 cnd (ine v0 0)
  (some (([] : List UInt8), v0))
  (bnd (r20_text N (x, 0)) fun v1 =>
  cnd (ilt 262144 (len v1))
   (some (([] : List UInt8), 9))
   (some (v1, 0)))
def ps_q103 : List PK := [.k (.v Y1 [])]
def rs_q103 : List Kd := [.v (.str) [], .v (.int .i64) []]
def q103 (N : Nat) (x : D7) : Option (List UInt8 × Int) :=
 bnd (q94 N x) fun v0 =>
 cnd (ine v0.2 0)
  (some (([] : List UInt8), v0.2))
  (bnd (q102 N v0.1) fun v1 =>
  some v1)
def ps_q104 : List PK := [.k (.v Y1 [])]
def rs_q104 : List Kd := [.v (.int .i64) [], .v (.int .i64) []]
def q104 (N : Nat) (x : D7) : Option (Int × Int) :=
 bnd (q66 N x) fun v0 =>
 some ((-1), v0.2)
def ps_q105 : List PK := [.k (.v Y8 []), .k (.v Y8 [])]
def rs_q105 : List Kd := [.v (.bool) []]
def q105 (N : Nat) (x : (List D6) × List D6) : Option (Bool) :=
 cnd (ine (len x.1) (len x.2))
  (some false)
  (jn (fun (v0 : Unit) =>
   some true)
  fun v1 =>
  fixN (fun v2 (v3 : Int) =>
   cnd (ilt v3 (len x.1))
    (grd (inb v3 (len x.1))
     (grd (inb v3 (len x.2))
      (cnd (bnot (band (seq (lget x.1 (toN v3) ([], [])).1 (lget x.2 (toN v3) ([], [])).1) (seq (lget x.1 (toN v3) ([], [])).2 (lget x.2 (toN v3) ([], [])).2)))
       (some false)
       (v2 (w64 (iadd v3 1))))))
    (v1 ())) N 0)
def ps_l21_equal_1 : List PK := [.k (.v Y3 []), .k (.v Y3 [])]
def rs_l21_equal_1 : List Kd := [.v (.bool) []]
def l21_equal_1 (N : Nat) (x : D2 × (List UInt8) × (List UInt8) × (List D6) × Int) : Option (Bool) :=
 cnd (seq x.1.1 x.2.1)
  (cnd (seq x.1.2.1 x.2.2.1)
   (cnd (ieq x.1.2.2.2 x.2.2.2.2)
    (bnd (q105 N (x.1.2.2.1, x.2.2.2.1)) fun v0 =>
    some v0)
    (some false))
   (some false))
  (some false)
def ps_q106 : List PK := [.k (.v (.slice Y3) []), .k (.v (.slice Y3) []), .fn 51]
def rs_q106 : List Kd := [.v (.bool) []]
def q106 (N : Nat) (x : (List D2) × List D2) : Option (Bool) :=
 cnd (ine (len x.1) (len x.2))
  (some false)
  (jn (fun (v0 : Unit) =>
   some true)
  fun v1 =>
  fixN (fun v2 (v3 : Int) =>
   cnd (ilt v3 (len x.1))
    (grd (inb v3 (len x.1))
     (grd (inb v3 (len x.2))
      (bnd (l21_equal_1 N (lget x.1 (toN v3) ([], ([], ([], 0))), lget x.2 (toN v3) ([], ([], ([], 0))))) fun v4 =>
      cnd (bnot v4)
       (some false)
       (v2 (w64 (iadd v3 1))))))
    (v1 ())) N 0)
def ps_l21_equal : List PK := [.k (.v (.slice Y3) []), .k (.v (.slice Y3) [])]
def rs_l21_equal : List Kd := [.v (.bool) []]
def l21_equal (N : Nat) (x : (List D2) × List D2) : Option (Bool) :=
 bnd (q106 N x) fun v0 =>
 some v0
def ps_q107 : List PK := [.k (.v (.slice Y4) [])]
def rs_q107 : List Kd := [.v (.slice Y4) [0]]
def q107 (N : Nat) (x : List D4) : Option (List D4) :=
 cnd (ine (len x) 0)
  (grd (room (iadd (len ([] : List D4)) (len x)) 56)
   (some (lapp ([] : List D4) x)))
  (univ fun v0 =>
  cnd v0
   (some ([] : List D4))
   (grd (room (iadd (len ([] : List D4)) (len x)) 56)
    (some (lapp ([] : List D4) x))))
def ps_q108 : List PK := [.k (.v (.slice Y6) [])]
def rs_q108 : List Kd := [.v (.slice Y6) [0]]
def q108 (N : Nat) (x : List D3) : Option (List D3) :=
 cnd (ine (len x) 0)
  (grd (room (iadd (len ([] : List D3)) (len x)) 72)
   (some (lapp ([] : List D3) x)))
  (univ fun v0 =>
  cnd v0
   (some ([] : List D3))
   (grd (room (iadd (len ([] : List D3)) (len x)) 72)
    (some (lapp ([] : List D3) x))))
def ps_q109 : List PK := [.k (.v (.slice Y2) [])]
def rs_q109 : List Kd := [.v (.slice Y2) [0]]
def q109 (N : Nat) (x : List D1) : Option (List D1) :=
 cnd (ine (len x) 0)
  (grd (room (iadd (len ([] : List D1)) (len x)) 88)
   (some (lapp ([] : List D1) x)))
  (univ fun v0 =>
  cnd v0
   (some ([] : List D1))
   (grd (room (iadd (len ([] : List D1)) (len x)) 88)
    (some (lapp ([] : List D1) x))))
def ps_q110 : List PK := [.k (.v (.slice (.st (.slice Y5))) [])]
def rs_q110 : List Kd := [.v (.slice (.st (.slice Y5))) [0]]
def q110 (N : Nat) (x : List (List D5)) : Option (List (List D5)) :=
 cnd (ine (len x) 0)
  (grd (room (iadd (len ([] : List (List D5))) (len x)) 24)
   (some (lapp ([] : List (List D5)) x)))
  (univ fun v0 =>
  cnd v0
   (some ([] : List (List D5)))
   (grd (room (iadd (len ([] : List (List D5))) (len x)) 24)
    (some (lapp ([] : List (List D5)) x))))
def ps_q111 : List PK := [.k (.v (.slice Y5) [])]
def rs_q111 : List Kd := [.v (.slice Y5) [0]]
def q111 (N : Nat) (x : List D5) : Option (List D5) :=
 cnd (ine (len x) 0)
  (grd (room (iadd (len ([] : List D5)) (len x)) 40)
   (some (lapp ([] : List D5) x)))
  (univ fun v0 =>
  cnd v0
   (some ([] : List D5))
   (grd (room (iadd (len ([] : List D5)) (len x)) 40)
    (some (lapp ([] : List D5) x))))
def ps_q112 : List PK := [.k (.v (.slice (.st (.slice Y5))) [])]
def rs_q112 : List Kd := [.v (.slice (.st (.slice Y5))) [0]]
def q112 (N : Nat) (x : List (List D5)) : Option (List (List D5)) :=
 bnd (q110 N x) fun v0 =>
 jn (fun (v1 : List (List D5)) =>
  some v1)
 fun v2 =>
 fixN (fun v3 (v4 : Int × List (List D5)) =>
  cnd (ilt v4.1 (len v0))
   (grd (inb v4.1 (len v4.2))
    (bnd (q111 N (lget v4.2 (toN v4.1) [])) fun v5 =>
    grd (inb v4.1 (len v4.2)) <|
    v3 (w64 (iadd v4.1 1), lset v4.2 (toN v4.1) v5)))
   (v2 v4.2)) N (0, v0)
def ps_q113 : List PK := [.k (.v Y2 [])]
def rs_q113 : List Kd := [.v Y2 [6]]
def q113 (N : Nat) (x : D1) : Option D1 :=
 bnd (q112 N x.2.2.2.2.2) fun v0 =>
 some (x.1, x.2.1, x.2.2.1, x.2.2.2.1, x.2.2.2.2.1, v0)
def ps_q114 : List PK := [.k (.v Y1 [])]
def rs_q114 : List Kd := [.v Y1 [5, 6, 7]]
def q114 (N : Nat) (x : D7) : Option D7 :=
 bnd (q107 N x.2.2.2.2.2.1) fun v0 =>
 bnd (q108 N x.2.2.2.2.2.2.2) fun v1 =>
 bnd (q109 N x.2.2.2.2.2.2.1) fun v2 =>
 jn (fun (v3 : List D1) =>
  some (x.1, x.2.1, x.2.2.1, x.2.2.2.1, x.2.2.2.2.1, v0, v3, v1))
 fun v4 =>
 fixN (fun v5 (v6 : Int × List D1) =>
  cnd (ilt v6.1 (len v2))
   (grd (inb v6.1 (len v6.2))
    (bnd (q113 N (lget v6.2 (toN v6.1) (0, ((0, 0), ([], (0, ([], []))))))) fun v7 =>
    grd (inb v6.1 (len v6.2)) <|
    v5 (w64 (iadd v6.1 1), lset v6.2 (toN v6.1) v7)))
   (v4 v6.2)) N (0, v2)
def ps_q115 : List PK := [.k (.v Y1 [])]
def rs_q115 : List Kd := [.v Y1 [5, 6, 7]]
def q115 (N : Nat) (x : D7) : Option D7 :=
 bnd (q48 N x) fun v0 =>
 cnd (ine v0 0)
  (some (([] : List UInt8), ([] : List UInt8), 0, false, 0, ([] : List D4), ([] : List D1), ([] : List D3)))
  (bnd (q114 N x) fun v1 =>
  some (v1.1, v1.2.1, v1.2.2.1, v1.2.2.2.1, v1.2.2.2.2.1, v1.2.2.2.2.2.1, v1.2.2.2.2.2.2.1, ([] : List D3)))
def ps_q116 : List PK := [.k (.v (.slice (.st (.slice Y5))) [])]
def rs_q116 : List Kd := [.v (.slice (.st (.slice Y5))) [0]]
def q116 (N : Nat) (x : List (List D5)) : Option (List (List D5)) :=
 jn (fun (v0 : List (List D5)) =>
  some v0)
 fun v1 =>
 fixN (fun v2 (v3 : (List (List D5)) × Int) =>
  cnd (ilt v3.2 (len x))
   (grd (inb v3.2 (len x))
    (grd (room (iadd (len ([] : List D5)) (len (lget x (toN v3.2) []))) 40)
     (grd (room (iadd (len v3.1) (len ([lapp ([] : List D5) (lget x (toN v3.2) [])] : List (List D5)))) 24)
      (v2 (lapp v3.1 ([lapp ([] : List D5) (lget x (toN v3.2) [])] : List (List D5)), w64 (iadd v3.2 1))))))
   (v1 v3.1)) N (([] : List (List D5)), 0)
def ps_q117 : List PK := [.k (.v Y2 [])]
def rs_q117 : List Kd := [.v Y2 [6]]
def q117 (N : Nat) (x : D1) : Option D1 :=
 bnd (q116 N x.2.2.2.2.2) fun v0 =>
 some (x.1, x.2.1, x.2.2.1, x.2.2.2.1, x.2.2.2.2.1, v0)
def ps_q118 : List PK := [.k (.v Y1 [])]
def rs_q118 : List Kd := [.v Y1 [5, 6, 7]]
def q118 (N : Nat) (x : D7) : Option D7 :=
 grd (room (iadd (len ([] : List D4)) (len x.2.2.2.2.2.1)) 56) <|
 grd (room (iadd (len ([] : List D3)) (len x.2.2.2.2.2.2.2)) 72) <|
 jn (fun (v0 : List D1) =>
  some (x.1, x.2.1, x.2.2.1, x.2.2.2.1, x.2.2.2.2.1, lapp ([] : List D4) x.2.2.2.2.2.1, v0, lapp ([] : List D3) x.2.2.2.2.2.2.2))
 fun v1 =>
 fixN (fun v2 (v3 : (List D1) × Int) =>
  cnd (ilt v3.2 (len x.2.2.2.2.2.2.1))
   (grd (inb v3.2 (len x.2.2.2.2.2.2.1))
    (bnd (q117 N (lget x.2.2.2.2.2.2.1 (toN v3.2) (0, ((0, 0), ([], (0, ([], []))))))) fun v4 =>
    grd (room (iadd (len v3.1) (len ([v4] : List D1))) 88) <|
    v2 (lapp v3.1 ([v4] : List D1), w64 (iadd v3.2 1))))
   (v1 v3.1)) N (([] : List D1), 0)
def ps_q119 : List PK := [.k (.v Y1 [])]
def rs_q119 : List Kd := [.v Y1 [5, 6, 7]]
def q119 (N : Nat) (x : D7) : Option D7 :=
 bnd (q86 N x) fun v0 =>
 cnd (ine v0 0)
  (some (([] : List UInt8), ([] : List UInt8), 0, false, 0, ([] : List D4), ([] : List D1), ([] : List D3)))
  (bnd (q118 N x) fun v1 =>
  some (v1.1, v1.2.1, v1.2.2.1, v1.2.2.2.1, v1.2.2.2.2.1, v1.2.2.2.2.2.1, v1.2.2.2.2.2.2.1, ([] : List D3)))
def ps_q120 : List PK := [.k (.v Y1 [])]
def rs_q120 : List Kd := [.v (.st (.pair (.str) (.pair (.str) (.pair (.u8) (.pair (.bool) (.int .i64)))))) []]
def q120 (N : Nat) (x : D7) : Option ((List UInt8) × (List UInt8) × UInt8 × Bool × Int) :=
 some (x.1, x.2.1, x.2.2.1, x.2.2.2.1, x.2.2.2.2.1)
def ps_q121 : List PK := [.k (.v (.slice Y4) []), .k (.v (.slice Y4) [])]
def rs_q121 : List Kd := [.v (.bool) []]
def q121 (N : Nat) (x : (List D4) × List D4) : Option (Bool) :=
 cnd (ine (len x.1) (len x.2))
  (some false)
  (jn (fun (v0 : Unit) =>
   some true)
  fun v1 =>
  fixN (fun v2 (v3 : Int) =>
   cnd (ilt v3 (len x.1))
    (grd (inb v3 (len x.1))
     (grd (inb v3 (len x.2))
      (cnd (bnot (band (seq (lget x.1 (toN v3) ([], (0, (0, (0, (0, (0, false))))))).1 (lget x.2 (toN v3) ([], (0, (0, (0, (0, (0, false))))))).1) (band (ieq (lget x.1 (toN v3) ([], (0, (0, (0, (0, (0, false))))))).2.1 (lget x.2 (toN v3) ([], (0, (0, (0, (0, (0, false))))))).2.1) (band (ieq (lget x.1 (toN v3) ([], (0, (0, (0, (0, (0, false))))))).2.2.1 (lget x.2 (toN v3) ([], (0, (0, (0, (0, (0, false))))))).2.2.1) (band (ieq (lget x.1 (toN v3) ([], (0, (0, (0, (0, (0, false))))))).2.2.2.1 (lget x.2 (toN v3) ([], (0, (0, (0, (0, (0, false))))))).2.2.2.1) (band (ieq (lget x.1 (toN v3) ([], (0, (0, (0, (0, (0, false))))))).2.2.2.2.1 (lget x.2 (toN v3) ([], (0, (0, (0, (0, (0, false))))))).2.2.2.2.1) (band (ieq (n8 (lget x.1 (toN v3) ([], (0, (0, (0, (0, (0, false))))))).2.2.2.2.2.1) (n8 (lget x.2 (toN v3) ([], (0, (0, (0, (0, (0, false))))))).2.2.2.2.2.1)) (beqb (lget x.1 (toN v3) ([], (0, (0, (0, (0, (0, false))))))).2.2.2.2.2.2 (lget x.2 (toN v3) ([], (0, (0, (0, (0, (0, false))))))).2.2.2.2.2.2))))))))
       (some false)
       (v2 (w64 (iadd v3 1))))))
    (v1 ())) N 0)
def ps_q122 : List PK := [.k (.v (.slice Y5) []), .k (.v (.slice Y5) [])]
def rs_q122 : List Kd := [.v (.bool) []]
def q122 (N : Nat) (x : (List D5) × List D5) : Option (Bool) :=
 cnd (ine (len x.1) (len x.2))
  (some false)
  (jn (fun (v0 : Unit) =>
   some true)
  fun v1 =>
  fixN (fun v2 (v3 : Int) =>
   cnd (ilt v3 (len x.1))
    (grd (inb v3 (len x.1))
     (grd (inb v3 (len x.2))
      (cnd (bnot (band (seq (lget x.1 (toN v3) ([], ((0, (false, false)), []))).1 (lget x.2 (toN v3) ([], ((0, (false, false)), []))).1) (band (band (ieq (n8 (lget x.1 (toN v3) ([], ((0, (false, false)), []))).2.1.1) (n8 (lget x.2 (toN v3) ([], ((0, (false, false)), []))).2.1.1)) (band (beqb (lget x.1 (toN v3) ([], ((0, (false, false)), []))).2.1.2.1 (lget x.2 (toN v3) ([], ((0, (false, false)), []))).2.1.2.1) (beqb (lget x.1 (toN v3) ([], ((0, (false, false)), []))).2.1.2.2 (lget x.2 (toN v3) ([], ((0, (false, false)), []))).2.1.2.2))) (seq (lget x.1 (toN v3) ([], ((0, (false, false)), []))).2.2 (lget x.2 (toN v3) ([], ((0, (false, false)), []))).2.2))))
       (some false)
       (v2 (w64 (iadd v3 1))))))
    (v1 ())) N 0)
def ps_q123 : List PK := [.k (.v (.st (.slice Y5)) []), .k (.v (.st (.slice Y5)) [])]
def rs_q123 : List Kd := [.v (.bool) []]
def q123 (N : Nat) (x : (List D5) × List D5) : Option (Bool) :=
 bnd (q122 N x) fun v0 =>
 some v0
def ps_q124 : List PK := [.k (.v (.slice (.st (.slice Y5))) []), .k (.v (.slice (.st (.slice Y5))) []), .fn 163]
def rs_q124 : List Kd := [.v (.bool) []]
def q124 (N : Nat) (x : (List (List D5)) × List (List D5)) : Option (Bool) :=
 cnd (ine (len x.1) (len x.2))
  (some false)
  (jn (fun (v0 : Unit) =>
   some true)
  fun v1 =>
  fixN (fun v2 (v3 : Int) =>
   cnd (ilt v3 (len x.1))
    (grd (inb v3 (len x.1))
     (grd (inb v3 (len x.2))
      (bnd (q123 N (lget x.1 (toN v3) [], lget x.2 (toN v3) [])) fun v4 =>
      cnd (bnot v4)
       (some false)
       (v2 (w64 (iadd v3 1))))))
    (v1 ())) N 0)
def ps_q125 : List PK := [.k (.v (.slice (.st (.slice Y5))) []), .k (.v (.slice (.st (.slice Y5))) [])]
def rs_q125 : List Kd := [.v (.bool) []]
def q125 (N : Nat) (x : (List (List D5)) × List (List D5)) : Option (Bool) :=
 bnd (q124 N x) fun v0 =>
 some v0
def ps_q126 : List PK := [.k (.v Y2 []), .k (.v Y2 [])]
def rs_q126 : List Kd := [.v (.bool) []]
def q126 (N : Nat) (x : D1 × Int × (Int × Int) × (List UInt8) × UInt8 × (List UInt8) × List (List D5)) : Option (Bool) :=
 cnd (ieq x.1.1 x.2.1)
  (cnd (band (ieq x.1.2.1.1 x.2.2.1.1) (ieq x.1.2.1.2 x.2.2.1.2))
   (cnd (seq x.1.2.2.1 x.2.2.2.1)
    (cnd (ieq (n8 x.1.2.2.2.1) (n8 x.2.2.2.2.1))
     (cnd (seq x.1.2.2.2.2.1 x.2.2.2.2.2.1)
      (bnd (q125 N (x.1.2.2.2.2.2, x.2.2.2.2.2.2)) fun v0 =>
      some v0)
      (some false))
     (some false))
    (some false))
   (some false))
  (some false)
def ps_q127 : List PK := [.k (.v (.slice Y2) []), .k (.v (.slice Y2) []), .fn 56]
def rs_q127 : List Kd := [.v (.bool) []]
def q127 (N : Nat) (x : (List D1) × List D1) : Option (Bool) :=
 cnd (ine (len x.1) (len x.2))
  (some false)
  (jn (fun (v0 : Unit) =>
   some true)
  fun v1 =>
  fixN (fun v2 (v3 : Int) =>
   cnd (ilt v3 (len x.1))
    (grd (inb v3 (len x.1))
     (grd (inb v3 (len x.2))
      (bnd (q126 N (lget x.1 (toN v3) (0, ((0, 0), ([], (0, ([], []))))), lget x.2 (toN v3) (0, ((0, 0), ([], (0, ([], []))))))) fun v4 =>
      cnd (bnot v4)
       (some false)
       (v2 (w64 (iadd v3 1))))))
    (v1 ())) N 0)
def ps_q128 : List PK := [.k (.v (.slice Y6) []), .k (.v (.slice Y6) [])]
def rs_q128 : List Kd := [.v (.bool) []]
def q128 (N : Nat) (x : (List D3) × List D3) : Option (Bool) :=
 cnd (ine (len x.1) (len x.2))
  (some false)
  (jn (fun (v0 : Unit) =>
   some true)
  fun v1 =>
  fixN (fun v2 (v3 : Int) =>
   cnd (ilt v3 (len x.1))
    (grd (inb v3 (len x.1))
     (grd (inb v3 (len x.2))
      (cnd (bnot (band (ieq (lget x.1 (toN v3) (0, (0, (0, (0, ([], ([], (false, false)))))))).1 (lget x.2 (toN v3) (0, (0, (0, (0, ([], ([], (false, false)))))))).1) (band (ieq (lget x.1 (toN v3) (0, (0, (0, (0, ([], ([], (false, false)))))))).2.1 (lget x.2 (toN v3) (0, (0, (0, (0, ([], ([], (false, false)))))))).2.1) (band (ieq (lget x.1 (toN v3) (0, (0, (0, (0, ([], ([], (false, false)))))))).2.2.1 (lget x.2 (toN v3) (0, (0, (0, (0, ([], ([], (false, false)))))))).2.2.1) (band (ieq (lget x.1 (toN v3) (0, (0, (0, (0, ([], ([], (false, false)))))))).2.2.2.1 (lget x.2 (toN v3) (0, (0, (0, (0, ([], ([], (false, false)))))))).2.2.2.1) (band (seq (lget x.1 (toN v3) (0, (0, (0, (0, ([], ([], (false, false)))))))).2.2.2.2.1 (lget x.2 (toN v3) (0, (0, (0, (0, ([], ([], (false, false)))))))).2.2.2.2.1) (band (seq (lget x.1 (toN v3) (0, (0, (0, (0, ([], ([], (false, false)))))))).2.2.2.2.2.1 (lget x.2 (toN v3) (0, (0, (0, (0, ([], ([], (false, false)))))))).2.2.2.2.2.1) (band (beqb (lget x.1 (toN v3) (0, (0, (0, (0, ([], ([], (false, false)))))))).2.2.2.2.2.2.1 (lget x.2 (toN v3) (0, (0, (0, (0, ([], ([], (false, false)))))))).2.2.2.2.2.2.1) (beqb (lget x.1 (toN v3) (0, (0, (0, (0, ([], ([], (false, false)))))))).2.2.2.2.2.2.2 (lget x.2 (toN v3) (0, (0, (0, (0, ([], ([], (false, false)))))))).2.2.2.2.2.2.2)))))))))
       (some false)
       (v2 (w64 (iadd v3 1))))))
    (v1 ())) N 0)
def ps_q129 : List PK := [.k (.v Y1 []), .k (.v Y1 [])]
def rs_q129 : List Kd := [.v (.bool) []]
def q129 (N : Nat) (x : D7 × (List UInt8) × (List UInt8) × UInt8 × Bool × Int × (List D4) × (List D1) × List D3) : Option (Bool) :=
 bnd (q120 N x.1) fun v0 =>
 bnd (q120 N x.2) fun v1 =>
 cnd (band (seq v0.1 v1.1) (band (seq v0.2.1 v1.2.1) (band (ieq (n8 v0.2.2.1) (n8 v1.2.2.1)) (band (beqb v0.2.2.2.1 v1.2.2.2.1) (ieq v0.2.2.2.2 v1.2.2.2.2)))))
  (bnd (q121 N (x.1.2.2.2.2.2.1, x.2.2.2.2.2.2.1)) fun v2 =>
  cnd v2
   (bnd (q127 N (x.1.2.2.2.2.2.2.1, x.2.2.2.2.2.2.2.1)) fun v3 =>
   cnd v3
    (bnd (q128 N (x.1.2.2.2.2.2.2.2, x.2.2.2.2.2.2.2.2)) fun v4 =>
    some v4)
    (some false))
   (some false))
  (some false)
def ps_l21_TtmlNodes : List PK := [.k (.v Y1 [])]
def rs_l21_TtmlNodes : List Kd := [.v (.bool) []]
def l21_TtmlNodes (N : Nat) (x : D7) : Option (Bool) :=
 bnd (l21_awake N ()) fun v0 =>
 cnd (bnot v0)
  (some false)
  (bnd (l21_few N x) fun v1 =>
  bnd (q55 N v1) fun v2 =>
  bnd (q94 N v1) fun v3 =>
  bnd (q66 N v1) fun v4 =>
  bnd (q103 N v1) fun v5 =>
  bnd (q104 N v1) fun v6 =>
  bnd (l21_equal N (v2.1, v3.1)) fun v7 =>
  cnd v7
   (cnd (ieq v2.2 v3.2)
    (cnd (seq v4.1 v5.1)
     (cnd (ieq v4.2 v5.2)
      (cnd (ieq v6.1 (-1))
       (cnd (ieq v6.2 v4.2)
        (bnd (q115 N v1) fun v8 =>
        bnd (q119 N v1) fun v9 =>
        bnd (q129 N (v8, v9)) fun v10 =>
        some v10)
        (some false))
       (some false))
      (some false))
     (some false))
    (some false))
   (some false))
def ps_q130 : List PK := [.k (.v (.u8) [])]
def rs_q130 : List Kd := [.v (.bool) []]
def q130 (N : Nat) (x : UInt8) : Option (Bool) :=
 cnd (ieq (n8 x) (n8 9))
  (some true)
  (cnd (ieq (n8 x) (n8 10))
   (some true)
   (cnd (ieq (n8 x) (n8 13))
    (some true)
    (some (ieq (n8 x) (n8 32)))))
def ps_r20_hex : List PK := [.k (.v (.u8) [])]
def rs_r20_hex : List Kd := [.v (.int .i64) []]
def r20_hex (N : Nat) (x : UInt8) : Option (Int) :=
 bnd (q96 N x) fun v0 =>
 cnd v0
  (some (w64 (n8 (b8 (isub (n8 x) (n8 48))))))
  (jn (fun (v1 : Bool) =>
   cnd v1
    (some (w64 (iadd (w64 (n8 (b8 (isub (n8 x) (n8 97))))) 10)))
    (cnd (ile (n8 65) (n8 x))
     (cnd (ile (n8 x) (n8 70))
      (some (w64 (iadd (w64 (n8 (b8 (isub (n8 x) (n8 65))))) 10)))
      (some (-1)))
     (some (-1))))
  fun v2 =>
  cnd (ile (n8 97) (n8 x))
   (v2 (ile (n8 x) (n8 102)))
   (v2 false))
def ps_r20_code : List PK := [.k (.v (.str) []), .k (.v (.int .i64) []), .k (.v (.int .i64) [])]
def rs_r20_code : List Kd := [.v (.int .i64) []]
def r20_code (N : Nat) (x : List UInt8 × Int × Int) : Option (Int) :=
 cnd (seq x.1 ([] : List UInt8))
  (some (-1))
  (cnd (ilt x.2.2 (len x.1))
   (some (-1))
   (jn (fun (v0 : Int) =>
    some v0)
   fun v1 =>
   fixN (fun v2 (v3 : Int × Int) =>
    cnd (ilt v3.2 (len x.1))
     (grd (inb v3.2 (len x.1))
      (bnd (r20_hex N (lget x.1 (toN v3.2) 0)) fun v4 =>
      cnd (ilt v4 0)
       (some (-1))
       (cnd (ile x.2.1 v4)
        (some (-1))
        (v2 (w64 (iadd (w64 (imul v3.1 x.2.1)) v4), w64 (iadd v3.2 1))))))
     (v1 v3.1)) N (0, 0)))
def ps_r08_Of : List PK := [.k (.v (.slice (.int .i32)) [])]
def rs_r08_Of : List Kd := [.v (.str) []]
def r08_Of (N : Nat) (x : List Int) : Option (List UInt8) :=
 jn (fun (v0 : List UInt8) =>
  some v0)
 fun v1 =>
 fixN (fun v2 (v3 : (List UInt8) × Int) =>
  cnd (ilt v3.2 (len x))
   (grd (inb v3.2 (len x))
    (bnd (q68 N (lget x (toN v3.2) 0)) fun v4 =>
    cnd (ilt v4 0)
     (some ([] : List UInt8))
     (grd (catOk (iadd (len v3.1) (len (enc (lget x (toN v3.2) 0)))))
      (v2 (lapp v3.1 (enc (lget x (toN v3.2) 0)), w64 (iadd v3.2 1))))))
   (v1 v3.1)) N (([] : List UInt8), 0)
end
end Go.Mo
end

section
/-
  Two functions of strings.Builder, walked by hand. The numbers are printed by a program.
-/
set_option linter.unusedVariables false
namespace Go.Mo
open Go Go.W Go.Proofs Go.RowKit
theorem sizeB : (Tryz.prog.info? 131).map (·.size) = some 2 := by kernel_rfl
theorem liesB : liesAt Tryz.prog Tryz.prog.depth 131 (2 / Tryz.prog.cellsOf 131) 0 131 1 = true := by kernel_rfl
theorem cellsByte : Tryz.prog.cellsOf 5 = 1 := by kernel_rfl
theorem undP : Tryz.prog.underlying 128 = some (.pointer 131) := by kernel_rfl
theorem undU : Tryz.prog.underlying 240 = some .unsafePointer := by kernel_rfl
theorem undBP : Tryz.prog.underlying 204 = some (.pointer 5) := by kernel_rfl
theorem undSl : Tryz.prog.underlying 129 = some (.slice 5) := by kernel_rfl
theorem mixedB : Tryz.prog.follows .mixedOrders = true := by kernel_rfl
theorem fNe : Tryz.prog.funcs[206]? = some Tryz.f206 := by kernel_rfl
set_option maxHeartbeats 1000000 in
set_option maxRecDepth 100000 in
theorem cc_used (b : Nat) (w : World) (h0 : w.cell? ⟨b, 0, none⟩ = some (.pointer (some ⟨b, 0, none⟩))) :
  Calls Tryz.prog 146 #[.pointer (some ⟨b, 0, none⟩)] w fun e w' => e = .returned (.tuple #[]) ∧ w' = w := by
 obtain ⟨j, hj, _⟩ := Option.map_eq_some_iff.1 sizeB
 go_enter Tryz.func146, Tryz.ntmps146
 go_wp2
 rw [Lib.run_neq_ptr_same w _ undP hj]
 go_wp2
 go_end0
 exact ⟨rfl, rfl⟩
set_option maxHeartbeats 1000000 in
set_option maxRecDepth 100000 in
theorem cc_fresh (b : Nat) (w : World) (h0 : w.cell? ⟨b, 0, none⟩ = some (.pointer none)) (hsh : w.shape? b = some (131, 2)) (hfz : w.frozen? ⟨b, 0, none⟩ = false) :
  Calls Tryz.prog 146 #[.pointer (some ⟨b, 0, none⟩)] w fun e w' => e = .returned (.tuple #[]) ∧ w' = w.setCell ⟨b, 0, none⟩ (.pointer (some ⟨b, 0, none⟩)) := by
 obtain ⟨j, hj, hjs⟩ := Option.map_eq_some_iff.1 sizeB
 go_enter Tryz.func146, Tryz.ntmps146
 go_wp2
 rw [Lib.run_to_unsafe w ⟨b, 0, none⟩ undP undU hj (by rw [hjs]; decide) hsh (Nat.zero_lt_succ 1)]
 simp only [Result.andThen]
 rw [Oper.upon_value]
 go_wp2
 rw [run_callFunc_extern fNe (by kernel_rfl) (by kernel_rfl) (by kernel_rfl) (e := Extern.AbiNoEscape.same) (by kernel_rfl)]
 rw [Lib.run_noEscape]
 simp only [Result.andThen]
 rw [Oper.upon_value]
 go_wp2
 rw [Lib.run_from_unsafe w ⟨b, 0, none⟩ undU undP hj hsh liesB]
 simp only [Result.andThen]
 rw [Oper.upon_value]
 go_wp2
 go_end0
 exact ⟨rfl, rfl⟩
theorem ccOk : CcOk Tryz.prog 146 131 := by
 intro w b p v hb hp
 refine ⟨by
  unfold callFunc
  simp only [program, Sem.run_bind, Sem.run, Result.andThen_ok, show Tryz.prog.funcs[146]? = some Tryz.f146 from by kernel_rfl]
  rfl, ?_⟩
 have c0 : w.cell? ⟨b, 0, none⟩ = some p := by rw [Lib.cell_of_heap hb]; rfl
 rcases hp with hp | hp
 ·subst hp
  refine (cc_fresh b w c0 (by simp [World.shape?, hb]) (Lib.frozen_of_heap hb 0)).mono ?_
  rintro e w' ⟨rfl, rfl⟩
  refine ⟨rfl, rfl, rfl, rfl, by simp [World.setCell], fun b' hb' => ?_, .pointer (some ⟨b, 0, none⟩), ?_, .inr rfl⟩
  ·simp [World.setCell, Array.getElem?_modify, Ne.symm hb']
  ·simp [World.setCell, Array.getElem?_modify, hb]
 ·subst hp
  refine (cc_used b w c0).mono ?_
  rintro e w' ⟨rfl, rfl⟩
  exact ⟨rfl, rfl, rfl, rfl, rfl, fun _ _ => rfl, _, hb, .inr rfl⟩
section
variable (b : Nat) (p : Value) (w : World)
set_option maxHeartbeats 2000000 in
set_option maxRecDepth 100000 in
theorem bs_some (l : List UInt8) (h0 : l ≠ []) (g cap : Nat) (cur : Array Value) (fz : Nat × Nat) (hbk : w.heap[b]? = some (.cells #[p, .slice (some ⟨g, 0, none⟩) l.length cap] 131 (0, 0))) (hg : w.heap[g]? = some (.cells cur 5 fz)) (hnc : l.length ≤ cap) (hcm : cap ≤ maxLen) (hcs : cap ≤ cur.size) (htake : cur.toList.take l.length = l.map fun b => Value.int .u8 (b.toNat : Int)) :
  Calls Tryz.prog 82 #[.pointer (some ⟨b, 0, none⟩)] w fun e w' => e = .returned (.string ⟨l.toArray⟩) ∧ w' = w.drew.freeze ⟨g, 0, none⟩ l.length := by
 have hl0 : l.length ≠ 0 := by simpa using h0
 have c1 : w.drew.cell? ⟨b, 1, none⟩ = some (.slice (some ⟨g, 0, none⟩) l.length cap) := by
  have : w.drew.heap[b]? = some (.cells #[p, .slice (some ⟨g, 0, none⟩) l.length cap] 131 (0, 0)) := hbk
  rw [Lib.cell_of_heap this]; rfl
 have hSD : (Builtin.unsafeSliceData_ #[129] 204 #[.slice (some ⟨g, 0, none⟩) l.length cap]).run Tryz.prog w.drew = .ok (.pointer (some ⟨g, 0, none⟩)) w.drew :=
  Lib.run_unsafeSliceData_row _ _ _ _ _ _ (by omega)
 have hUS : (Builtin.unsafeString_ #[204, 3] 9 #[.pointer (some ⟨g, 0, none⟩), .int .i64 l.length]).run Tryz.prog w.drew = .ok (.string ⟨l.toArray⟩) (w.drew.freeze ⟨g, 0, none⟩ l.length) := by
  refine Lib.run_unsafeString_row w.drew 204 3 9 5 undBP cellsByte g cur.size (by have hg' : w.drew.heap[g]? = some (.cells cur 5 fz) := hg; simp [World.shape?, hg']) l h0 (by omega) (by unfold maxLen at hcm; omega) ?_
  intro j x hx
  have hg' : w.drew.heap[g]? = some (.cells cur 5 fz) := hg
  rw [add_lit, cell_row hg', Nat.zero_add]
  have hj : j < l.length := (List.getElem?_eq_some_iff.1 hx).1
  have := congrArg (·[j]?) htake
  simp only [List.getElem?_take, hj, if_true, List.getElem?_map, hx, Option.map_some] at this
  simpa using this
 go_enter Tryz.func82, Tryz.ntmps82
 go_wp2
 go_region
 all_goals (go_wp2; go_ret; exact ⟨rfl, rfl⟩)
theorem us_none (W : World) (q : Option Addr) : (Builtin.unsafeString_ #[204, 3] 9 #[.pointer q, .int .i64 0]).run Tryz.prog W = .ok (.string .empty) W := Lib.run_unsafeString_none W _ _ _ q
set_option maxHeartbeats 2000000 in
set_option maxRecDepth 100000 in
theorem bs_nil (hbk : w.heap[b]? = some (.cells #[p, .slice none 0 0] 131 (0, 0))) :
  Calls Tryz.prog 82 #[.pointer (some ⟨b, 0, none⟩)] w fun e w' => e = .returned (.string ⟨#[]⟩) ∧ w' = w.drew := by
 have hUS := us_none
 have c1 : w.drew.cell? ⟨b, 1, none⟩ = some (.slice none 0 0) := by
  have : w.drew.heap[b]? = some (.cells #[p, .slice none 0 0] 131 (0, 0)) := hbk
  rw [Lib.cell_of_heap this]; rfl
 have hSD : (Builtin.unsafeSliceData_ #[129] 204 #[.slice none 0 0]).run Tryz.prog w.drew = .ok (.pointer none) w.drew := rfl
 go_enter Tryz.func82, Tryz.ntmps82
 go_wp2
 go_region
 all_goals (go_wp2; go_ret; exact ⟨rfl, rfl⟩)
set_option maxHeartbeats 2000000 in
set_option maxRecDepth 100000 in
theorem bs_noroom (g : Nat) (cur : Array Value) (fz : Nat × Nat) (hbk : w.heap[b]? = some (.cells #[p, .slice (some ⟨g, 0, none⟩) 0 0] 131 (0, 0))) (hg : w.heap[g]? = some (.cells cur 5 fz)) :
  Calls Tryz.prog 82 #[.pointer (some ⟨b, 0, none⟩)] w fun e w' => e = .returned (.string ⟨#[]⟩) ∧ ∃ d o, w' = World.alloc { w with drawn := d } o := by
 have hUS := us_none
 have hlt : b < w.heap.size := (Array.getElem?_eq_some_iff.1 hbk).1
 have c1 : w.drew.cell? ⟨b, 1, none⟩ = some (.slice (some ⟨g, 0, none⟩) 0 0) := by
  have : w.drew.heap[b]? = some (.cells #[p, .slice (some ⟨g, 0, none⟩) 0 0] 131 (0, 0)) := hbk
  rw [Lib.cell_of_heap this]; rfl
 have hSD : (Builtin.unsafeSliceData_ #[129] 204 #[.slice (some ⟨g, 0, none⟩) 0 0]).run Tryz.prog w.drew = .ok (.pointer (some ⟨w.drew.heap.size, 0, none⟩)) (w.drew.alloc (.view ⟨g, 0, none⟩ 5)) :=
  Lib.run_unsafeSliceData_zero w.drew _ _ 5 undBP ⟨g, 0, none⟩ 0 (5, cur.size) (by have hg' : w.drew.heap[g]? = some (.cells cur 5 fz) := hg; simp [World.shape?, hg'])
 have c2 : (w.drew.alloc (.view ⟨g, 0, none⟩ 5)).cell? ⟨b, 1, none⟩ = some (.slice (some ⟨g, 0, none⟩) 0 0) := by
  have : (w.drew.alloc (.view ⟨g, 0, none⟩ 5)).heap[b]? = _ := (Lib.alloc_old w.drew _ b hlt).trans hbk
  rw [Lib.cell_of_heap this]; rfl
 have c3 : (w.alloc (.view ⟨g, 0, none⟩ 5)).drew.cell? ⟨b, 1, none⟩ = some (.slice (some ⟨g, 0, none⟩) 0 0) := c2
 have c0 : w.cell? ⟨b, 1, none⟩ = some (.slice (some ⟨g, 0, none⟩) 0 0) := c1
 go_enter Tryz.func82, Tryz.ntmps82
 go_wp2
 go_region
 all_goals (go_wp2; go_ret; exact ⟨rfl, w.drawn + 1, .view ⟨g, 0, none⟩ 5, rfl⟩)
set_option maxHeartbeats 2000000 in
set_option maxRecDepth 100000 in
theorem bs_room (g cap : Nat) (hc0 : cap ≠ 0) (hbk : w.heap[b]? = some (.cells #[p, .slice (some ⟨g, 0, none⟩) 0 cap] 131 (0, 0))) :
  Calls Tryz.prog 82 #[.pointer (some ⟨b, 0, none⟩)] w fun e w' => e = .returned (.string ⟨#[]⟩) ∧ w' = w.drew := by
 have hUS := us_none
 have c1 : w.drew.cell? ⟨b, 1, none⟩ = some (.slice (some ⟨g, 0, none⟩) 0 cap) := by
  have : w.drew.heap[b]? = some (.cells #[p, .slice (some ⟨g, 0, none⟩) 0 cap] 131 (0, 0)) := hbk
  rw [Lib.cell_of_heap this]; rfl
 have hSD : (Builtin.unsafeSliceData_ #[129] 204 #[.slice (some ⟨g, 0, none⟩) 0 cap]).run Tryz.prog w.drew = .ok (.pointer (some ⟨g, 0, none⟩)) w.drew :=
  Lib.run_unsafeSliceData_row _ _ _ _ _ _ hc0
 clear hc0
 go_enter Tryz.func82, Tryz.ntmps82
 go_wp2
 go_region
 all_goals (go_wp2; go_ret; exact ⟨rfl, rfl⟩)
end
theorem bsOk : BsOk Tryz.prog 82 131 := by
 intro w b p A c xs hb hcm hpre
 refine ⟨by
  unfold callFunc
  simp only [program, Sem.run_bind, Sem.run, Result.andThen_ok, show Tryz.prog.funcs[82]? = some Tryz.f82 from by kernel_rfl]
  rfl, ?_⟩
 have same : ∀ (A : Option Addr) (w' : World), w' = w.drew → SameBut w w' A := fun A w' e => by
  subst e
  exact ⟨rfl, rfl, rfl, Nat.le_refl _, fun _ _ _ => rfl, fun ad _ cs e fz h => ⟨fz, h⟩⟩
 rcases hpre with ⟨rfl, rfl, rfl⟩ | ⟨g, cur, fz, rfl, h1, h2, h3, h4, h5⟩
 ·exact (bs_nil b p w hb).mono fun e w' ⟨he, hw⟩ => ⟨he, same _ _ hw⟩
 ·by_cases hx : xs = []
  ·subst hx
   by_cases hc : c = 0
   ·subst hc
    refine (bs_noroom b p w g cur fz hb h1).mono fun e w' ⟨he, d, o, hw⟩ => ⟨he, ?_⟩
    subst hw
    have old : ∀ b', b' < w.heap.size → (World.alloc { w with drawn := d } o).heap[b']? = w.heap[b']? := fun b' hb' => Below.heap_alloc { w with drawn := d } o b' hb'
    exact ⟨rfl, rfl, rfl, by simp [World.alloc], fun b' hb' _ => old b' hb', fun ad _ cs e fz h => ⟨fz, by rw [old _ (Array.getElem?_eq_some_iff.1 h).1]; exact h⟩⟩
   ·exact (bs_room b p w g c hc hb).mono fun e w' ⟨he, hw⟩ => ⟨he, same _ _ hw⟩
  ·refine (bs_some b p w xs hx g c cur fz hb h1 h3 hcm h4 h5).mono fun e w' ⟨he, hw⟩ => ⟨he, ?_⟩
   subst hw
   have hne : xs.length ≠ 0 := by simpa using hx
   unfold World.freeze
   rw [if_neg hne]
   refine ⟨rfl, rfl, rfl, by simp, fun b' _ hb' => ?_, fun ad had cs e fz' h => ?_⟩
   ·have hgb : g ≠ b' := fun e => hb' _ rfl e.symm
    show (w.heap.modify g _)[b']? = w.heap[b']?
    rw [Array.getElem?_modify, if_neg hgb]
   ·injection had with had
    subst had
    have h : w.heap[g]? = some (.cells cs e fz') := h
    obtain ⟨lo, hi⟩ := fz'
    refine ⟨if lo == hi then (0, 0 + xs.length) else (min lo 0, max hi (0 + xs.length)), ?_⟩
    show (w.heap.modify g _)[g]? = _
    rw [Array.getElem?_modify, if_pos rfl, h]
    rfl
end Go.Mo
end

section
/-
  unicode/utf8.ValidString: the library's contract. The numbers are printed by a program.
-/
set_option linter.unusedVariables false
namespace Go.Mo
open Go Go.W Go.Proofs Go.Shelf Go.RowKit
set_option maxRecDepth 100000
def rhoV : Ren := ⟨fun n => match n with | 196 => 193 | 259 => 242 | n => n, fun n => match n with | 46 => 265 | 53 => 146 | 119 => 261 | 138 => 263 | 139 => 264 | n => n, fun n => match n with | 3 => 3 | 4 => 4 | n => n⟩
theorem laysV : Lays.n196 Tryz.prog rhoV := { mixed := by kernel_rfl, f196 := by kernel_rfl, f259 := by kernel_rfl, t0 := by kernel_rfl, a0 := fun _ => by kernel_rfl, z0 := fun _ => by kernel_rfl, v0 := fun _ => by kernel_rfl, t3 := by kernel_rfl, a3 := fun _ => by kernel_rfl, z3 := fun _ => by kernel_rfl, v3 := fun _ => by kernel_rfl, t4 := by kernel_rfl, a4 := fun _ => by kernel_rfl, z4 := fun _ => by kernel_rfl, v4 := fun _ => by kernel_rfl, t5 := by kernel_rfl, a5 := fun _ => by kernel_rfl, z5 := fun _ => by kernel_rfl, v5 := fun _ => by kernel_rfl, t9 := by kernel_rfl, a9 := fun _ => by kernel_rfl, z9 := fun _ => by kernel_rfl, v9 := fun _ => by kernel_rfl, t12 := by kernel_rfl, a12 := fun _ => by kernel_rfl, z12 := fun _ => by kernel_rfl, v12 := fun _ => by kernel_rfl, t46 := by kernel_rfl, a46 := fun _ => by kernel_rfl, z46 := fun _ => by kernel_rfl, v46 := fun _ => by kernel_rfl, t53 := by kernel_rfl, a53 := fun _ => by kernel_rfl, z53 := fun _ => by kernel_rfl, v53 := fun _ => by kernel_rfl, t119 := by kernel_rfl, a119 := fun _ => by kernel_rfl, z119 := fun _ => by kernel_rfl, t138 := by kernel_rfl, a138 := fun _ => by kernel_rfl, z138 := fun _ => by kernel_rfl, v138 := fun _ => by kernel_rfl, t139 := by kernel_rfl, a139 := fun _ => by kernel_rfl, z139 := fun _ => by kernel_rfl, v139 := fun _ => by kernel_rfl, g3 := by kernel_rfl, g4 := by kernel_rfl }
theorem first_tab : ((List.range 256).all fun c => Nat.beq ((gl3.getD c 0).toNat) (Lib.firstT c) && Nat.beq gl3.length 256) = true := by kernel_rfl
theorem acc_tab : ((List.range 16).all fun c => Nat.beq ((gl4.getD c (0, 0)).1.toNat) (Lib.accLo c) && Nat.beq ((gl4.getD c (0, 0)).2.toNat) (Lib.accHi c) && Nat.beq gl4.length 16) = true := by kernel_rfl
theorem rep_pairs {K : Kn} : ∀ {xs : List (UInt8 × UInt8)} {vs : List Value}, RepL (RepC K (.st (.pair .u8 .u8))) xs vs → ∀ i x, xs[i]? = some x → vs[2 * i]? = some (.int .u8 (n8 x.1)) ∧ vs[2 * i + 1]? = some (.int .u8 (n8 x.2))
 | [], vs, h, i, x, hx => by simp at hx
 | y :: xs, vs, ⟨c1, c2, e, h1, h2⟩, i, x, hx => by
  obtain ⟨d1, d2, e1, e2, e3⟩ := h1
  have e2 : d1 = [.int .u8 (n8 y.1)] := e2
  have e3 : d2 = [.int .u8 (n8 y.2)] := e3
  subst e2
  subst e3
  subst e1
  subst e
  cases i with
  | zero => simp at hx; subst hx; exact ⟨rfl, rfl⟩
  | succ i =>
   have := rep_pairs h2 i x (by simpa using hx)
   rw [show 2 * (i + 1) = 2 * i + 1 + 1 by omega]
   simpa using this
theorem tabsV {K : Kn} {w : World} (hg : GlobOk E K) (hk : KOk K w) : Lib.Utf8Tabs 3 4 w := by
 have cell : ∀ {b o : Nat} {v : Value}, K b o = some v → v.oneCell' = true → w.cell? ⟨b, o, none⟩ = some v := fun {b o v} h hv => by
  obtain ⟨cs, e, fz, h1, h2⟩ := hk b o v h
  rw [cell_row h1]
  exact h2.1 hv
 constructor
 ·obtain ⟨cs, ⟨_, r2⟩, r3, _⟩ := hg.1 3 _ _ (show lkG E.gl 3 = some ⟨.arr 256 .u8, gl3⟩ from by kernel_rfl)
  have hcs := repL_u8_cells r2
  intro c hc
  have ht := List.all_eq_true.1 first_tab c (List.mem_range.2 hc)
  simp only [Bool.and_eq_true] at ht
  have ht1 := Nat.eq_of_beq_eq_true ht.1
  have ht2 := Nat.eq_of_beq_eq_true ht.2
  have hlt : c < gl3.length := by rw [ht2]; exact hc
  refine cell (r3 c _ ?_) rfl
  rw [hcs, List.getElem?_map, List.getElem?_eq_getElem hlt]
  have : gl3.getD c 0 = gl3[c] := by simp [hlt]
  rw [this] at ht1
  simp [ht1]
 ·obtain ⟨cs, ⟨_, r2⟩, r3, _⟩ := hg.1 4 _ _ (show lkG E.gl 4 = some ⟨.arr 16 (.st (.pair .u8 .u8)), gl4⟩ from by kernel_rfl)
  intro c hc
  have ht := List.all_eq_true.1 acc_tab c (List.mem_range.2 hc)
  simp only [Bool.and_eq_true] at ht
  have ht1 := Nat.eq_of_beq_eq_true ht.1.1
  have ht2 := Nat.eq_of_beq_eq_true ht.1.2
  have ht3 := Nat.eq_of_beq_eq_true ht.2
  have hlt : c < gl4.length := by rw [ht3]; exact hc
  obtain ⟨q1, q2⟩ := rep_pairs r2 c _ (List.getElem?_eq_getElem hlt)
  have : gl4.getD c (0, 0) = gl4[c] := by simp [hlt]
  rw [this] at ht1 ht2
  refine ⟨cell (r3 _ _ (by rw [q1]; unfold n8; rw [ht1])) rfl, cell (r3 _ _ (by rw [q2]; unfold n8; rw [ht2])) rfl⟩
theorem khV (N : Nat) : ConOk E ⟨193, [.k (.v .str [])], [.v .bool []], hand_utf8_ValidString N⟩ := by
 intro x r h w K H γ args hEnt
 obtain ⟨hgd, h⟩ := grd_some (show grd (catOk (len x)) (some (Lib.validD x)) = some r from h)
 injection h with h
 subst h
 have hgd : (x.length : Int) ≤ 9223372036854775807 := of_decide_eq_true hgd
 right
 have hs : args.size = 1 := hEnt.size
 have s0 := (hEnt.slots 0 0 (.val (.one (.v .str x))) rfl).2
 have s0 : args.getD 0 undef = .string (bst x) := by simpa [RepSV, RepV, RepCell, RepC] using s0
 have ha : args = #[.string (bst x)] := by
  apply Array.ext
  ·simpa using hs
  ·intro i h1 h3
   simp at h3
   subst h3
   have : args.getD 0 undef = args[0] := by simp [Array.getD, hs]
   rw [← this, s0]
   rfl
 subst ha
 have hsz : (bst x).size = x.length := bst_size x
 refine ⟨by
  unfold callFunc
  simp only [program, Sem.run_bind, Sem.run, Result.andThen_ok, show E.P.funcs[193]? = some Tryz.f193 from by kernel_rfl]
  rfl, ?_⟩
 have hT := tabsV hEnt.glob hEnt.hp.kok
 refine (Any.utf8_ValidString laysV (bst x) w (by rw [hsz]; omega) hT).mono fun e w' he => ?_
 obtain ⟨rfl, hb⟩ := he
 intro tk _
 refine ⟨γ, obs (W.start [.k (.v .str [])] x), K, [], [], ?_, ⟨rfl, rfl⟩, fun j => by simp, fun i o ho => ?_, fun γ2 _ => rfl⟩
 ·have hn : ∀ j, obs (W.start [.k (.v .str [])] x) j = none := fun j => rfl
  refine ⟨hb.os, hb.tape, hb.output, hb.size, fun b hlt _ => ⟨hb.block b hlt, fun _ => rfl⟩, Kn.le.refl K, fun b o v hv => ?_, fun j o g hj => (by rw [hn] at hj; cases hj), fun j o g hj => (by rw [hn] at hj; cases hj), fun i j p q g g' hi => (by rw [hn] at hi; cases hi)⟩
  obtain ⟨cs, ee, fz, h1, h2⟩ := hEnt.hp.kok b o v hv
  exact ⟨cs, ee, fz, by rw [hb.block b (Array.getElem?_eq_some_iff.1 h1).1]; exact h1, h2⟩
 ·have ho : ([] : List Ob)[i]? = some o := ho
  simp at ho
end Go.Mo
end

section
/-
  Functions of the library, by its own contracts. The numbers are printed by a program.
-/
set_option linter.all false
namespace Go.Mo
open Go Go.W Go.Proofs Go.Shelf Go.RowKit
set_option maxRecDepth 100000
def rhoC : Ren := ⟨fun n => match n with | 143 => 180 | 144 => 201 | 217 => 230 | 219 => 232 | 224 => 263 | 225 => 262 | 266 => 261 | 267 => 264 | 314 => 284 | n => n, fun n => match n with | 46 => 265 | 51 => 274 | 146 => 282 | 22 => 226 | 23 => 255 | 24 => 216 | 25 => 217 | 27 => 223 | 28 => 196 | 31 => 92 | 32 => 219 | 33 => 157 | 37 => 129 | 39 => 218 | 40 => 331 | 41 => 249 | 42 => 90 | 47 => 277 | 48 => 334 | 52 => 291 | 53 => 146 | 54 => 245 | 55 => 224 | 63 => 293 | 64 => 266 | 65 => 242 | 66 => 203 | 69 => 52 | 70 => 128 | 71 => 130 | 72 => 131 | 73 => 268 | 74 => 132 | 75 => 133 | 76 => 134 | 77 => 135 | 78 => 296 | 80 => 137 | 81 => 136 | 83 => 243 | 84 => 142 | 85 => 280 | 86 => 281 | 94 => 403 | 103 => 165 | 104 => 59 | 105 => 269 | 106 => 270 | 108 => 330 | 111 => 276 | 114 => 271 | 115 => 285 | 116 => 286 | 117 => 287 | 118 => 288 | 119 => 261 | 122 => 284 | 123 => 289 | 124 => 290 | 127 => 204 | 128 => 292 | 131 => 126 | 136 => 260 | 137 => 262 | 138 => 263 | 139 => 264 | 143 => 335 | 144 => 336 | 145 => 337 | 151 => 283 | 164 => 240 | 165 => 241 | 166 => 299 | 167 => 302 | 168 => 305 | 169 => 306 | 170 => 307 | 171 => 244 | 172 => 246 | 173 => 247 | 174 => 248 | 175 => 303 | 176 => 304 | 209 => 328 | 210 => 329 | 211 => 272 | 212 => 273 | 213 => 275 | 214 => 327 | 232 => 300 | 233 => 301 | 238 => 378 | 239 => 379 | 240 => 380 | 241 => 381 | 242 => 382 | 243 => 383 | 244 => 384 | 245 => 385 | 246 => 386 | 247 => 387 | 248 => 388 | 249 => 389 | n => n, fun n => match n with | 1 => 6 | 15 => 9 | 16 => 10 | 17 => 5 | 18 => 7 | 19 => 8 | n => n⟩
theorem laysC : Lays.n144 Tryz.prog rhoC := { mixed := by kernel_rfl, f143 := by kernel_rfl, f144 := by kernel_rfl, f217 := by kernel_rfl, f219 := by kernel_rfl, f224 := by kernel_rfl, f225 := by kernel_rfl, f266 := by kernel_rfl, f267 := by kernel_rfl, f314 := by kernel_rfl, t3 := by kernel_rfl, a3 := fun _ => by kernel_rfl, z3 := fun _ => by kernel_rfl, v3 := fun _ => by kernel_rfl, t4 := by kernel_rfl, a4 := fun _ => by kernel_rfl, z4 := fun _ => by kernel_rfl, v4 := fun _ => by kernel_rfl, t5 := by kernel_rfl, a5 := fun _ => by kernel_rfl, z5 := fun _ => by kernel_rfl, v5 := fun _ => by kernel_rfl, t9 := by kernel_rfl, a9 := fun _ => by kernel_rfl, z9 := fun _ => by kernel_rfl, v9 := fun _ => by kernel_rfl, t46 := by kernel_rfl, a46 := fun _ => by kernel_rfl, z46 := fun _ => by kernel_rfl, v46 := fun _ => by kernel_rfl, t51 := by kernel_rfl, a51 := fun _ => by kernel_rfl, z51 := fun _ => by kernel_rfl, v51 := fun _ => by kernel_rfl, t146 := by kernel_rfl, a146 := fun _ => by kernel_rfl, z146 := fun _ => by kernel_rfl, v146 := fun _ => by kernel_rfl, g1 := by kernel_rfl }
theorem khContains (N : Nat) : ConOk E ⟨201, [.k (.v .str []), .k (.v .str [])], [.v .bool []], hand_strings_Contains N⟩ :=
 con_ssb (fn := Tryz.f201) _ (show E.P.funcs[201]? = some Tryz.f201 from by kernel_rfl) (by kernel_rfl) (by kernel_rfl) fun x r h w K hG hk => by
  obtain ⟨hb, h⟩ := grd_some h
  injection h with h
  subst h
  have hb : x.1.length < 4294967281 := of_decide_eq_true hb
  obtain ⟨m, hm⟩ := hG.2.1 6 (by kernel_rfl)
  obtain ⟨cs, e, fz, h1, h2⟩ := hk _ _ _ hm
  exact Any.strings_Contains laysC (bst x.1) (bst x.2) m w (by rw [bst_size]; exact hb) (by
   show w.cell? ⟨6, 0, none⟩ = _
   rw [cell_row h1]
   exact h2.1 rfl)
def rhoR : Ren := ⟨fun n => match n with | 138 => 176 | 143 => 180 | 154 => 207 | 165 => 247 | 166 => 79 | 169 => 82 | 195 => 226 | 197 => 248 | 217 => 230 | 218 => 227 | 219 => 232 | 224 => 263 | 225 => 262 | 240 => 146 | 241 => 277 | 260 => 278 | 266 => 261 | 267 => 264 | 276 => 206 | 277 => 293 | 314 => 284 | n => n, fun n => match n with | 37 => 129 | 46 => 265 | 51 => 274 | 70 => 128 | 72 => 131 | 75 => 133 | 76 => 134 | 80 => 137 | 105 => 269 | 119 => 261 | 127 => 204 | 138 => 263 | 139 => 264 | 146 => 282 | 164 => 240 | 22 => 226 | 23 => 255 | 24 => 216 | 25 => 217 | 27 => 223 | 28 => 196 | 31 => 92 | 32 => 219 | 33 => 157 | 39 => 218 | 40 => 331 | 41 => 249 | 42 => 90 | 47 => 277 | 48 => 334 | 52 => 291 | 53 => 146 | 54 => 245 | 55 => 224 | 63 => 293 | 64 => 266 | 65 => 242 | 66 => 203 | 69 => 52 | 71 => 130 | 73 => 268 | 74 => 132 | 77 => 135 | 78 => 296 | 81 => 136 | 83 => 243 | 84 => 142 | 85 => 280 | 86 => 281 | 94 => 403 | 103 => 165 | 104 => 59 | 106 => 270 | 108 => 330 | 111 => 276 | 114 => 271 | 115 => 285 | 116 => 286 | 117 => 287 | 118 => 288 | 122 => 284 | 123 => 289 | 124 => 290 | 128 => 292 | 131 => 126 | 136 => 260 | 137 => 262 | 143 => 335 | 144 => 336 | 145 => 337 | 151 => 283 | 165 => 241 | 166 => 299 | 167 => 302 | 168 => 305 | 169 => 306 | 170 => 307 | 171 => 244 | 172 => 246 | 173 => 247 | 174 => 248 | 175 => 303 | 176 => 304 | 209 => 328 | 210 => 329 | 211 => 272 | 212 => 273 | 213 => 275 | 214 => 327 | 232 => 300 | 233 => 301 | 238 => 378 | 239 => 379 | 240 => 380 | 241 => 381 | 242 => 382 | 243 => 383 | 244 => 384 | 245 => 385 | 246 => 386 | 247 => 387 | 248 => 388 | 249 => 389 | n => n, fun n => match n with | 1 => 6 | 15 => 9 | 16 => 10 | 17 => 5 | 18 => 7 | 19 => 8 | n => n⟩
theorem laysR : Lays.n154 Tryz.prog rhoR := { mixed := by kernel_rfl, f138 := by kernel_rfl, f143 := by kernel_rfl, f154 := by kernel_rfl, f165 := by kernel_rfl, f166 := by kernel_rfl, f169 := by kernel_rfl, f195 := by kernel_rfl, f197 := by kernel_rfl, f217 := by kernel_rfl, f218 := by kernel_rfl, f219 := by kernel_rfl, f224 := by kernel_rfl, f225 := by kernel_rfl, f240 := by kernel_rfl, f241 := by kernel_rfl, f260 := by kernel_rfl, f266 := by kernel_rfl, f267 := by kernel_rfl, f276 := by kernel_rfl, f277 := by kernel_rfl, f314 := by kernel_rfl, t0 := by kernel_rfl, a0 := fun _ => by kernel_rfl, z0 := fun _ => by kernel_rfl, v0 := fun _ => by kernel_rfl, t3 := by kernel_rfl, a3 := fun _ => by kernel_rfl, z3 := fun _ => by kernel_rfl, v3 := fun _ => by kernel_rfl, t4 := by kernel_rfl, a4 := fun _ => by kernel_rfl, z4 := fun _ => by kernel_rfl, v4 := fun _ => by kernel_rfl, t5 := by kernel_rfl, a5 := fun _ => by kernel_rfl, z5 := fun _ => by kernel_rfl, v5 := fun _ => by kernel_rfl, t9 := by kernel_rfl, a9 := fun _ => by kernel_rfl, z9 := fun _ => by kernel_rfl, v9 := fun _ => by kernel_rfl, t20 := by kernel_rfl, a20 := fun _ => by kernel_rfl, z20 := fun _ => by kernel_rfl, v20 := fun _ => by kernel_rfl, t21 := by kernel_rfl, a21 := fun _ => by kernel_rfl, z21 := fun _ => by kernel_rfl, v21 := fun _ => by kernel_rfl, t37 := by kernel_rfl, a37 := fun _ => by kernel_rfl, z37 := fun _ => by kernel_rfl, v37 := fun _ => by kernel_rfl, t46 := by kernel_rfl, a46 := fun _ => by kernel_rfl, z46 := fun _ => by kernel_rfl, v46 := fun _ => by kernel_rfl, t51 := by kernel_rfl, a51 := fun _ => by kernel_rfl, z51 := fun _ => by kernel_rfl, v51 := fun _ => by kernel_rfl, t70 := by kernel_rfl, a70 := fun _ => by kernel_rfl, z70 := fun _ => by kernel_rfl, v70 := fun _ => by kernel_rfl, t72 := by kernel_rfl, a72 := fun _ => by kernel_rfl, z72 := fun _ => by kernel_rfl, v72 := fun _ => by kernel_rfl, t75 := by kernel_rfl, a75 := fun _ => by kernel_rfl, z75 := fun _ => by kernel_rfl, v75 := fun _ => by kernel_rfl, t76 := by kernel_rfl, a76 := fun _ => by kernel_rfl, z76 := fun _ => by kernel_rfl, v76 := fun _ => by kernel_rfl, t105 := by kernel_rfl, a105 := fun _ => by kernel_rfl, z105 := fun _ => by kernel_rfl, v105 := fun _ => by kernel_rfl, t119 := by kernel_rfl, a119 := fun _ => by kernel_rfl, z119 := fun _ => by kernel_rfl, t127 := by kernel_rfl, a127 := fun _ => by kernel_rfl, z127 := fun _ => by kernel_rfl, v127 := fun _ => by kernel_rfl, t138 := by kernel_rfl, a138 := fun _ => by kernel_rfl, z138 := fun _ => by kernel_rfl, v138 := fun _ => by kernel_rfl, t139 := by kernel_rfl, a139 := fun _ => by kernel_rfl, z139 := fun _ => by kernel_rfl, v139 := fun _ => by kernel_rfl, t146 := by kernel_rfl, a146 := fun _ => by kernel_rfl, z146 := fun _ => by kernel_rfl, v146 := fun _ => by kernel_rfl, t164 := by kernel_rfl, a164 := fun _ => by kernel_rfl, z164 := fun _ => by kernel_rfl, v164 := fun _ => by kernel_rfl, g1 := by kernel_rfl, g3 := by kernel_rfl, g4 := by kernel_rfl }
theorem extraR : Builder.Extra Tryz.prog rhoR where
 sizeBuilder := by kernel_rfl
 liesBuilder := by kernel_rfl
 t5 := laysR.t5
 a5 := laysR.a5
 z5 := laysR.z5
 v5 := laysR.v5
 infoByte := by kernel_rfl
 cellsByte := by kernel_rfl
 sizeByte := by kernel_rfl
 neB5 := by decide
theorem khReplace (N : Nat) : ConOk E ⟨207, [.k (.v .str []), .k (.v .str []), .k (.v .str []), .k (.v (.int .i64) [])], [.v .str []], hand_strings_Replace N⟩ :=
 con_sssi (fn := Tryz.f207) _ (show E.P.funcs[207]? = some Tryz.f207 from by kernel_rfl) (by kernel_rfl) (by kernel_rfl) fun x r h w K hG hk => by
  obtain ⟨hb, h⟩ := grd_some h
  obtain ⟨hc, h⟩ := grd_some h
  obtain ⟨hd, h⟩ := grd_some h
  injection h with h
  subst h
  have hb : x.1.length < 4294967281 := of_decide_eq_true hb
  have hc : 1 ≤ x.2.1.length := of_decide_eq_true hc
  have hd : x.1.length + Lib.count x.1 x.2.1 * x.2.2.1.length ≤ 140737488355328 := of_decide_eq_true hd
  obtain ⟨m, hm⟩ := hG.2.1 6 (by kernel_rfl)
  obtain ⟨cs, e, fz, h1, h2⟩ := hk _ _ _ hm
  refine (Any.strings_Replace laysR extraR (bst x.1) (bst x.2.1) (bst x.2.2.1) x.2.2.2 m w (by rw [bst_size]; exact hb) (by
   show w.cell? ⟨6, 0, none⟩ = _
   rw [cell_row h1]
   exact h2.1 rfl) (by rw [bst_size]; exact hc) (by rw [bst_size, bst_size]; exact hd)).mono fun e w' he => ?_
  obtain ⟨q1, q2⟩ := he
  exact ⟨q1, q2.os, q2.tape, q2.output, q2.size, q2.block⟩
def rhoF : Ren := ⟨fun n => match n with | 129 => 250 | 246 => 148 | 283 => 208 | 284 => 209 | 285 => 210 | 286 => 211 | 317 => 249 | 318 => 251 | 319 => 252 | 320 => 253 | 337 => 279 | 338 => 280 | n => n, fun n => match n with | 37 => 129 | 46 => 265 | 51 => 274 | 53 => 146 | 171 => 244 | 173 => 247 | 212 => 273 | 213 => 275 | 232 => 300 | 233 => 301 | 22 => 226 | 23 => 255 | 24 => 216 | 25 => 217 | 27 => 223 | 28 => 196 | 31 => 92 | 32 => 219 | 33 => 157 | 39 => 218 | 40 => 331 | 41 => 249 | 42 => 90 | 47 => 277 | 48 => 334 | 52 => 291 | 54 => 245 | 55 => 224 | 63 => 293 | 64 => 266 | 65 => 242 | 66 => 203 | 69 => 52 | 70 => 128 | 71 => 130 | 72 => 131 | 73 => 268 | 74 => 132 | 75 => 133 | 76 => 134 | 77 => 135 | 78 => 296 | 80 => 137 | 81 => 136 | 83 => 243 | 84 => 142 | 85 => 280 | 86 => 281 | 94 => 403 | 103 => 165 | 104 => 59 | 105 => 269 | 106 => 270 | 108 => 330 | 111 => 276 | 114 => 271 | 115 => 285 | 116 => 286 | 117 => 287 | 118 => 288 | 119 => 261 | 122 => 284 | 123 => 289 | 124 => 290 | 127 => 204 | 128 => 292 | 131 => 126 | 136 => 260 | 137 => 262 | 138 => 263 | 139 => 264 | 143 => 335 | 144 => 336 | 145 => 337 | 146 => 282 | 151 => 283 | 164 => 240 | 165 => 241 | 166 => 299 | 167 => 302 | 168 => 305 | 169 => 306 | 170 => 307 | 172 => 246 | 174 => 248 | 175 => 303 | 176 => 304 | 209 => 328 | 210 => 329 | 211 => 272 | 214 => 327 | 238 => 378 | 239 => 379 | 240 => 380 | 241 => 381 | 242 => 382 | 243 => 383 | 244 => 384 | 245 => 385 | 246 => 386 | 247 => 387 | 248 => 388 | 249 => 389 | n => n, fun n => match n with | 17 => 5 | 18 => 7 | 19 => 8 | 1 => 6 | 15 => 9 | 16 => 10 | n => n⟩
theorem laysF : LaysM.n246 Tryz.prog rhoF := { mixed := by kernel_rfl, f129 := by kernel_rfl, f246 := by kernel_rfl, f283 := by kernel_rfl, f284 := by kernel_rfl, f285 := by kernel_rfl, f286 := by kernel_rfl, f317 := by kernel_rfl, f318 := by kernel_rfl, f319 := by kernel_rfl, f320 := by kernel_rfl, f337 := by kernel_rfl, f338 := by kernel_rfl, t0 := by kernel_rfl, a0 := fun _ => by kernel_rfl, z0 := fun _ => by kernel_rfl, v0 := fun _ => by kernel_rfl, t2 := by kernel_rfl, a2 := fun _ => by kernel_rfl, z2 := fun _ => by kernel_rfl, v2 := fun _ => by kernel_rfl, t3 := by kernel_rfl, a3 := fun _ => by kernel_rfl, z3 := fun _ => by kernel_rfl, v3 := fun _ => by kernel_rfl, t4 := by kernel_rfl, a4 := fun _ => by kernel_rfl, z4 := fun _ => by kernel_rfl, v4 := fun _ => by kernel_rfl, t5 := by kernel_rfl, a5 := fun _ => by kernel_rfl, z5 := fun _ => by kernel_rfl, v5 := fun _ => by kernel_rfl, t9 := by kernel_rfl, a9 := fun _ => by kernel_rfl, z9 := fun _ => by kernel_rfl, v9 := fun _ => by kernel_rfl, t20 := by kernel_rfl, a20 := fun _ => by kernel_rfl, z20 := fun _ => by kernel_rfl, v20 := fun _ => by kernel_rfl, t37 := by kernel_rfl, a37 := fun _ => by kernel_rfl, z37 := fun _ => by kernel_rfl, v37 := fun _ => by kernel_rfl, t46 := by kernel_rfl, a46 := fun _ => by kernel_rfl, z46 := fun _ => by kernel_rfl, v46 := fun _ => by kernel_rfl, t51 := by kernel_rfl, a51 := fun _ => by kernel_rfl, z51 := fun _ => by kernel_rfl, v51 := fun _ => by kernel_rfl, t53 := by kernel_rfl, a53 := fun _ => by kernel_rfl, z53 := fun _ => by kernel_rfl, v53 := fun _ => by kernel_rfl, t171 := by kernel_rfl, a171 := fun _ => by kernel_rfl, z171 := fun _ => by kernel_rfl, v171 := fun _ => by kernel_rfl, t173 := by kernel_rfl, a173 := fun _ => by kernel_rfl, z173 := fun _ => by kernel_rfl, v173 := fun _ => by kernel_rfl, t212 := by kernel_rfl, a212 := fun _ => by kernel_rfl, z212 := fun _ => by kernel_rfl, v212 := fun _ => by kernel_rfl, t213 := by kernel_rfl, a213 := fun _ => by kernel_rfl, z213 := fun _ => by kernel_rfl, t232 := by kernel_rfl, a232 := fun _ => by kernel_rfl, z232 := fun _ => by kernel_rfl, v232 := fun _ => by kernel_rfl, t233 := by kernel_rfl, a233 := fun _ => by kernel_rfl, z233 := fun _ => by kernel_rfl, v233 := fun _ => by kernel_rfl, g17 := by kernel_rfl, g18 := by kernel_rfl, g19 := by kernel_rfl, i0 := by kernel_rfl, i2 := by kernel_rfl, i3 := by kernel_rfl, i4 := by kernel_rfl, i5 := by kernel_rfl, i9 := by kernel_rfl, i20 := by kernel_rfl, i37 := by kernel_rfl, i46 := by kernel_rfl, i51 := by kernel_rfl, i53 := by kernel_rfl, i171 := by kernel_rfl, i173 := by kernel_rfl, i212 := by kernel_rfl, i232 := by kernel_rfl, i233 := by kernel_rfl, m17 := by kernel_rfl, m18 := by kernel_rfl, m19 := by kernel_rfl }
theorem khFormatInt (N : Nat) : ConOk E ⟨148, [.k (.v (.int .i64) []), .k (.v (.int .i64) [])], [.v .str []], hand_istrconv_FormatInt N⟩ :=
 con_fmt (fn := Tryz.f148) _ (show E.P.funcs[148]? = some Tryz.f148 from by kernel_rfl) (by kernel_rfl) (by kernel_rfl) fun x r h w K hG hk => by
  obtain ⟨h1, h⟩ := grd_some (show grd (ieq x.2 10) _ = some r from h)
  obtain ⟨h2, h⟩ := grd_some h
  obtain ⟨h3, h⟩ := grd_some h
  injection h with h
  subst h
  have e1 : x.2 = 10 := by unfold ieq at h1; simpa using h1
  have h2 : -9223372036854775808 ≤ x.1 := of_decide_eq_true h2
  have h3 : x.1 ≤ 9223372036854775807 := of_decide_eq_true h3
  obtain ⟨cs, r2, r3, r4⟩ := hG.1 5 _ _ (show lkG E.gl 5 = some ⟨.arr 20 (.int .u64), gl5⟩ from by kernel_rfl)
  have htab : Lib.TabIs E.P w "internal/strconv.uint64pow10" .u64 Lib.pow10Tab := by
   have := tab_is (P := E.P) (name := "internal/strconv.uint64pow10") hk r2 r3 r4 (by kernel_rfl)
   rwa [show (gl5 : List Int) = Lib.pow10Tab by kernel_rfl] at this
  rw [e1]
  refine (Any.internal_strconv_FormatInt_10 laysF x.1 h2 h3 w htab).mono fun e w' he => ?_
  obtain ⟨q1, k, os, q2⟩ := he
  subst q2
  exact ⟨by rw [q1, itoa10_eq h2 h3]; rfl, rfl, rfl, rfl, Lib.size_grow w k os, fun b hb => Lib.heap_grow_old w k os b hb⟩
end Go.Mo
end

section
/-
  The environment is sound; contracts by hand.
-/
namespace Go.Mo
open Go Go.W Go.Proofs
set_option maxRecDepth 100000
theorem nzOk : NzOk E.P 293 := nz_ok (show E.P.funcs[293]? = some Tryz.f293 from by kernel_rfl) (by kernel_rfl) (by kernel_rfl) (by kernel_rfl) (show Extern.find Tryz.f293 = some (Extern.BytealgMakeNoZero.makeNoZero #[3] #[129]) from by kernel_rfl) (by kernel_rfl)
theorem envOk : EnvOk E := ⟨chk, mixed, fun z h => (by injection h with h; subst h; exact nzOk), fun z t h => (by injection h with h; injection h with h1 h2; subst h1; subst h2; exact bsOk)⟩
theorem kh_utf8_ValidString (N : Nat) : ConOk E ⟨193, ps_utf8_ValidString, rs_utf8_ValidString, utf8_ValidString N⟩ := khV N
theorem kh_strings_Builder_copyCheck (N : Nat) : ConOk E ⟨146, ps_strings_Builder_copyCheck, rs_strings_Builder_copyCheck, strings_Builder_copyCheck N⟩ := W.kh_copyCheck (show CcOk E.P 146 131 from ccOk) N
theorem kh_strings_Contains (N : Nat) : ConOk E ⟨201, ps_strings_Contains, rs_strings_Contains, strings_Contains N⟩ := khContains N
theorem kh_istrconv_FormatInt (N : Nat) : ConOk E ⟨148, ps_istrconv_FormatInt, rs_istrconv_FormatInt, istrconv_FormatInt N⟩ := khFormatInt N
theorem kh_strings_Replace (N : Nat) : ConOk E ⟨207, ps_strings_Replace, rs_strings_Replace, strings_Replace N⟩ := khReplace N
end Go.Mo
end

section
/-
  The functions do what their models say. Printed by a program.
-/
namespace Go.Mo
open Go Go.W Go.Proofs
noncomputable section
set_option maxRecDepth 100000
def a_q11 : Ann := (.sq .lf (.sq .lf (.jn ⟨[], [], [], []⟩ (.sq .lf (.lp ⟨[1, 9], [], [.s 5, .o 5], [.v (.int .i64) [], .i]⟩ .lf)) .lf)))
theorem x_q11 (N : Nat) : execF E [] N Tryz.f243 a_q11 ps_q11 rs_q11 = q11 N := by kernel_rfl
def a_q12 : Ann := .lf
theorem x_q12 (N : Nat) : execF E [⟨243, ps_q11, rs_q11, q11 N⟩] N Tryz.f194 a_q12 ps_q12 rs_q12 = q12 N := by kernel_rfl
def a_q13 : Ann := (.sq .lf (.sq .lf (.jn ⟨[], [], [], []⟩ (.sq .lf (.lp ⟨[9], [], [.o 7], [.i]⟩ .lf)) .lf)))
theorem x_q13 (N : Nat) : execF E [⟨193, ps_utf8_ValidString, rs_utf8_ValidString, utf8_ValidString N⟩, ⟨194, ps_q12, rs_q12, q12 N⟩] N Tryz.f134 a_q13 ps_q13 rs_q13 = q13 N := by kernel_rfl
def a_q14 : Ann := (.sq .lf (.sq .lf (.jn ⟨[], [], [], []⟩ (.sq .lf (.lp ⟨[0, 24], [], [.s 25], [.v (.int .i64) []]⟩ (.sq .lf (.sq .lf (.jn ⟨[0, 24, 25], [], [], []⟩ .lf .lf))))) .lf)))
theorem x_q14 (N : Nat) : execF E [] N Tryz.f135 a_q14 ps_q14 rs_q14 = q14 N := by kernel_rfl
def a_q15 : Ann := .lf
theorem x_q15 (N : Nat) : execF E [] N Tryz.f83 a_q15 ps_q15 rs_q15 = q15 N := by kernel_rfl
def a_q16 : Ann := .lf
theorem x_q16 (N : Nat) : execF E [⟨83, ps_q15, rs_q15, q15 N⟩] N Tryz.f195 a_q16 ps_q16 rs_q16 = q16 N := by kernel_rfl
def a_q17 : Ann := .lf
theorem x_q17 (N : Nat) : execF E [⟨83, ps_q15, rs_q15, q15 N⟩] N Tryz.f196 a_q17 ps_q17 rs_q17 = q17 N := by kernel_rfl
def a_q18 : Ann := .lf
theorem x_q18 (N : Nat) : execF E [⟨195, ps_q16, rs_q16, q16 N⟩, ⟨196, ps_q17, rs_q17, q17 N⟩] N Tryz.f136 a_q18 ps_q18 rs_q18 = q18 N := by kernel_rfl
def a_q19 : Ann := (.sq .lf (.jn ⟨[1], [2], [], []⟩ .lf .lf))
theorem x_q19 (N : Nat) : execF E [⟨134, ps_q13, rs_q13, q13 N⟩, ⟨135, ps_q14, rs_q14, q14 N⟩, ⟨136, ps_q18, rs_q18, q18 N⟩] N Tryz.f74 a_q19 ps_q19 rs_q19 = q19 N := by kernel_rfl
def a_q20 : Ann := .lf
theorem x_q20 (N : Nat) : execF E [] N Tryz.f197 a_q20 ps_q20 rs_q20 = q20 N := by kernel_rfl
def a_q21 : Ann := .lf
theorem x_q21 (N : Nat) : execF E [⟨135, ps_q14, rs_q14, q14 N⟩, ⟨197, ps_q20, rs_q20, q20 N⟩] N Tryz.f137 a_q21 ps_q21 rs_q21 = q21 N := by kernel_rfl
def a_q22 : Ann := (.sq .lf (.sq .lf (.jn ⟨[], [], [], []⟩ (.sq .lf (.lp ⟨[0, 9, 10], [], [.s 11], [.v (.int .i64) []]⟩ (.sq .lf (.sq .lf (.sq (.sq .lf (.sq .lf (.jn ⟨[0, 3, 4, 9, 10, 11], [14], [], []⟩ .lf .lf))) .lf))))) .lf)))
theorem x_q22 (N : Nat) : execF E [⟨137, ps_q21, rs_q21, q21 N⟩] N Tryz.f75 a_q22 ps_q22 rs_q22 = q22 N := by kernel_rfl
def a_q23 : Ann := .lf
theorem x_q23 (N : Nat) : execF E [] N Tryz.f198 a_q23 ps_q23 rs_q23 = q23 N := by kernel_rfl
def a_q24 : Ann := (.sq .lf (.sq .lf (.jn ⟨[4], [2], [], []⟩ (.sq .lf (.lp ⟨[1, 4, 11, 12], [2], [.s 13], [.v (.int .i64) []]⟩ .lf)) .lf)))
theorem x_q24 (N : Nat) : execF E [⟨198, ps_q23, rs_q23, q23 N⟩] N Tryz.f138 a_q24 ps_q24 rs_q24 = q24 N := by kernel_rfl
def a_q25 : Ann := .lf
theorem x_q25 (N : Nat) : execF E [] N Tryz.f139 a_q25 ps_q25 rs_q25 = q25 N := by kernel_rfl
def a_q26 : Ann := .lf
theorem x_q26 (N : Nat) : execF E [] N Tryz.f85 a_q26 ps_q26 rs_q26 = q26 N := by kernel_rfl
def a_q27 : Ann := .lf
theorem x_q27 (N : Nat) : execF E [⟨85, ps_q26, rs_q26, q26 N⟩] N Tryz.f38 a_q27 ps_q27 rs_q27 = q27 N := by kernel_rfl
def a_q28 : Ann := .lf
theorem x_q28 (N : Nat) : execF E [] N Tryz.f244 a_q28 ps_q28 rs_q28 = q28 N := by kernel_rfl
def a_q29 : Ann := .lf
theorem x_q29 (N : Nat) : execF E [] N Tryz.f245 a_q29 ps_q29 rs_q29 = q29 N := by kernel_rfl
def a_q30 : Ann := (.sq .lf (.sq .lf (.jn ⟨[], [], [], []⟩ (.sq .lf (.lp ⟨[1, 10, 11], [2], [.s 12], [.v (.int .i64) []]⟩ .lf)) .lf)))
theorem x_q30 (N : Nat) : execF E [⟨134, ps_q13, rs_q13, q13 N⟩, ⟨244, ps_q28, rs_q28, q28 N⟩, ⟨245, ps_q29, rs_q29, q29 N⟩] N Tryz.f199 a_q30 ps_q30 rs_q30 = q30 N := by kernel_rfl
def a_q31 : Ann := .lf
theorem x_q31 (N : Nat) : execF E [⟨146, ps_strings_Builder_copyCheck, rs_strings_Builder_copyCheck, strings_Builder_copyCheck N⟩] N Tryz.f79 a_q31 ps_q31 rs_q31 = q31 N := by kernel_rfl
def a_q32 : Ann := (.sq .lf (.sq .lf (.jn ⟨[3], [], [.o 5], [.b 131 Y9 [1]]⟩ (.sq .lf (.lp ⟨[3, 7, 8], [], [.s 9, .o 5], [.v (.int .i64) [], .b 131 Y9 [1]]⟩ .lf)) .lf)))
theorem x_q32 (N : Nat) : execF E [⟨79, ps_q31, rs_q31, q31 N⟩] N Tryz.f200 a_q32 ps_q32 rs_q32 = q32 N := by kernel_rfl
def a_q33 : Ann := (.sq .lf (.jn ⟨[], [], [.s 2], [.v (.int .i64) []]⟩ (.sq .lf (.lp ⟨[4], [], [.s 2, .o 4], [.v (.int .i64) [], .i]⟩ .lf)) .lf))
theorem x_q33 (N : Nat) : execF E [] N Tryz.f226 a_q33 ps_q33 rs_q33 = q33 N := by kernel_rfl
def a_q34 : Ann := .lf
theorem x_q34 (N : Nat) : execF E [⟨134, ps_q13, rs_q13, q13 N⟩, ⟨226, ps_q33, rs_q33, q33 N⟩] N Tryz.f246 a_q34 ps_q34 rs_q34 = q34 N := by kernel_rfl
def a_q35 : Ann := (.sq .lf (.sq .lf (.jn ⟨[], [], [.s 3], [.v (.int .i64) []]⟩ (.sq .lf (.lp ⟨[8, 9], [], [.s 3, .s 10], [.v (.int .i64) [], .v (.int .i64) []]⟩ .lf)) .lf)))
theorem x_q35 (N : Nat) : execF E [⟨246, ps_q34, rs_q34, q34 N⟩] N Tryz.f202 a_q35 ps_q35 rs_q35 = q35 N := by kernel_rfl
def a_q36 : Ann := .lf
theorem x_q36 (N : Nat) : execF E [⟨199, ps_q30, rs_q30, q30 N⟩, ⟨200, ps_q32, rs_q32, q32 N⟩, ⟨201, ps_strings_Contains, rs_strings_Contains, strings_Contains N⟩, ⟨202, ps_q35, rs_q35, q35 N⟩] N Tryz.f140 a_q36 ps_q36 rs_q36 = q36 N := by kernel_rfl
def a_q37 : Ann := (.sq .lf (.sq .lf (.jn ⟨[], [], [.s 3], [.v (.slice (.int .i64)) [0]]⟩ (.sq .lf (.lp ⟨[7, 8], [], [.s 3, .s 9], [.v (.slice (.int .i64)) [0], .v (.int .i64) []]⟩ .lf)) .lf)))
theorem x_q37 (N : Nat) : execF E [⟨202, ps_q35, rs_q35, q35 N⟩] N Tryz.f142 a_q37 ps_q37 rs_q37 = q37 N := by kernel_rfl
def a_q38 : Ann := .lf
theorem x_q38 (N : Nat) : execF E [⟨198, ps_q23, rs_q23, q23 N⟩, ⟨137, ps_q21, rs_q21, q21 N⟩] N Tryz.f203 a_q38 ps_q38 rs_q38 = q38 N := by kernel_rfl
def a_q39 : Ann := (.sq .lf (.sq .lf (.sq .lf (.jn ⟨[1, 2], [2], [.s 6], [.v (.int .i64) []]⟩ .lf (.sq .lf (.jn ⟨[], [], [.s 7], [.v (.slice Y7) [0]]⟩ (.sq .lf (.lp ⟨[2, 6, 32, 33], [2], [.s 7, .s 34], [.v (.slice Y7) [0], .v (.int .i64) []]⟩ .lf)) .lf))))))
theorem x_q39 (N : Nat) : execF E [⟨203, ps_q38, rs_q38, q38 N⟩] N Tryz.f141 a_q39 ps_q39 rs_q39 = q39 N := by kernel_rfl
def a_q40 : Ann := (.sq .lf (.sq .lf (.sq (.sq .lf (.sq .lf (.sq .lf (.sq .lf (.sq .lf (.sq .lf (.jn ⟨[2, 5], [12, 2], [.s 42], [.v (.bool) []]⟩ .lf .lf))))))) (.jn ⟨[2, 5], [12, 2], [], []⟩ (.sq .lf (.lp ⟨[2, 5, 64, 65], [12, 2], [.s 66], [.v (.int .i64) []]⟩ .lf)) .lf))))
theorem x_q40 (N : Nat) : execF E [⟨138, ps_q24, rs_q24, q24 N⟩, ⟨139, ps_q25, rs_q25, q25 N⟩, ⟨38, ps_q27, rs_q27, q27 N⟩, ⟨135, ps_q14, rs_q14, q14 N⟩, ⟨140, ps_q36, rs_q36, q36 N⟩, ⟨142, ps_q37, rs_q37, q37 N⟩, ⟨141, ps_q39, rs_q39, q39 N⟩] N Tryz.f76 a_q40 ps_q40 rs_q40 = q40 N := by kernel_rfl
def a_q41 : Ann := .lf
theorem x_q41 (N : Nat) : execF E [] N Tryz.f204 a_q41 ps_q41 rs_q41 = q41 N := by kernel_rfl
def a_q42 : Ann := .lf
theorem x_q42 (N : Nat) : execF E [⟨204, ps_q41, rs_q41, q41 N⟩] N Tryz.f144 a_q42 ps_q42 rs_q42 = q42 N := by kernel_rfl
def a_q43 : Ann := (.sq .lf (.sq .lf (.jn ⟨[3], [], [], []⟩ (.sq .lf (.lp ⟨[3, 6, 7], [], [.s 8], [.v (.int .i64) []]⟩ .lf)) .lf)))
theorem x_q43 (N : Nat) : execF E [] N Tryz.f143 a_q43 ps_q43 rs_q43 = q43 N := by kernel_rfl
def a_q44 : Ann := .lf
theorem x_q44 (N : Nat) : execF E [⟨144, ps_q42, rs_q42, q42 N⟩, ⟨143, ps_q43, rs_q43, q43 N⟩] N Tryz.f77 a_q44 ps_q44 rs_q44 = q44 N := by kernel_rfl
def a_q45 : Ann := (.sq .lf (.sq .lf (.jn ⟨[], [], [.s 3], [.v (.int .i64) []]⟩ (.sq .lf (.lp ⟨[12, 13], [12], [.s 3, .s 14], [.v (.int .i64) [], .v (.int .i64) []]⟩ .lf)) .lf)))
theorem x_q45 (N : Nat) : execF E [⟨142, ps_q37, rs_q37, q37 N⟩] N Tryz.f205 a_q45 ps_q45 rs_q45 = q45 N := by kernel_rfl
def a_q46 : Ann := .lf
theorem x_q46 (N : Nat) : execF E [⟨205, ps_q45, rs_q45, q45 N⟩] N Tryz.f145 a_q46 ps_q46 rs_q46 = q46 N := by kernel_rfl
def a_q47 : Ann := (.sq .lf (.sq .lf (.jn ⟨[], [], [.o 1], [.m (.int .i64) (.int .i64)]⟩ (.sq .lf (.lp ⟨[1, 2, 15, 16], [3], [.s 17, .o 1], [.v (.int .i64) [], .m (.int .i64) (.int .i64)]⟩ (.sq .lf (.sq .lf (.sq (.sq .lf (.sq .lf (.jn ⟨[1, 2, 6, 15, 16, 17], [1, 19, 3], [], []⟩ .lf .lf))) .lf))))) .lf)))
theorem x_q47 (N : Nat) : execF E [⟨145, ps_q46, rs_q46, q46 N⟩, ⟨135, ps_q14, rs_q14, q14 N⟩, ⟨134, ps_q13, rs_q13, q13 N⟩] N Tryz.f78 a_q47 ps_q47 rs_q47 = q47 N := by kernel_rfl
def a_q48 : Ann := (.sq .lf (.sq .lf (.sq .lf (.sq .lf (.sq .lf (.jn ⟨[1, 5], [2], [.o 20], [.m (.int .i64) (.int .i64)]⟩ (.sq .lf (.lp ⟨[1, 5, 28, 29], [2], [.s 30, .o 20], [.v (.int .i64) [], .m (.int .i64) (.int .i64)]⟩ .lf)) .lf))))))
theorem x_q48 (N : Nat) : execF E [⟨74, ps_q19, rs_q19, q19 N⟩, ⟨75, ps_q22, rs_q22, q22 N⟩, ⟨76, ps_q40, rs_q40, q40 N⟩, ⟨77, ps_q44, rs_q44, q44 N⟩, ⟨78, ps_q47, rs_q47, q47 N⟩] N Tryz.f30 a_q48 ps_q48 rs_q48 = q48 N := by kernel_rfl
def a_q49 : Ann := .lf
theorem x_q49 (N : Nat) : execF E [⟨83, ps_q15, rs_q15, q15 N⟩] N Tryz.f34 a_q49 ps_q49 rs_q49 = q49 N := by kernel_rfl
def a_q50 : Ann := .lf
theorem x_q50 (N : Nat) : execF E [] N Tryz.f35 a_q50 ps_q50 rs_q50 = q50 N := by kernel_rfl
def a_q51 : Ann := .lf
theorem x_q51 (N : Nat) : execF E [⟨148, ps_istrconv_FormatInt, rs_istrconv_FormatInt, istrconv_FormatInt N⟩] N Tryz.f84 a_q51 ps_q51 rs_q51 = q51 N := by kernel_rfl
def a_q52 : Ann := .lf
theorem x_q52 (N : Nat) : execF E [⟨84, ps_q51, rs_q51, q51 N⟩] N Tryz.f37 a_q52 ps_q52 rs_q52 = q52 N := by kernel_rfl
def a_q53 : Ann := .lf
theorem x_q53 (N : Nat) : execF E [⟨37, ps_q52, rs_q52, q52 N⟩] N Tryz.f36 a_q53 ps_q53 rs_q53 = q53 N := by kernel_rfl
def a_q54 : Ann := (.sq .lf (.jn ⟨[0, 8], [2, 1], [.o 7], [.b 47 Y3 [2]]⟩ (.sq .lf (.lp ⟨[0, 8, 14, 15], [2, 1], [.s 16, .o 7], [.v (.int .i64) [], .b 47 Y3 [2]]⟩ .lf)) .lf))
theorem x_q54 (N : Nat) : execF E [] N Tryz.f33 a_q54 ps_q54 rs_q54 = q54 N := by kernel_rfl
def a_q55 : Ann := (.sq .lf (.sq .lf (.sq .lf (.sq .lf (.jn ⟨[1, 5], [2], [.o 11], [.b 77 (.slice Y3) [0]]⟩ (.sq .lf (.lp ⟨[1, 5, 40, 41], [2], [.s 42, .o 11], [.v (.int .i64) [], .b 77 (.slice Y3) [0]]⟩ (.sq .lf (.sq .lf (.sq (.sq .lf (.sq .lf (.jn ⟨[1, 5, 7, 40, 41, 42], [42, 11, 37, 2], [.s 8], [.v (.str) []]⟩ .lf .lf))) .lf))))) (.jn ⟨[5], [], [.o 11], [.b 77 (.slice Y3) [0]]⟩ (.sq .lf (.lp ⟨[5, 75, 76], [], [.s 77, .o 11], [.v (.int .i64) [], .b 77 (.slice Y3) [0]]⟩ (.sq .lf (.sq .lf (.jn ⟨[5, 75, 76, 77], [], [.o 11], [.b 77 (.slice Y3) [0]]⟩ (.sq .lf (.sq .lf (.sq .lf (.lp ⟨[5, 75, 76, 77, 109, 110], [], [.s 111, .o 11], [.v (.int .i64) [], .b 77 (.slice Y3) [0]]⟩ (.sq .lf (.sq .lf (.jn ⟨[5, 75, 76, 77, 109, 110, 111], [], [.o 11], [.b 77 (.slice Y3) [0]]⟩ (.sq .lf (.sq .lf (.sq .lf (.lp ⟨[5, 75, 76, 77, 109, 110, 111, 117, 118], [], [.s 119, .o 11], [.v (.int .i64) [], .b 77 (.slice Y3) [0]]⟩ (.sq .lf (.sq .lf (.sq (.sq .lf (.sq .lf (.jn ⟨[5, 14, 75, 76, 77, 109, 110, 111, 117, 118, 119], [99, 11, 94], [.s 15], [.v (.str) []]⟩ .lf .lf))) .lf))))))) .lf))))))) .lf))))) .lf))))))
theorem x_q55 (N : Nat) : execF E [⟨30, ps_q48, rs_q48, q48 N⟩, ⟨34, ps_q49, rs_q49, q49 N⟩, ⟨35, ps_q50, rs_q50, q50 N⟩, ⟨36, ps_q53, rs_q53, q53 N⟩, ⟨33, ps_q54, rs_q54, q54 N⟩, ⟨37, ps_q52, rs_q52, q52 N⟩, ⟨38, ps_q27, rs_q27, q27 N⟩] N Tryz.f12 a_q55 ps_q55 rs_q55 = q55 N := by kernel_rfl
end
end Go.Mo
end

section
/-
  The functions do what their models say. Printed by a program.
-/
namespace Go.Mo
open Go Go.W Go.Proofs
noncomputable section
set_option maxRecDepth 100000
def a_q56 : Ann := (.sq .lf (.sq .lf (.sq .lf (.sq .lf (.jn ⟨[5], [], [.s 6], [.v (.int .i64) []]⟩ .lf .lf)))))
theorem x_q56 (N : Nat) : execF E [] N Tryz.f101 a_q56 ps_q56 rs_q56 = q56 N := by kernel_rfl
def a_q57 : Ann := .lf
theorem x_q57 (N : Nat) : execF E [] N Tryz.f220 a_q57 ps_q57 rs_q57 = q57 N := by kernel_rfl
def a_q58 : Ann := .lf
theorem x_q58 (N : Nat) : execF E [⟨220, ps_q57, rs_q57, q57 N⟩] N Tryz.f221 a_q58 ps_q58 rs_q58 = q58 N := by kernel_rfl
def a_xml_Name : Ann := (.sq .lf (.sq .lf (.jn ⟨[], [], [], []⟩ (.sq .lf (.lp ⟨[0, 19], [], [.s 20], [.v (.int .i64) []]⟩ .lf)) .lf)))
theorem x_xml_Name (N : Nat) : execF E [⟨220, ps_q57, rs_q57, q57 N⟩, ⟨221, ps_q58, rs_q58, q58 N⟩] N Tryz.f166 a_xml_Name ps_xml_Name rs_xml_Name = xml_Name N := by kernel_rfl
def a_q59 : Ann := (.sq .lf (.sq .lf (.sq .lf (.jn ⟨[], [], [], []⟩ (.sq .lf (.lp ⟨[3, 22, 23], [], [.s 24, .o 19], [.v (.int .i64) [], .m (.str) (.bool)]⟩ .lf)) .lf))))
theorem x_q59 (N : Nat) : execF E [⟨166, ps_xml_Name, rs_xml_Name, xml_Name N⟩, ⟨134, ps_q13, rs_q13, q13 N⟩] N Tryz.f102 a_q59 ps_q59 rs_q59 = q59 N := by kernel_rfl
def a_q60 : Ann := (.sq .lf (.sq .lf (.sq (.jn ⟨[5], [7], [.s 10], [.v (.bool) []]⟩ .lf .lf) .lf)))
theorem x_q60 (N : Nat) : execF E [⟨134, ps_q13, rs_q13, q13 N⟩] N Tryz.f103 a_q60 ps_q60 rs_q60 = q60 N := by kernel_rfl
def a_q61 : Ann := (.sq .lf (.sq .lf (.sq .lf (.jn ⟨[], [], [], []⟩ (.sq .lf (.lp ⟨[0, 13, 14], [], [.s 15], [.v (.int .i64) []]⟩ .lf)) .lf))))
theorem x_q61 (N : Nat) : execF E [⟨101, ps_q56, rs_q56, q56 N⟩, ⟨102, ps_q59, rs_q59, q59 N⟩, ⟨103, ps_q60, rs_q60, q60 N⟩] N Tryz.f60 a_q61 ps_q61 rs_q61 = q61 N := by kernel_rfl
def a_q62 : Ann := .lf
theorem x_q62 (N : Nat) : execF E [⟨207, ps_strings_Replace, rs_strings_Replace, strings_Replace N⟩] N Tryz.f147 a_q62 ps_q62 rs_q62 = q62 N := by kernel_rfl
def a_q63 : Ann := (.sq .lf (.jn ⟨[], [], [.s 0], [.v (.str) []]⟩ (.sq .lf (.lp ⟨[5], [], [.s 0, .s 6], [.v (.str) [], .v (.int .i64) []]⟩ .lf)) .lf))
theorem x_q63 (N : Nat) : execF E [⟨147, ps_q62, rs_q62, q62 N⟩] N Tryz.f80 a_q63 ps_q63 rs_q63 = q63 N := by kernel_rfl
def a_q64 : Ann := .lf
theorem x_q64 (N : Nat) : execF E [] N Tryz.f81 a_q64 ps_q64 rs_q64 = q64 N := by kernel_rfl
def a_q65 : Ann := (.sq .lf (.sq .lf (.sq .lf (.sq .lf (.jn ⟨[5], [], [.s 6, .o 9], [.v (.slice (.str)) [0], .b 131 Y9 [1]]⟩ (.sq .lf (.lp ⟨[0, 5, 17, 18], [], [.s 6, .s 19, .o 9], [.v (.slice (.str)) [0], .v (.int .i64) [], .b 131 Y9 [1]]⟩ (.sq .lf (.sq .lf (.jn ⟨[0, 5, 17, 18, 19], [], [.s 6, .o 9], [.v (.slice (.str)) [0], .b 131 Y9 [1]]⟩ (.sq .lf (.jn ⟨[0, 5, 7, 8, 17, 18, 19], [22], [.s 6, .o 9], [.v (.slice (.str)) [0], .b 131 Y9 [1]]⟩ (.lp ⟨[0, 5, 7, 8, 17, 18, 19], [22], [.s 6, .o 9], [.v (.slice (.str)) [0], .b 131 Y9 [1]]⟩ .lf) (.sq .lf (.sq .lf (.jn ⟨[0, 5, 6, 7, 8, 17, 18, 19], [22, 26], [.o 9], [.b 131 Y9 [1]]⟩ (.sq .lf (.lp ⟨[0, 5, 6, 7, 8, 17, 18, 19, 55, 56], [22, 26], [.s 57, .o 9], [.v (.int .i64) [], .b 131 Y9 [1]]⟩ .lf)) .lf))))) .lf))))) (.jn ⟨[5], [], [.o 9], [.b 131 Y9 [1]]⟩ (.sq .lf (.lp ⟨[5, 6], [12], [.s 11, .o 9], [.v (.int .i64) [], .b 131 Y9 [1]]⟩ .lf)) .lf))))))
theorem x_q65 (N : Nat) : execF E [⟨60, ps_q61, rs_q61, q61 N⟩, ⟨79, ps_q31, rs_q31, q31 N⟩, ⟨80, ps_q63, rs_q63, q63 N⟩, ⟨81, ps_q64, rs_q64, q64 N⟩] N Tryz.f31 a_q65 ps_q65 rs_q65 = q65 N := by kernel_rfl
def a_q66 : Ann := .lf
theorem x_q66 (N : Nat) : execF E [⟨12, ps_q55, rs_q55, q55 N⟩, ⟨31, ps_q65, rs_q65, q65 N⟩] N Tryz.f14 a_q66 ps_q66 rs_q66 = q66 N := by kernel_rfl
def a_l21_awake : Ann := .lf
theorem x_l21_awake (N : Nat) : execF E [⟨14, ps_q66, rs_q66, q66 N⟩] N Tryz.f10 a_l21_awake ps_l21_awake rs_l21_awake = l21_awake N := by kernel_rfl
def a_l21_few : Ann := .lf
theorem x_l21_few (N : Nat) : execF E [] N Tryz.f11 a_l21_few ps_l21_few rs_l21_few = l21_few N := by kernel_rfl
def a_q67 : Ann := .lf
theorem x_q67 (N : Nat) : execF E [] N Tryz.f225 a_q67 ps_q67 rs_q67 = q67 N := by kernel_rfl
def a_q68 : Ann := (.sq .lf (.jn ⟨[0], [], [], []⟩ .lf (.sq .lf (.jn ⟨[], [], [], []⟩ (.sq .lf (.lp ⟨[0, 16], [], [.s 3, .o 6], [.v (.int .i64) [], .i]⟩ .lf)) .lf))))
theorem x_q68 (N : Nat) : execF E [⟨225, ps_q67, rs_q67, q67 N⟩] N Tryz.f171 a_q68 ps_q68 rs_q68 = q68 N := by kernel_rfl
def a_q69 : Ann := (.sq .lf (.jn ⟨[], [], [], []⟩ (.sq .lf (.lp ⟨[6], [], [.o 4], [.i]⟩ .lf)) .lf))
theorem x_q69 (N : Nat) : execF E [⟨171, ps_q68, rs_q68, q68 N⟩] N Tryz.f117 a_q69 ps_q69 rs_q69 = q69 N := by kernel_rfl
def a_q70 : Ann := .lf
theorem x_q70 (N : Nat) : execF E [] N Tryz.f212 a_q70 ps_q70 rs_q70 = q70 N := by kernel_rfl
def a_r07_Name : Ann := (.sq .lf (.sq .lf (.jn ⟨[], [], [], []⟩ (.sq .lf (.lp ⟨[0], [], [.s 3], [.v (.int .i64) []]⟩ (.sq .lf (.sq (.jn ⟨[0, 3], [], [.s 4], [.v (.bool) []]⟩ .lf .lf) .lf)))) .lf)))
theorem x_r07_Name (N : Nat) : execF E [⟨212, ps_q70, rs_q70, q70 N⟩] N Tryz.f149 a_r07_Name ps_r07_Name rs_r07_Name = r07_Name N := by kernel_rfl
def a_q71 : Ann := .lf
theorem x_q71 (N : Nat) : execF E [] N Tryz.f92 a_q71 ps_q71 rs_q71 = q71 N := by kernel_rfl
def a_q72 : Ann := .lf
theorem x_q72 (N : Nat) : execF E [] N Tryz.f150 a_q72 ps_q72 rs_q72 = q72 N := by kernel_rfl
def a_q73 : Ann := (.sq .lf (.sq (.sq .lf (.sq .lf (.sq .lf (.sq .lf (.jn ⟨[1], [2], [.s 13], [.v (.bool) []]⟩ .lf (.sq .lf (.jn ⟨[1], [2], [.s 23], [.v (.bool) []]⟩ .lf .lf))))))) .lf))
theorem x_q73 (N : Nat) : execF E [⟨117, ps_q69, rs_q69, q69 N⟩, ⟨149, ps_r07_Name, rs_r07_Name, r07_Name N⟩, ⟨92, ps_q71, rs_q71, q71 N⟩, ⟨150, ps_q72, rs_q72, q72 N⟩] N Tryz.f86 a_q73 ps_q73 rs_q73 = q73 N := by kernel_rfl
def a_q74 : Ann := .lf
theorem x_q74 (N : Nat) : execF E [⟨149, ps_r07_Name, rs_r07_Name, r07_Name N⟩] N Tryz.f151 a_q74 ps_q74 rs_q74 = q74 N := by kernel_rfl
def a_q75 : Ann := (.sq .lf (.sq .lf (.jn ⟨[], [], [], []⟩ (.sq .lf (.lp ⟨[0, 9, 10], [], [.s 11], [.v (.int .i64) []]⟩ (.sq .lf (.sq .lf (.sq (.sq .lf (.sq .lf (.jn ⟨[0, 3, 4, 9, 10, 11], [14], [], []⟩ .lf .lf))) .lf))))) .lf)))
theorem x_q75 (N : Nat) : execF E [⟨151, ps_q74, rs_q74, q74 N⟩] N Tryz.f87 a_q75 ps_q75 rs_q75 = q75 N := by kernel_rfl
def a_q76 : Ann := .lf
theorem x_q76 (N : Nat) : execF E [] N Tryz.f152 a_q76 ps_q76 rs_q76 = q76 N := by kernel_rfl
def a_q77 : Ann := .lf
theorem x_q77 (N : Nat) : execF E [] N Tryz.f213 a_q77 ps_q77 rs_q77 = q77 N := by kernel_rfl
def a_r10_Find : Ann := (.sq .lf (.sq .lf (.jn ⟨[4], [2], [], []⟩ (.sq .lf (.lp ⟨[1, 4, 11, 12], [2], [.s 13], [.v (.int .i64) []]⟩ .lf)) .lf)))
theorem x_r10_Find (N : Nat) : execF E [⟨213, ps_q77, rs_q77, q77 N⟩] N Tryz.f153 a_r10_Find ps_r10_Find rs_r10_Find = r10_Find N := by kernel_rfl
def a_q78 : Ann := .lf
theorem x_q78 (N : Nat) : execF E [] N Tryz.f214 a_q78 ps_q78 rs_q78 = q78 N := by kernel_rfl
def a_q79 : Ann := (.sq .lf (.sq .lf (.jn ⟨[], [], [], []⟩ (.sq .lf (.lp ⟨[1, 10, 11], [2], [.s 12], [.v (.int .i64) []]⟩ .lf)) .lf)))
theorem x_q79 (N : Nat) : execF E [⟨117, ps_q69, rs_q69, q69 N⟩, ⟨214, ps_q78, rs_q78, q78 N⟩] N Tryz.f154 a_q79 ps_q79 rs_q79 = q79 N := by kernel_rfl
def a_q80 : Ann := (.sq .lf (.sq .lf (.jn ⟨[], [], [.s 3], [.v (.str) []]⟩ (.sq .lf (.lp ⟨[7, 8], [], [.s 3, .s 9], [.v (.str) [], .v (.int .i64) []]⟩ .lf)) .lf)))
theorem x_q80 (N : Nat) : execF E [] N Tryz.f156 a_q80 ps_q80 rs_q80 = q80 N := by kernel_rfl
def a_r11_neat : Ann := (.sq .lf (.sq .lf (.jn ⟨[], [], [], []⟩ (.sq .lf (.lp ⟨[0], [], [.s 3], [.v (.int .i64) []]⟩ .lf)) .lf)))
theorem x_r11_neat (N : Nat) : execF E [] N Tryz.f155 a_r11_neat ps_r11_neat rs_r11_neat = r11_neat N := by kernel_rfl
def a_q81 : Ann := (.sq .lf (.sq .lf (.jn ⟨[], [], [.s 3], [.v (.slice (.int .i32)) [0]]⟩ (.sq .lf (.lp ⟨[7], [], [.s 3, .o 5], [.v (.slice (.int .i32)) [0], .i]⟩ .lf)) .lf)))
theorem x_q81 (N : Nat) : execF E [] N Tryz.f254 a_q81 ps_q81 rs_q81 = q81 N := by kernel_rfl
def a_r08_Len : Ann := .lf
theorem x_r08_Len (N : Nat) : execF E [⟨117, ps_q69, rs_q69, q69 N⟩, ⟨254, ps_q81, rs_q81, q81 N⟩] N Tryz.f215 a_r08_Len ps_r08_Len rs_r08_Len = r08_Len N := by kernel_rfl
def a_r09_Len : Ann := (.sq .lf (.sq .lf (.jn ⟨[], [], [.s 3], [.v (.int .i64) []]⟩ (.sq .lf (.lp ⟨[8, 9], [], [.s 3, .s 10], [.v (.int .i64) [], .v (.int .i64) []]⟩ .lf)) .lf)))
theorem x_r09_Len (N : Nat) : execF E [⟨215, ps_r08_Len, rs_r08_Len, r08_Len N⟩] N Tryz.f157 a_r09_Len ps_r09_Len rs_r09_Len = r09_Len N := by kernel_rfl
def a_q82 : Ann := .lf
theorem x_q82 (N : Nat) : execF E [⟨151, ps_q74, rs_q74, q74 N⟩, ⟨213, ps_q77, rs_q77, q77 N⟩] N Tryz.f216 a_q82 ps_q82 rs_q82 = q82 N := by kernel_rfl
def a_q83 : Ann := (.sq .lf (.sq .lf (.sq .lf (.sq .lf (.jn ⟨[], [], [.s 6], [.v (.slice Y7) [0]]⟩ (.sq .lf (.lp ⟨[1, 2, 18, 19], [2], [.s 6, .s 20], [.v (.slice Y7) [0], .v (.int .i64) []]⟩ (.sq .lf (.sq .lf (.sq (.sq .lf (.sq .lf (.sq .lf (.sq .lf (.jn ⟨[1, 2, 6, 8, 9, 18, 19, 20], [18, 2], [.o 40], [.b 238 Y7 []]⟩ .lf .lf))))) .lf))))) .lf)))))
theorem x_q83 (N : Nat) : execF E [⟨216, ps_q82, rs_q82, q82 N⟩] N Tryz.f158 a_q83 ps_q83 rs_q83 = q83 N := by kernel_rfl
end
end Go.Mo
end

section
/-
  The functions do what their models say. Printed by a program.
-/
namespace Go.Mo
open Go Go.W Go.Proofs
noncomputable section
set_option maxRecDepth 100000
def a_q84 : Ann := (.sq .lf (.sq .lf (.sq .lf (.sq (.sq .lf (.sq .lf (.sq .lf (.sq .lf (.jn ⟨[2, 5], [33, 2], [.s 46], [.v (.bool) []]⟩ .lf .lf))))) (.sq .lf (.jn ⟨[5], [33], [.s 7], [.v (.slice (.int .i64)) [0]]⟩ (.sq .lf (.lp ⟨[5, 68, 69], [33], [.s 7, .s 70], [.v (.slice (.int .i64)) [0], .v (.int .i64) []]⟩ .lf)) .lf))))))
theorem x_q84 (N : Nat) : execF E [⟨152, ps_q76, rs_q76, q76 N⟩, ⟨153, ps_r10_Find, rs_r10_Find, r10_Find N⟩, ⟨149, ps_r07_Name, rs_r07_Name, r07_Name N⟩, ⟨154, ps_q79, rs_q79, q79 N⟩, ⟨156, ps_q80, rs_q80, q80 N⟩, ⟨155, ps_r11_neat, rs_r11_neat, r11_neat N⟩, ⟨157, ps_r09_Len, rs_r09_Len, r09_Len N⟩, ⟨158, ps_q83, rs_q83, q83 N⟩] N Tryz.f88 a_q84 ps_q84 rs_q84 = q84 N := by kernel_rfl
def a_r11_Less : Ann := .lf
theorem x_r11_Less (N : Nat) : execF E [] N Tryz.f89 a_r11_Less ps_r11_Less rs_r11_Less = r11_Less N := by kernel_rfl
def a_r12_Find : Ann := (.sq .lf (.jn ⟨[], [], [], []⟩ (.sq .lf (.lp ⟨[1, 8, 9], [], [.s 10], [.v (.int .i64) []]⟩ .lf)) .lf))
theorem x_r12_Find (N : Nat) : execF E [] N Tryz.f90 a_r12_Find ps_r12_Find rs_r12_Find = r12_Find N := by kernel_rfl
def a_r11_Len : Ann := (.sq .lf (.sq .lf (.jn ⟨[], [], [.s 3], [.v (.int .i64) []]⟩ (.sq .lf (.lp ⟨[8, 9], [], [.s 3, .s 10], [.v (.int .i64) [], .v (.int .i64) []]⟩ .lf)) .lf)))
theorem x_r11_Len (N : Nat) : execF E [⟨157, ps_r09_Len, rs_r09_Len, r09_Len N⟩] N Tryz.f159 a_r11_Len ps_r11_Len rs_r11_Len = r11_Len N := by kernel_rfl
def a_q85 : Ann := (.sq .lf (.sq .lf (.sq .lf (.jn ⟨[2, 5], [10, 2], [], []⟩ .lf (.sq .lf (.sq .lf (.jn ⟨[5], [10], [], []⟩ .lf .lf)))))))
theorem x_q85 (N : Nat) : execF E [⟨90, ps_r12_Find, rs_r12_Find, r12_Find N⟩, ⟨159, ps_r11_Len, rs_r11_Len, r11_Len N⟩, ⟨149, ps_r07_Name, rs_r07_Name, r07_Name N⟩, ⟨117, ps_q69, rs_q69, q69 N⟩] N Tryz.f91 a_q85 ps_q85 rs_q85 = q85 N := by kernel_rfl
def a_q86 : Ann := (.sq .lf (.sq .lf (.sq .lf (.sq .lf (.jn ⟨[1], [2], [], []⟩ (.sq .lf (.lp ⟨[1, 26, 27], [2], [.s 28], [.v (.int .i64) []]⟩ .lf)) (.sq .lf (.jn ⟨[], [], [], []⟩ (.sq .lf (.lp ⟨[1, 71], [2], [.s 72], [.v (.int .i64) []]⟩ .lf)) .lf)))))))
theorem x_q86 (N : Nat) : execF E [⟨86, ps_q73, rs_q73, q73 N⟩, ⟨87, ps_q75, rs_q75, q75 N⟩, ⟨88, ps_q84, rs_q84, q84 N⟩, ⟨89, ps_r11_Less, rs_r11_Less, r11_Less N⟩, ⟨90, ps_r12_Find, rs_r12_Find, r12_Find N⟩, ⟨91, ps_q85, rs_q85, q85 N⟩] N Tryz.f39 a_q86 ps_q86 rs_q86 = q86 N := by kernel_rfl
def a_r21_some : Ann := .lf
theorem x_r21_some (N : Nat) : execF E [] N Tryz.f41 a_r21_some ps_r21_some rs_r21_some = r21_some N := by kernel_rfl
def a_r02_Name : Ann := .lf
theorem x_r02_Name (N : Nat) : execF E [⟨92, ps_q71, rs_q71, q71 N⟩] N Tryz.f42 a_r02_Name ps_r02_Name rs_r02_Name = r02_Name N := by kernel_rfl
def a_r21_one : Ann := .lf
theorem x_r21_one (N : Nat) : execF E [] N Tryz.f43 a_r21_one ps_r21_one rs_r21_one = r21_one N := by kernel_rfl
def a_q87 : Ann := (.sq .lf (.sq .lf (.jn ⟨[], [], [.s 3, .s 4], [.v (.int .u64) [], .v (.str) []]⟩ .lf (.sq .lf (.sq .lf (.jn ⟨[4, 5], [], [.s 3, .s 6], [.v (.int .u64) [], .v (.str) []]⟩ (.lp ⟨[4, 5], [], [.s 3, .s 6], [.v (.int .u64) [], .v (.str) []]⟩ .lf) .lf))))))
theorem x_q87 (N : Nat) : execF E [] N Tryz.f46 a_q87 ps_q87 rs_q87 = q87 N := by kernel_rfl
def a_q88 : Ann := .lf
theorem x_q88 (N : Nat) : execF E [⟨46, ps_q87, rs_q87, q87 N⟩, ⟨41, ps_r21_some, rs_r21_some, r21_some N⟩] N Tryz.f44 a_q88 ps_q88 rs_q88 = q88 N := by kernel_rfl
def a_q89 : Ann := (.sq .lf (.sq .lf (.jn ⟨[], [], [.s 3], [.v Y8 [0]]⟩ (.sq .lf (.lp ⟨[7, 8], [], [.s 3, .s 9], [.v Y8 [0], .v (.int .i64) []]⟩ .lf)) .lf)))
theorem x_q89 (N : Nat) : execF E [] N Tryz.f40 a_q89 ps_q89 rs_q89 = q89 N := by kernel_rfl
def a_q90 : Ann := .lf
theorem x_q90 (N : Nat) : execF E [] N Tryz.f45 a_q90 ps_q90 rs_q90 = q90 N := by kernel_rfl
def a_q91 : Ann := .lf
theorem x_q91 (N : Nat) : execF E [] N Tryz.f93 a_q91 ps_q91 rs_q91 = q91 N := by kernel_rfl
def a_q92 : Ann := .lf
theorem x_q92 (N : Nat) : execF E [⟨93, ps_q91, rs_q91, q91 N⟩] N Tryz.f47 a_q92 ps_q92 rs_q92 = q92 N := by kernel_rfl
def a_q93 : Ann := .lf
theorem x_q93 (N : Nat) : execF E [] N Tryz.f48 a_q93 ps_q93 rs_q93 = q93 N := by kernel_rfl
def a_q94 : Ann := (.sq .lf (.sq .lf (.sq .lf (.jn ⟨[1], [2], [.s 5], [.v (.slice Y3) [0]]⟩ (.sq .lf (.lp ⟨[1, 43, 44], [2], [.s 5, .s 45], [.v (.slice Y3) [0], .v (.int .i64) []]⟩ (.sq .lf (.sq .lf (.sq (.sq .lf (.sq .lf (.jn ⟨[1, 5, 7, 43, 44, 45], [50, 45, 2], [.s 8], [.v (.str) []]⟩ .lf .lf))) .lf))))) (.jn ⟨[], [], [.s 5], [.v (.slice Y3) [0]]⟩ (.sq .lf (.lp ⟨[82, 83], [], [.s 5, .s 84], [.v (.slice Y3) [0], .v (.int .i64) []]⟩ (.sq .lf (.sq .lf (.jn ⟨[82, 83, 84], [], [.s 5], [.v (.slice Y3) [0]]⟩ (.sq .lf (.sq .lf (.sq .lf (.lp ⟨[82, 83, 84, 120, 121], [], [.s 5, .s 122], [.v (.slice Y3) [0], .v (.int .i64) []]⟩ (.sq .lf (.sq .lf (.jn ⟨[82, 83, 84, 120, 121, 122], [], [.s 5], [.v (.slice Y3) [0]]⟩ (.sq .lf (.sq .lf (.sq .lf (.lp ⟨[82, 83, 84, 120, 121, 122, 131, 132], [], [.s 5, .s 133], [.v (.slice Y3) [0], .v (.int .i64) []]⟩ (.sq .lf (.sq .lf (.sq (.sq .lf (.sq .lf (.jn ⟨[5, 14, 82, 83, 84, 120, 121, 122, 131, 132, 133], [123, 118], [.s 15], [.v (.str) []]⟩ .lf .lf))) .lf))))))) .lf))))))) .lf))))) .lf)))))
theorem x_q94 (N : Nat) : execF E [⟨39, ps_q86, rs_q86, q86 N⟩, ⟨41, ps_r21_some, rs_r21_some, r21_some N⟩, ⟨42, ps_r02_Name, rs_r02_Name, r02_Name N⟩, ⟨43, ps_r21_one, rs_r21_one, r21_one N⟩, ⟨44, ps_q88, rs_q88, q88 N⟩, ⟨40, ps_q89, rs_q89, q89 N⟩, ⟨45, ps_q90, rs_q90, q90 N⟩, ⟨46, ps_q87, rs_q87, q87 N⟩, ⟨47, ps_q92, rs_q92, q92 N⟩, ⟨48, ps_q93, rs_q93, q93 N⟩] N Tryz.f13 a_q94 ps_q94 rs_q94 = q94 N := by kernel_rfl
def a_q95 : Ann := .lf
theorem x_q95 (N : Nat) : execF E [] N Tryz.f258 a_q95 ps_q95 rs_q95 = q95 N := by kernel_rfl
def a_q96 : Ann := .lf
theorem x_q96 (N : Nat) : execF E [] N Tryz.f259 a_q96 ps_q96 rs_q96 = q96 N := by kernel_rfl
def a_q97 : Ann := (.sq .lf (.sq .lf (.sq .lf (.jn ⟨[0], [], [.s 3], [.v (.int .i64) []]⟩ (.lp ⟨[0], [], [.s 3], [.v (.int .i64) []]⟩ .lf) .lf))))
theorem x_q97 (N : Nat) : execF E [⟨258, ps_q95, rs_q95, q95 N⟩, ⟨259, ps_q96, rs_q96, q96 N⟩] N Tryz.f224 a_q97 ps_q97 rs_q97 = q97 N := by kernel_rfl
def a_r20_Name : Ann := .lf
theorem x_r20_Name (N : Nat) : execF E [⟨224, ps_q97, rs_q97, q97 N⟩] N Tryz.f170 a_r20_Name ps_r20_Name rs_r20_Name = r20_Name N := by kernel_rfl
def a_q98 : Ann := (.sq .lf (.sq .lf (.jn ⟨[], [], [], []⟩ (.sq .lf (.lp ⟨[1, 22, 23], [2], [.s 24], [.v (.int .i64) []]⟩ (.sq .lf (.sq .lf (.jn ⟨[1, 22, 23, 24], [2], [], []⟩ (.sq .lf (.sq .lf (.jn ⟨[1, 4, 22, 23, 24], [28, 2], [], []⟩ (.sq .lf (.lp ⟨[1, 4, 22, 23, 24, 36, 37], [28, 2], [.s 38], [.v (.int .i64) []]⟩ .lf)) .lf))) .lf))))) .lf)))
theorem x_q98 (N : Nat) : execF E [⟨170, ps_r20_Name, rs_r20_Name, r20_Name N⟩, ⟨117, ps_q69, rs_q69, q69 N⟩] N Tryz.f116 a_q98 ps_q98 rs_q98 = q98 N := by kernel_rfl
def a_q99 : Ann := (.sq .lf (.sq .lf (.sq .lf (.jn ⟨[], [], [], []⟩ (.sq .lf (.lp ⟨[0, 13, 14], [], [.s 15], [.v (.int .i64) []]⟩ (.sq .lf (.sq .lf (.sq (.sq .lf (.jn ⟨[0, 3, 4, 13, 14, 15], [17], [], []⟩ .lf (.jn ⟨[0, 3, 4, 13, 14, 15], [17], [], []⟩ .lf (.sq .lf (.sq .lf (.jn ⟨[0, 4, 13, 14, 15], [17], [.s 68], [.v (.bool) []]⟩ .lf .lf)))))) .lf))))) .lf))))
theorem x_q99 (N : Nat) : execF E [⟨116, ps_q98, rs_q98, q98 N⟩, ⟨117, ps_q69, rs_q69, q69 N⟩] N Tryz.f64 a_q99 ps_q99 rs_q99 = q99 N := by kernel_rfl
def a_q100 : Ann := (.sq .lf (.sq .lf (.jn ⟨[], [], [.s 3], [.v (.str) []]⟩ (.sq .lf (.lp ⟨[0], [], [.s 3, .s 4], [.v (.str) [], .v (.int .i64) []]⟩ (.sq .lf (.jn ⟨[0, 4], [], [.s 3], [.v (.str) []]⟩ .lf .lf)))) .lf)))
theorem x_q100 (N : Nat) : execF E [] N Tryz.f160 a_q100 ps_q100 rs_q100 = q100 N := by kernel_rfl
def a_q101 : Ann := (.sq .lf (.sq .lf (.sq .lf (.jn ⟨[], [], [.s 5], [.v (.slice (.int .i64)) [0]]⟩ (.sq .lf (.lp ⟨[0, 1], [], [.s 5, .s 6], [.v (.slice (.int .i64)) [0], .v (.int .i64) []]⟩ .lf)) .lf))))
theorem x_q101 (N : Nat) : execF E [] N Tryz.f161 a_q101 ps_q101 rs_q101 = q101 N := by kernel_rfl
def a_r20_text : Ann := (.sq .lf (.sq .lf (.sq .lf (.sq .lf (.jn ⟨[0, 1, 5], [7], [.s 6], [.v (.str) []]⟩ (.sq .lf (.lp ⟨[0, 1, 5, 26, 27], [7], [.s 6, .s 28], [.v (.str) [], .v (.int .i64) []]⟩ .lf)) (.sq .lf (.sq .lf (.sq .lf (.jn ⟨[5], [7], [.s 6], [.v (.str) []]⟩ (.sq .lf (.lp ⟨[0, 5, 54, 55], [20, 7], [.s 6, .s 56], [.v (.str) [], .v (.int .i64) []]⟩ .lf)) .lf)))))))))
theorem x_r20_text (N D : Nat) : execF E [⟨160, ps_q100, rs_q100, q100 N⟩, ⟨161, ps_q101, rs_q101, q101 N⟩, ⟨94, ps_r20_text, rs_r20_text, r20_text_r N D⟩] N Tryz.f94 a_r20_text ps_r20_text rs_r20_text = r20_text_r N (D + 1) := by kernel_rfl
def a_q102 : Ann := .lf
theorem x_q102 (N : Nat) : execF E [⟨64, ps_q99, rs_q99, q99 N⟩, ⟨94, ps_r20_text, rs_r20_text, r20_text N⟩] N Tryz.f49 a_q102 ps_q102 rs_q102 = q102 N := by kernel_rfl
def a_q103 : Ann := .lf
theorem x_q103 (N : Nat) : execF E [⟨13, ps_q94, rs_q94, q94 N⟩, ⟨49, ps_q102, rs_q102, q102 N⟩] N Tryz.f15 a_q103 ps_q103 rs_q103 = q103 N := by kernel_rfl
def a_q104 : Ann := .lf
theorem x_q104 (N : Nat) : execF E [⟨14, ps_q66, rs_q66, q66 N⟩] N Tryz.f16 a_q104 ps_q104 rs_q104 = q104 N := by kernel_rfl
def a_q105 : Ann := (.sq .lf (.sq .lf (.jn ⟨[], [], [], []⟩ (.sq .lf (.lp ⟨[0, 1, 12], [], [.s 13], [.v (.int .i64) []]⟩ .lf)) .lf)))
theorem x_q105 (N : Nat) : execF E [] N Tryz.f52 a_q105 ps_q105 rs_q105 = q105 N := by kernel_rfl
end
end Go.Mo
end

section
/-
  The functions do what their models say. Printed by a program.
-/
namespace Go.Mo
open Go Go.W Go.Proofs
noncomputable section
set_option maxRecDepth 100000
def a_l21_equal_1 : Ann := .lf
theorem x_l21_equal_1 (N : Nat) : execF E [⟨52, ps_q105, rs_q105, q105 N⟩] N Tryz.f51 a_l21_equal_1 ps_l21_equal_1 rs_l21_equal_1 = l21_equal_1 N := by kernel_rfl
def a_q106 : Ann := (.sq .lf (.sq .lf (.jn ⟨[], [], [], []⟩ (.sq .lf (.lp ⟨[1, 2, 15, 16], [], [.s 17], [.v (.int .i64) []]⟩ .lf)) .lf)))
theorem x_q106 (N : Nat) : execF E [⟨51, ps_l21_equal_1, rs_l21_equal_1, l21_equal_1 N⟩] N Tryz.f50 a_q106 ps_q106 rs_q106 = q106 N := by kernel_rfl
def a_l21_equal : Ann := .lf
theorem x_l21_equal (N : Nat) : execF E [⟨50, ps_q106, rs_q106, q106 N⟩, ⟨51, ps_l21_equal_1, rs_l21_equal_1, l21_equal_1 N⟩] N Tryz.f17 a_l21_equal ps_l21_equal rs_l21_equal = l21_equal N := by kernel_rfl
def a_q107 : Ann := .lf
theorem x_q107 (N : Nat) : execF E [] N Tryz.f96 a_q107 ps_q107 rs_q107 = q107 N := by kernel_rfl
def a_q108 : Ann := .lf
theorem x_q108 (N : Nat) : execF E [] N Tryz.f97 a_q108 ps_q108 rs_q108 = q108 N := by kernel_rfl
def a_q109 : Ann := .lf
theorem x_q109 (N : Nat) : execF E [] N Tryz.f98 a_q109 ps_q109 rs_q109 = q109 N := by kernel_rfl
def a_q110 : Ann := .lf
theorem x_q110 (N : Nat) : execF E [] N Tryz.f218 a_q110 ps_q110 rs_q110 = q110 N := by kernel_rfl
def a_q111 : Ann := .lf
theorem x_q111 (N : Nat) : execF E [] N Tryz.f219 a_q111 ps_q111 rs_q111 = q111 N := by kernel_rfl
def a_q112 : Ann := (.sq .lf (.sq .lf (.jn ⟨[3], [], [.o 4], [.r 4 (.st (.slice Y5))]⟩ (.sq .lf (.lp ⟨[3, 8], [], [.s 9, .o 4], [.v (.int .i64) [], .r 4 (.st (.slice Y5))]⟩ .lf)) .lf)))
theorem x_q112 (N : Nat) : execF E [⟨218, ps_q110, rs_q110, q110 N⟩, ⟨219, ps_q111, rs_q111, q111 N⟩] N Tryz.f164 a_q112 ps_q112 rs_q112 = q112 N := by kernel_rfl
def a_q113 : Ann := .lf
theorem x_q113 (N : Nat) : execF E [⟨164, ps_q112, rs_q112, q112 N⟩] N Tryz.f99 a_q113 ps_q113 rs_q113 = q113 N := by kernel_rfl
def a_q114 : Ann := (.sq .lf (.sq .lf (.sq .lf (.jn ⟨[1, 2], [4, 2, 8, 12], [.o 20], [.r 20 Y2]⟩ (.sq .lf (.lp ⟨[1, 2, 18, 19], [4, 2, 8, 12], [.s 20, .o 20], [.v (.int .i64) [], .r 20 Y2]⟩ .lf)) .lf))))
theorem x_q114 (N : Nat) : execF E [⟨96, ps_q107, rs_q107, q107 N⟩, ⟨97, ps_q108, rs_q108, q108 N⟩, ⟨98, ps_q109, rs_q109, q109 N⟩, ⟨99, ps_q113, rs_q113, q113 N⟩] N Tryz.f58 a_q114 ps_q114 rs_q114 = q114 N := by kernel_rfl
def a_q115 : Ann := .lf
theorem x_q115 (N : Nat) : execF E [⟨30, ps_q48, rs_q48, q48 N⟩, ⟨58, ps_q114, rs_q114, q114 N⟩] N Tryz.f19 a_q115 ps_q115 rs_q115 = q115 N := by kernel_rfl
def a_q116 : Ann := (.sq .lf (.sq .lf (.jn ⟨[], [], [.s 3], [.v (.slice (.st (.slice Y5))) [0]]⟩ (.sq .lf (.lp ⟨[6, 7], [], [.s 3, .s 8], [.v (.slice (.st (.slice Y5))) [0], .v (.int .i64) []]⟩ .lf)) .lf)))
theorem x_q116 (N : Nat) : execF E [] N Tryz.f165 a_q116 ps_q116 rs_q116 = q116 N := by kernel_rfl
def a_q117 : Ann := .lf
theorem x_q117 (N : Nat) : execF E [⟨165, ps_q116, rs_q116, q116 N⟩] N Tryz.f100 a_q117 ps_q117 rs_q117 = q117 N := by kernel_rfl
def a_q118 : Ann := (.sq .lf (.sq .lf (.sq .lf (.sq .lf (.jn ⟨[1, 2], [4, 2, 6, 13], [.s 3], [.v (.slice Y2) [0]]⟩ (.sq .lf (.lp ⟨[1, 2, 17, 18], [4, 2, 6, 13], [.s 3, .s 19], [.v (.slice Y2) [0], .v (.int .i64) []]⟩ .lf)) .lf)))))
theorem x_q118 (N : Nat) : execF E [⟨100, ps_q117, rs_q117, q117 N⟩] N Tryz.f59 a_q118 ps_q118 rs_q118 = q118 N := by kernel_rfl
def a_q119 : Ann := .lf
theorem x_q119 (N : Nat) : execF E [⟨39, ps_q86, rs_q86, q86 N⟩, ⟨59, ps_q118, rs_q118, q118 N⟩] N Tryz.f20 a_q119 ps_q119 rs_q119 = q119 N := by kernel_rfl
def a_q120 : Ann := .lf
theorem x_q120 (N : Nat) : execF E [] N Tryz.f53 a_q120 ps_q120 rs_q120 = q120 N := by kernel_rfl
def a_q121 : Ann := (.sq .lf (.sq .lf (.jn ⟨[], [], [], []⟩ (.sq .lf (.lp ⟨[0, 1, 12], [], [.s 13], [.v (.int .i64) []]⟩ .lf)) .lf)))
theorem x_q121 (N : Nat) : execF E [] N Tryz.f54 a_q121 ps_q121 rs_q121 = q121 N := by kernel_rfl
def a_q122 : Ann := (.sq .lf (.sq .lf (.jn ⟨[], [], [], []⟩ (.sq .lf (.lp ⟨[0, 1, 12], [], [.s 13], [.v (.int .i64) []]⟩ .lf)) .lf)))
theorem x_q122 (N : Nat) : execF E [] N Tryz.f217 a_q122 ps_q122 rs_q122 = q122 N := by kernel_rfl
def a_q123 : Ann := .lf
theorem x_q123 (N : Nat) : execF E [⟨217, ps_q122, rs_q122, q122 N⟩] N Tryz.f163 a_q123 ps_q123 rs_q123 = q123 N := by kernel_rfl
def a_q124 : Ann := (.sq .lf (.sq .lf (.jn ⟨[], [], [], []⟩ (.sq .lf (.lp ⟨[1, 2, 15, 16], [], [.s 17], [.v (.int .i64) []]⟩ .lf)) .lf)))
theorem x_q124 (N : Nat) : execF E [⟨163, ps_q123, rs_q123, q123 N⟩] N Tryz.f162 a_q124 ps_q124 rs_q124 = q124 N := by kernel_rfl
def a_q125 : Ann := .lf
theorem x_q125 (N : Nat) : execF E [⟨162, ps_q124, rs_q124, q124 N⟩, ⟨163, ps_q123, rs_q123, q123 N⟩] N Tryz.f95 a_q125 ps_q125 rs_q125 = q125 N := by kernel_rfl
def a_q126 : Ann := .lf
theorem x_q126 (N : Nat) : execF E [⟨95, ps_q125, rs_q125, q125 N⟩] N Tryz.f56 a_q126 ps_q126 rs_q126 = q126 N := by kernel_rfl
def a_q127 : Ann := (.sq .lf (.sq .lf (.jn ⟨[], [], [], []⟩ (.sq .lf (.lp ⟨[1, 2, 15, 16], [], [.s 17], [.v (.int .i64) []]⟩ .lf)) .lf)))
theorem x_q127 (N : Nat) : execF E [⟨56, ps_q126, rs_q126, q126 N⟩] N Tryz.f55 a_q127 ps_q127 rs_q127 = q127 N := by kernel_rfl
def a_q128 : Ann := (.sq .lf (.sq .lf (.jn ⟨[], [], [], []⟩ (.sq .lf (.lp ⟨[0, 1, 12], [], [.s 13], [.v (.int .i64) []]⟩ .lf)) .lf)))
theorem x_q128 (N : Nat) : execF E [] N Tryz.f57 a_q128 ps_q128 rs_q128 = q128 N := by kernel_rfl
def a_q129 : Ann := .lf
theorem x_q129 (N : Nat) : execF E [⟨53, ps_q120, rs_q120, q120 N⟩, ⟨54, ps_q121, rs_q121, q121 N⟩, ⟨55, ps_q127, rs_q127, q127 N⟩, ⟨56, ps_q126, rs_q126, q126 N⟩, ⟨57, ps_q128, rs_q128, q128 N⟩] N Tryz.f18 a_q129 ps_q129 rs_q129 = q129 N := by kernel_rfl
end
end Go.Mo
end

section
/-
  The functions do what their models say. Printed by a program.
-/
namespace Go.Mo
open Go Go.W Go.Proofs
noncomputable section
set_option maxRecDepth 100000
def a_l21_TtmlNodes : Ann := .lf
theorem x_l21_TtmlNodes (N : Nat) : execF E [⟨10, ps_l21_awake, rs_l21_awake, l21_awake N⟩, ⟨11, ps_l21_few, rs_l21_few, l21_few N⟩, ⟨12, ps_q55, rs_q55, q55 N⟩, ⟨13, ps_q94, rs_q94, q94 N⟩, ⟨14, ps_q66, rs_q66, q66 N⟩, ⟨15, ps_q103, rs_q103, q103 N⟩, ⟨16, ps_q104, rs_q104, q104 N⟩, ⟨17, ps_l21_equal, rs_l21_equal, l21_equal N⟩, ⟨19, ps_q115, rs_q115, q115 N⟩, ⟨20, ps_q119, rs_q119, q119 N⟩, ⟨18, ps_q129, rs_q129, q129 N⟩] N Tryz.f3 a_l21_TtmlNodes ps_l21_TtmlNodes rs_l21_TtmlNodes = l21_TtmlNodes N := by kernel_rfl
end
end Go.Mo
end

section
/-
  The functions do what their models say. Printed by a program.
-/
namespace Go.Mo
open Go Go.W Go.Proofs
noncomputable section
set_option maxRecDepth 100000
theorem k_utf8_ValidString (N : Nat) : ConOk E ⟨193, ps_utf8_ValidString, rs_utf8_ValidString, utf8_ValidString N⟩ := kh_utf8_ValidString N
theorem k_q11 (N : Nat) : ConOk E ⟨243, ps_q11, rs_q11, q11 N⟩ := conOf envOk (x_q11 N) trivial (show E.P.funcs[243]? = some Tryz.f243 from by kernel_rfl) (by kernel_rfl)
theorem k_q12 (N : Nat) : ConOk E ⟨194, ps_q12, rs_q12, q12 N⟩ := conOf envOk (x_q12 N) ⟨k_q11 N, trivial⟩ (show E.P.funcs[194]? = some Tryz.f194 from by kernel_rfl) (by kernel_rfl)
theorem k_q13 (N : Nat) : ConOk E ⟨134, ps_q13, rs_q13, q13 N⟩ := conOf envOk (x_q13 N) ⟨k_utf8_ValidString N, k_q12 N, trivial⟩ (show E.P.funcs[134]? = some Tryz.f134 from by kernel_rfl) (by kernel_rfl)
theorem k_q14 (N : Nat) : ConOk E ⟨135, ps_q14, rs_q14, q14 N⟩ := conOf envOk (x_q14 N) trivial (show E.P.funcs[135]? = some Tryz.f135 from by kernel_rfl) (by kernel_rfl)
theorem k_q15 (N : Nat) : ConOk E ⟨83, ps_q15, rs_q15, q15 N⟩ := conOf envOk (x_q15 N) trivial (show E.P.funcs[83]? = some Tryz.f83 from by kernel_rfl) (by kernel_rfl)
theorem k_q16 (N : Nat) : ConOk E ⟨195, ps_q16, rs_q16, q16 N⟩ := conOf envOk (x_q16 N) ⟨k_q15 N, trivial⟩ (show E.P.funcs[195]? = some Tryz.f195 from by kernel_rfl) (by kernel_rfl)
theorem k_q17 (N : Nat) : ConOk E ⟨196, ps_q17, rs_q17, q17 N⟩ := conOf envOk (x_q17 N) ⟨k_q15 N, trivial⟩ (show E.P.funcs[196]? = some Tryz.f196 from by kernel_rfl) (by kernel_rfl)
theorem k_q18 (N : Nat) : ConOk E ⟨136, ps_q18, rs_q18, q18 N⟩ := conOf envOk (x_q18 N) ⟨k_q16 N, k_q17 N, trivial⟩ (show E.P.funcs[136]? = some Tryz.f136 from by kernel_rfl) (by kernel_rfl)
theorem k_q19 (N : Nat) : ConOk E ⟨74, ps_q19, rs_q19, q19 N⟩ := conOf envOk (x_q19 N) ⟨k_q13 N, k_q14 N, k_q18 N, trivial⟩ (show E.P.funcs[74]? = some Tryz.f74 from by kernel_rfl) (by kernel_rfl)
theorem k_q20 (N : Nat) : ConOk E ⟨197, ps_q20, rs_q20, q20 N⟩ := conOf envOk (x_q20 N) trivial (show E.P.funcs[197]? = some Tryz.f197 from by kernel_rfl) (by kernel_rfl)
theorem k_q21 (N : Nat) : ConOk E ⟨137, ps_q21, rs_q21, q21 N⟩ := conOf envOk (x_q21 N) ⟨k_q14 N, k_q20 N, trivial⟩ (show E.P.funcs[137]? = some Tryz.f137 from by kernel_rfl) (by kernel_rfl)
theorem k_q22 (N : Nat) : ConOk E ⟨75, ps_q22, rs_q22, q22 N⟩ := conOf envOk (x_q22 N) ⟨k_q21 N, trivial⟩ (show E.P.funcs[75]? = some Tryz.f75 from by kernel_rfl) (by kernel_rfl)
theorem k_q23 (N : Nat) : ConOk E ⟨198, ps_q23, rs_q23, q23 N⟩ := conOf envOk (x_q23 N) trivial (show E.P.funcs[198]? = some Tryz.f198 from by kernel_rfl) (by kernel_rfl)
theorem k_q24 (N : Nat) : ConOk E ⟨138, ps_q24, rs_q24, q24 N⟩ := conOf envOk (x_q24 N) ⟨k_q23 N, trivial⟩ (show E.P.funcs[138]? = some Tryz.f138 from by kernel_rfl) (by kernel_rfl)
theorem k_q25 (N : Nat) : ConOk E ⟨139, ps_q25, rs_q25, q25 N⟩ := conOf envOk (x_q25 N) trivial (show E.P.funcs[139]? = some Tryz.f139 from by kernel_rfl) (by kernel_rfl)
theorem k_q26 (N : Nat) : ConOk E ⟨85, ps_q26, rs_q26, q26 N⟩ := conOf envOk (x_q26 N) trivial (show E.P.funcs[85]? = some Tryz.f85 from by kernel_rfl) (by kernel_rfl)
theorem k_q27 (N : Nat) : ConOk E ⟨38, ps_q27, rs_q27, q27 N⟩ := conOf envOk (x_q27 N) ⟨k_q26 N, trivial⟩ (show E.P.funcs[38]? = some Tryz.f38 from by kernel_rfl) (by kernel_rfl)
theorem k_q28 (N : Nat) : ConOk E ⟨244, ps_q28, rs_q28, q28 N⟩ := conOf envOk (x_q28 N) trivial (show E.P.funcs[244]? = some Tryz.f244 from by kernel_rfl) (by kernel_rfl)
theorem k_q29 (N : Nat) : ConOk E ⟨245, ps_q29, rs_q29, q29 N⟩ := conOf envOk (x_q29 N) trivial (show E.P.funcs[245]? = some Tryz.f245 from by kernel_rfl) (by kernel_rfl)
theorem k_q30 (N : Nat) : ConOk E ⟨199, ps_q30, rs_q30, q30 N⟩ := conOf envOk (x_q30 N) ⟨k_q13 N, k_q28 N, k_q29 N, trivial⟩ (show E.P.funcs[199]? = some Tryz.f199 from by kernel_rfl) (by kernel_rfl)
theorem k_strings_Builder_copyCheck (N : Nat) : ConOk E ⟨146, ps_strings_Builder_copyCheck, rs_strings_Builder_copyCheck, strings_Builder_copyCheck N⟩ := kh_strings_Builder_copyCheck N
theorem k_q31 (N : Nat) : ConOk E ⟨79, ps_q31, rs_q31, q31 N⟩ := conOf envOk (x_q31 N) ⟨k_strings_Builder_copyCheck N, trivial⟩ (show E.P.funcs[79]? = some Tryz.f79 from by kernel_rfl) (by kernel_rfl)
theorem k_q32 (N : Nat) : ConOk E ⟨200, ps_q32, rs_q32, q32 N⟩ := conOf envOk (x_q32 N) ⟨k_q31 N, trivial⟩ (show E.P.funcs[200]? = some Tryz.f200 from by kernel_rfl) (by kernel_rfl)
theorem k_strings_Contains (N : Nat) : ConOk E ⟨201, ps_strings_Contains, rs_strings_Contains, strings_Contains N⟩ := kh_strings_Contains N
theorem k_q33 (N : Nat) : ConOk E ⟨226, ps_q33, rs_q33, q33 N⟩ := conOf envOk (x_q33 N) trivial (show E.P.funcs[226]? = some Tryz.f226 from by kernel_rfl) (by kernel_rfl)
theorem k_q34 (N : Nat) : ConOk E ⟨246, ps_q34, rs_q34, q34 N⟩ := conOf envOk (x_q34 N) ⟨k_q13 N, k_q33 N, trivial⟩ (show E.P.funcs[246]? = some Tryz.f246 from by kernel_rfl) (by kernel_rfl)
theorem k_q35 (N : Nat) : ConOk E ⟨202, ps_q35, rs_q35, q35 N⟩ := conOf envOk (x_q35 N) ⟨k_q34 N, trivial⟩ (show E.P.funcs[202]? = some Tryz.f202 from by kernel_rfl) (by kernel_rfl)
theorem k_q36 (N : Nat) : ConOk E ⟨140, ps_q36, rs_q36, q36 N⟩ := conOf envOk (x_q36 N) ⟨k_q30 N, k_q32 N, k_strings_Contains N, k_q35 N, trivial⟩ (show E.P.funcs[140]? = some Tryz.f140 from by kernel_rfl) (by kernel_rfl)
theorem k_q37 (N : Nat) : ConOk E ⟨142, ps_q37, rs_q37, q37 N⟩ := conOf envOk (x_q37 N) ⟨k_q35 N, trivial⟩ (show E.P.funcs[142]? = some Tryz.f142 from by kernel_rfl) (by kernel_rfl)
theorem k_q38 (N : Nat) : ConOk E ⟨203, ps_q38, rs_q38, q38 N⟩ := conOf envOk (x_q38 N) ⟨k_q23 N, k_q21 N, trivial⟩ (show E.P.funcs[203]? = some Tryz.f203 from by kernel_rfl) (by kernel_rfl)
theorem k_q39 (N : Nat) : ConOk E ⟨141, ps_q39, rs_q39, q39 N⟩ := conOf envOk (x_q39 N) ⟨k_q38 N, trivial⟩ (show E.P.funcs[141]? = some Tryz.f141 from by kernel_rfl) (by kernel_rfl)
theorem k_q40 (N : Nat) : ConOk E ⟨76, ps_q40, rs_q40, q40 N⟩ := conOf envOk (x_q40 N) ⟨k_q24 N, k_q25 N, k_q27 N, k_q14 N, k_q36 N, k_q37 N, k_q39 N, trivial⟩ (show E.P.funcs[76]? = some Tryz.f76 from by kernel_rfl) (by kernel_rfl)
theorem k_q41 (N : Nat) : ConOk E ⟨204, ps_q41, rs_q41, q41 N⟩ := conOf envOk (x_q41 N) trivial (show E.P.funcs[204]? = some Tryz.f204 from by kernel_rfl) (by kernel_rfl)
theorem k_q42 (N : Nat) : ConOk E ⟨144, ps_q42, rs_q42, q42 N⟩ := conOf envOk (x_q42 N) ⟨k_q41 N, trivial⟩ (show E.P.funcs[144]? = some Tryz.f144 from by kernel_rfl) (by kernel_rfl)
theorem k_q43 (N : Nat) : ConOk E ⟨143, ps_q43, rs_q43, q43 N⟩ := conOf envOk (x_q43 N) trivial (show E.P.funcs[143]? = some Tryz.f143 from by kernel_rfl) (by kernel_rfl)
theorem k_q44 (N : Nat) : ConOk E ⟨77, ps_q44, rs_q44, q44 N⟩ := conOf envOk (x_q44 N) ⟨k_q42 N, k_q43 N, trivial⟩ (show E.P.funcs[77]? = some Tryz.f77 from by kernel_rfl) (by kernel_rfl)
theorem k_q45 (N : Nat) : ConOk E ⟨205, ps_q45, rs_q45, q45 N⟩ := conOf envOk (x_q45 N) ⟨k_q37 N, trivial⟩ (show E.P.funcs[205]? = some Tryz.f205 from by kernel_rfl) (by kernel_rfl)
theorem k_q46 (N : Nat) : ConOk E ⟨145, ps_q46, rs_q46, q46 N⟩ := conOf envOk (x_q46 N) ⟨k_q45 N, trivial⟩ (show E.P.funcs[145]? = some Tryz.f145 from by kernel_rfl) (by kernel_rfl)
theorem k_q47 (N : Nat) : ConOk E ⟨78, ps_q47, rs_q47, q47 N⟩ := conOf envOk (x_q47 N) ⟨k_q46 N, k_q14 N, k_q13 N, trivial⟩ (show E.P.funcs[78]? = some Tryz.f78 from by kernel_rfl) (by kernel_rfl)
theorem k_q48 (N : Nat) : ConOk E ⟨30, ps_q48, rs_q48, q48 N⟩ := conOf envOk (x_q48 N) ⟨k_q19 N, k_q22 N, k_q40 N, k_q44 N, k_q47 N, trivial⟩ (show E.P.funcs[30]? = some Tryz.f30 from by kernel_rfl) (by kernel_rfl)
theorem k_q49 (N : Nat) : ConOk E ⟨34, ps_q49, rs_q49, q49 N⟩ := conOf envOk (x_q49 N) ⟨k_q15 N, trivial⟩ (show E.P.funcs[34]? = some Tryz.f34 from by kernel_rfl) (by kernel_rfl)
theorem k_q50 (N : Nat) : ConOk E ⟨35, ps_q50, rs_q50, q50 N⟩ := conOf envOk (x_q50 N) trivial (show E.P.funcs[35]? = some Tryz.f35 from by kernel_rfl) (by kernel_rfl)
theorem k_istrconv_FormatInt (N : Nat) : ConOk E ⟨148, ps_istrconv_FormatInt, rs_istrconv_FormatInt, istrconv_FormatInt N⟩ := kh_istrconv_FormatInt N
theorem k_q51 (N : Nat) : ConOk E ⟨84, ps_q51, rs_q51, q51 N⟩ := conOf envOk (x_q51 N) ⟨k_istrconv_FormatInt N, trivial⟩ (show E.P.funcs[84]? = some Tryz.f84 from by kernel_rfl) (by kernel_rfl)
theorem k_q52 (N : Nat) : ConOk E ⟨37, ps_q52, rs_q52, q52 N⟩ := conOf envOk (x_q52 N) ⟨k_q51 N, trivial⟩ (show E.P.funcs[37]? = some Tryz.f37 from by kernel_rfl) (by kernel_rfl)
theorem k_q53 (N : Nat) : ConOk E ⟨36, ps_q53, rs_q53, q53 N⟩ := conOf envOk (x_q53 N) ⟨k_q52 N, trivial⟩ (show E.P.funcs[36]? = some Tryz.f36 from by kernel_rfl) (by kernel_rfl)
theorem k_q54 (N : Nat) : ConOk E ⟨33, ps_q54, rs_q54, q54 N⟩ := conOf envOk (x_q54 N) trivial (show E.P.funcs[33]? = some Tryz.f33 from by kernel_rfl) (by kernel_rfl)
theorem k_q55 (N : Nat) : ConOk E ⟨12, ps_q55, rs_q55, q55 N⟩ := conOf envOk (x_q55 N) ⟨k_q48 N, k_q49 N, k_q50 N, k_q53 N, k_q54 N, k_q52 N, k_q27 N, trivial⟩ (show E.P.funcs[12]? = some Tryz.f12 from by kernel_rfl) (by kernel_rfl)
theorem k_q56 (N : Nat) : ConOk E ⟨101, ps_q56, rs_q56, q56 N⟩ := conOf envOk (x_q56 N) trivial (show E.P.funcs[101]? = some Tryz.f101 from by kernel_rfl) (by kernel_rfl)
theorem k_q57 (N : Nat) : ConOk E ⟨220, ps_q57, rs_q57, q57 N⟩ := conOf envOk (x_q57 N) trivial (show E.P.funcs[220]? = some Tryz.f220 from by kernel_rfl) (by kernel_rfl)
theorem k_q58 (N : Nat) : ConOk E ⟨221, ps_q58, rs_q58, q58 N⟩ := conOf envOk (x_q58 N) ⟨k_q57 N, trivial⟩ (show E.P.funcs[221]? = some Tryz.f221 from by kernel_rfl) (by kernel_rfl)
theorem k_xml_Name (N : Nat) : ConOk E ⟨166, ps_xml_Name, rs_xml_Name, xml_Name N⟩ := conOf envOk (x_xml_Name N) ⟨k_q57 N, k_q58 N, trivial⟩ (show E.P.funcs[166]? = some Tryz.f166 from by kernel_rfl) (by kernel_rfl)
theorem k_q59 (N : Nat) : ConOk E ⟨102, ps_q59, rs_q59, q59 N⟩ := conOf envOk (x_q59 N) ⟨k_xml_Name N, k_q13 N, trivial⟩ (show E.P.funcs[102]? = some Tryz.f102 from by kernel_rfl) (by kernel_rfl)
theorem k_q60 (N : Nat) : ConOk E ⟨103, ps_q60, rs_q60, q60 N⟩ := conOf envOk (x_q60 N) ⟨k_q13 N, trivial⟩ (show E.P.funcs[103]? = some Tryz.f103 from by kernel_rfl) (by kernel_rfl)
theorem k_q61 (N : Nat) : ConOk E ⟨60, ps_q61, rs_q61, q61 N⟩ := conOf envOk (x_q61 N) ⟨k_q56 N, k_q59 N, k_q60 N, trivial⟩ (show E.P.funcs[60]? = some Tryz.f60 from by kernel_rfl) (by kernel_rfl)
theorem k_strings_Replace (N : Nat) : ConOk E ⟨207, ps_strings_Replace, rs_strings_Replace, strings_Replace N⟩ := kh_strings_Replace N
theorem k_q62 (N : Nat) : ConOk E ⟨147, ps_q62, rs_q62, q62 N⟩ := conOf envOk (x_q62 N) ⟨k_strings_Replace N, trivial⟩ (show E.P.funcs[147]? = some Tryz.f147 from by kernel_rfl) (by kernel_rfl)
theorem k_q63 (N : Nat) : ConOk E ⟨80, ps_q63, rs_q63, q63 N⟩ := conOf envOk (x_q63 N) ⟨k_q62 N, trivial⟩ (show E.P.funcs[80]? = some Tryz.f80 from by kernel_rfl) (by kernel_rfl)
theorem k_q64 (N : Nat) : ConOk E ⟨81, ps_q64, rs_q64, q64 N⟩ := conOf envOk (x_q64 N) trivial (show E.P.funcs[81]? = some Tryz.f81 from by kernel_rfl) (by kernel_rfl)
theorem k_q65 (N : Nat) : ConOk E ⟨31, ps_q65, rs_q65, q65 N⟩ := conOf envOk (x_q65 N) ⟨k_q61 N, k_q31 N, k_q63 N, k_q64 N, trivial⟩ (show E.P.funcs[31]? = some Tryz.f31 from by kernel_rfl) (by kernel_rfl)
theorem k_q66 (N : Nat) : ConOk E ⟨14, ps_q66, rs_q66, q66 N⟩ := conOf envOk (x_q66 N) ⟨k_q55 N, k_q65 N, trivial⟩ (show E.P.funcs[14]? = some Tryz.f14 from by kernel_rfl) (by kernel_rfl)
theorem k_l21_awake (N : Nat) : ConOk E ⟨10, ps_l21_awake, rs_l21_awake, l21_awake N⟩ := conOf envOk (x_l21_awake N) ⟨k_q66 N, trivial⟩ (show E.P.funcs[10]? = some Tryz.f10 from by kernel_rfl) (by kernel_rfl)
theorem k_l21_few (N : Nat) : ConOk E ⟨11, ps_l21_few, rs_l21_few, l21_few N⟩ := conOf envOk (x_l21_few N) trivial (show E.P.funcs[11]? = some Tryz.f11 from by kernel_rfl) (by kernel_rfl)
theorem k_q67 (N : Nat) : ConOk E ⟨225, ps_q67, rs_q67, q67 N⟩ := conOf envOk (x_q67 N) trivial (show E.P.funcs[225]? = some Tryz.f225 from by kernel_rfl) (by kernel_rfl)
theorem k_q68 (N : Nat) : ConOk E ⟨171, ps_q68, rs_q68, q68 N⟩ := conOf envOk (x_q68 N) ⟨k_q67 N, trivial⟩ (show E.P.funcs[171]? = some Tryz.f171 from by kernel_rfl) (by kernel_rfl)
theorem k_q69 (N : Nat) : ConOk E ⟨117, ps_q69, rs_q69, q69 N⟩ := conOf envOk (x_q69 N) ⟨k_q68 N, trivial⟩ (show E.P.funcs[117]? = some Tryz.f117 from by kernel_rfl) (by kernel_rfl)
theorem k_q70 (N : Nat) : ConOk E ⟨212, ps_q70, rs_q70, q70 N⟩ := conOf envOk (x_q70 N) trivial (show E.P.funcs[212]? = some Tryz.f212 from by kernel_rfl) (by kernel_rfl)
theorem k_r07_Name (N : Nat) : ConOk E ⟨149, ps_r07_Name, rs_r07_Name, r07_Name N⟩ := conOf envOk (x_r07_Name N) ⟨k_q70 N, trivial⟩ (show E.P.funcs[149]? = some Tryz.f149 from by kernel_rfl) (by kernel_rfl)
theorem k_q71 (N : Nat) : ConOk E ⟨92, ps_q71, rs_q71, q71 N⟩ := conOf envOk (x_q71 N) trivial (show E.P.funcs[92]? = some Tryz.f92 from by kernel_rfl) (by kernel_rfl)
theorem k_q72 (N : Nat) : ConOk E ⟨150, ps_q72, rs_q72, q72 N⟩ := conOf envOk (x_q72 N) trivial (show E.P.funcs[150]? = some Tryz.f150 from by kernel_rfl) (by kernel_rfl)
theorem k_q73 (N : Nat) : ConOk E ⟨86, ps_q73, rs_q73, q73 N⟩ := conOf envOk (x_q73 N) ⟨k_q69 N, k_r07_Name N, k_q71 N, k_q72 N, trivial⟩ (show E.P.funcs[86]? = some Tryz.f86 from by kernel_rfl) (by kernel_rfl)
theorem k_q74 (N : Nat) : ConOk E ⟨151, ps_q74, rs_q74, q74 N⟩ := conOf envOk (x_q74 N) ⟨k_r07_Name N, trivial⟩ (show E.P.funcs[151]? = some Tryz.f151 from by kernel_rfl) (by kernel_rfl)
theorem k_q75 (N : Nat) : ConOk E ⟨87, ps_q75, rs_q75, q75 N⟩ := conOf envOk (x_q75 N) ⟨k_q74 N, trivial⟩ (show E.P.funcs[87]? = some Tryz.f87 from by kernel_rfl) (by kernel_rfl)
theorem k_q76 (N : Nat) : ConOk E ⟨152, ps_q76, rs_q76, q76 N⟩ := conOf envOk (x_q76 N) trivial (show E.P.funcs[152]? = some Tryz.f152 from by kernel_rfl) (by kernel_rfl)
theorem k_q77 (N : Nat) : ConOk E ⟨213, ps_q77, rs_q77, q77 N⟩ := conOf envOk (x_q77 N) trivial (show E.P.funcs[213]? = some Tryz.f213 from by kernel_rfl) (by kernel_rfl)
theorem k_r10_Find (N : Nat) : ConOk E ⟨153, ps_r10_Find, rs_r10_Find, r10_Find N⟩ := conOf envOk (x_r10_Find N) ⟨k_q77 N, trivial⟩ (show E.P.funcs[153]? = some Tryz.f153 from by kernel_rfl) (by kernel_rfl)
theorem k_q78 (N : Nat) : ConOk E ⟨214, ps_q78, rs_q78, q78 N⟩ := conOf envOk (x_q78 N) trivial (show E.P.funcs[214]? = some Tryz.f214 from by kernel_rfl) (by kernel_rfl)
theorem k_q79 (N : Nat) : ConOk E ⟨154, ps_q79, rs_q79, q79 N⟩ := conOf envOk (x_q79 N) ⟨k_q69 N, k_q78 N, trivial⟩ (show E.P.funcs[154]? = some Tryz.f154 from by kernel_rfl) (by kernel_rfl)
theorem k_q80 (N : Nat) : ConOk E ⟨156, ps_q80, rs_q80, q80 N⟩ := conOf envOk (x_q80 N) trivial (show E.P.funcs[156]? = some Tryz.f156 from by kernel_rfl) (by kernel_rfl)
theorem k_r11_neat (N : Nat) : ConOk E ⟨155, ps_r11_neat, rs_r11_neat, r11_neat N⟩ := conOf envOk (x_r11_neat N) trivial (show E.P.funcs[155]? = some Tryz.f155 from by kernel_rfl) (by kernel_rfl)
theorem k_q81 (N : Nat) : ConOk E ⟨254, ps_q81, rs_q81, q81 N⟩ := conOf envOk (x_q81 N) trivial (show E.P.funcs[254]? = some Tryz.f254 from by kernel_rfl) (by kernel_rfl)
theorem k_r08_Len (N : Nat) : ConOk E ⟨215, ps_r08_Len, rs_r08_Len, r08_Len N⟩ := conOf envOk (x_r08_Len N) ⟨k_q69 N, k_q81 N, trivial⟩ (show E.P.funcs[215]? = some Tryz.f215 from by kernel_rfl) (by kernel_rfl)
theorem k_r09_Len (N : Nat) : ConOk E ⟨157, ps_r09_Len, rs_r09_Len, r09_Len N⟩ := conOf envOk (x_r09_Len N) ⟨k_r08_Len N, trivial⟩ (show E.P.funcs[157]? = some Tryz.f157 from by kernel_rfl) (by kernel_rfl)
theorem k_q82 (N : Nat) : ConOk E ⟨216, ps_q82, rs_q82, q82 N⟩ := conOf envOk (x_q82 N) ⟨k_q74 N, k_q77 N, trivial⟩ (show E.P.funcs[216]? = some Tryz.f216 from by kernel_rfl) (by kernel_rfl)
theorem k_q83 (N : Nat) : ConOk E ⟨158, ps_q83, rs_q83, q83 N⟩ := conOf envOk (x_q83 N) ⟨k_q82 N, trivial⟩ (show E.P.funcs[158]? = some Tryz.f158 from by kernel_rfl) (by kernel_rfl)
theorem k_q84 (N : Nat) : ConOk E ⟨88, ps_q84, rs_q84, q84 N⟩ := conOf envOk (x_q84 N) ⟨k_q76 N, k_r10_Find N, k_r07_Name N, k_q79 N, k_q80 N, k_r11_neat N, k_r09_Len N, k_q83 N, trivial⟩ (show E.P.funcs[88]? = some Tryz.f88 from by kernel_rfl) (by kernel_rfl)
theorem k_r11_Less (N : Nat) : ConOk E ⟨89, ps_r11_Less, rs_r11_Less, r11_Less N⟩ := conOf envOk (x_r11_Less N) trivial (show E.P.funcs[89]? = some Tryz.f89 from by kernel_rfl) (by kernel_rfl)
theorem k_r12_Find (N : Nat) : ConOk E ⟨90, ps_r12_Find, rs_r12_Find, r12_Find N⟩ := conOf envOk (x_r12_Find N) trivial (show E.P.funcs[90]? = some Tryz.f90 from by kernel_rfl) (by kernel_rfl)
theorem k_r11_Len (N : Nat) : ConOk E ⟨159, ps_r11_Len, rs_r11_Len, r11_Len N⟩ := conOf envOk (x_r11_Len N) ⟨k_r09_Len N, trivial⟩ (show E.P.funcs[159]? = some Tryz.f159 from by kernel_rfl) (by kernel_rfl)
theorem k_q85 (N : Nat) : ConOk E ⟨91, ps_q85, rs_q85, q85 N⟩ := conOf envOk (x_q85 N) ⟨k_r12_Find N, k_r11_Len N, k_r07_Name N, k_q69 N, trivial⟩ (show E.P.funcs[91]? = some Tryz.f91 from by kernel_rfl) (by kernel_rfl)
theorem k_q86 (N : Nat) : ConOk E ⟨39, ps_q86, rs_q86, q86 N⟩ := conOf envOk (x_q86 N) ⟨k_q73 N, k_q75 N, k_q84 N, k_r11_Less N, k_r12_Find N, k_q85 N, trivial⟩ (show E.P.funcs[39]? = some Tryz.f39 from by kernel_rfl) (by kernel_rfl)
theorem k_r21_some (N : Nat) : ConOk E ⟨41, ps_r21_some, rs_r21_some, r21_some N⟩ := conOf envOk (x_r21_some N) trivial (show E.P.funcs[41]? = some Tryz.f41 from by kernel_rfl) (by kernel_rfl)
theorem k_r02_Name (N : Nat) : ConOk E ⟨42, ps_r02_Name, rs_r02_Name, r02_Name N⟩ := conOf envOk (x_r02_Name N) ⟨k_q71 N, trivial⟩ (show E.P.funcs[42]? = some Tryz.f42 from by kernel_rfl) (by kernel_rfl)
theorem k_r21_one (N : Nat) : ConOk E ⟨43, ps_r21_one, rs_r21_one, r21_one N⟩ := conOf envOk (x_r21_one N) trivial (show E.P.funcs[43]? = some Tryz.f43 from by kernel_rfl) (by kernel_rfl)
theorem k_q87 (N : Nat) : ConOk E ⟨46, ps_q87, rs_q87, q87 N⟩ := conOf envOk (x_q87 N) trivial (show E.P.funcs[46]? = some Tryz.f46 from by kernel_rfl) (by kernel_rfl)
theorem k_q88 (N : Nat) : ConOk E ⟨44, ps_q88, rs_q88, q88 N⟩ := conOf envOk (x_q88 N) ⟨k_q87 N, k_r21_some N, trivial⟩ (show E.P.funcs[44]? = some Tryz.f44 from by kernel_rfl) (by kernel_rfl)
theorem k_q89 (N : Nat) : ConOk E ⟨40, ps_q89, rs_q89, q89 N⟩ := conOf envOk (x_q89 N) trivial (show E.P.funcs[40]? = some Tryz.f40 from by kernel_rfl) (by kernel_rfl)
theorem k_q90 (N : Nat) : ConOk E ⟨45, ps_q90, rs_q90, q90 N⟩ := conOf envOk (x_q90 N) trivial (show E.P.funcs[45]? = some Tryz.f45 from by kernel_rfl) (by kernel_rfl)
theorem k_q91 (N : Nat) : ConOk E ⟨93, ps_q91, rs_q91, q91 N⟩ := conOf envOk (x_q91 N) trivial (show E.P.funcs[93]? = some Tryz.f93 from by kernel_rfl) (by kernel_rfl)
theorem k_q92 (N : Nat) : ConOk E ⟨47, ps_q92, rs_q92, q92 N⟩ := conOf envOk (x_q92 N) ⟨k_q91 N, trivial⟩ (show E.P.funcs[47]? = some Tryz.f47 from by kernel_rfl) (by kernel_rfl)
theorem k_q93 (N : Nat) : ConOk E ⟨48, ps_q93, rs_q93, q93 N⟩ := conOf envOk (x_q93 N) trivial (show E.P.funcs[48]? = some Tryz.f48 from by kernel_rfl) (by kernel_rfl)
theorem k_q94 (N : Nat) : ConOk E ⟨13, ps_q94, rs_q94, q94 N⟩ := conOf envOk (x_q94 N) ⟨k_q86 N, k_r21_some N, k_r02_Name N, k_r21_one N, k_q88 N, k_q89 N, k_q90 N, k_q87 N, k_q92 N, k_q93 N, trivial⟩ (show E.P.funcs[13]? = some Tryz.f13 from by kernel_rfl) (by kernel_rfl)
theorem k_q95 (N : Nat) : ConOk E ⟨258, ps_q95, rs_q95, q95 N⟩ := conOf envOk (x_q95 N) trivial (show E.P.funcs[258]? = some Tryz.f258 from by kernel_rfl) (by kernel_rfl)
theorem k_q96 (N : Nat) : ConOk E ⟨259, ps_q96, rs_q96, q96 N⟩ := conOf envOk (x_q96 N) trivial (show E.P.funcs[259]? = some Tryz.f259 from by kernel_rfl) (by kernel_rfl)
theorem k_q97 (N : Nat) : ConOk E ⟨224, ps_q97, rs_q97, q97 N⟩ := conOf envOk (x_q97 N) ⟨k_q95 N, k_q96 N, trivial⟩ (show E.P.funcs[224]? = some Tryz.f224 from by kernel_rfl) (by kernel_rfl)
theorem k_r20_Name (N : Nat) : ConOk E ⟨170, ps_r20_Name, rs_r20_Name, r20_Name N⟩ := conOf envOk (x_r20_Name N) ⟨k_q97 N, trivial⟩ (show E.P.funcs[170]? = some Tryz.f170 from by kernel_rfl) (by kernel_rfl)
theorem k_q98 (N : Nat) : ConOk E ⟨116, ps_q98, rs_q98, q98 N⟩ := conOf envOk (x_q98 N) ⟨k_r20_Name N, k_q69 N, trivial⟩ (show E.P.funcs[116]? = some Tryz.f116 from by kernel_rfl) (by kernel_rfl)
theorem k_q99 (N : Nat) : ConOk E ⟨64, ps_q99, rs_q99, q99 N⟩ := conOf envOk (x_q99 N) ⟨k_q98 N, k_q69 N, trivial⟩ (show E.P.funcs[64]? = some Tryz.f64 from by kernel_rfl) (by kernel_rfl)
theorem k_q100 (N : Nat) : ConOk E ⟨160, ps_q100, rs_q100, q100 N⟩ := conOf envOk (x_q100 N) trivial (show E.P.funcs[160]? = some Tryz.f160 from by kernel_rfl) (by kernel_rfl)
theorem k_q101 (N : Nat) : ConOk E ⟨161, ps_q101, rs_q101, q101 N⟩ := conOf envOk (x_q101 N) trivial (show E.P.funcs[161]? = some Tryz.f161 from by kernel_rfl) (by kernel_rfl)
theorem kr_r20_text (N : Nat) : ∀ D, ConOk E ⟨94, ps_r20_text, rs_r20_text, r20_text_r N D⟩
 | 0 => fun _ _ h => by cases h
 | D + 1 => by
  have hc : CallsOk E [⟨160, ps_q100, rs_q100, q100 N⟩, ⟨161, ps_q101, rs_q101, q101 N⟩, ⟨94, ps_r20_text, rs_r20_text, r20_text_r N D⟩] := callsOk_all ⟨k_q100 N, k_q101 N, kr_r20_text N D, trivial⟩
  rw [← x_r20_text N D]
  exact execF_ok envOk hc (drawn_ok envOk hc) (show E.P.funcs[94]? = some Tryz.f94 from by kernel_rfl) (by kernel_rfl) _ _ _
theorem k_r20_text (N : Nat) : ConOk E ⟨94, ps_r20_text, rs_r20_text, r20_text N⟩ := kr_r20_text N N
theorem k_q102 (N : Nat) : ConOk E ⟨49, ps_q102, rs_q102, q102 N⟩ := conOf envOk (x_q102 N) ⟨k_q99 N, k_r20_text N, trivial⟩ (show E.P.funcs[49]? = some Tryz.f49 from by kernel_rfl) (by kernel_rfl)
theorem k_q103 (N : Nat) : ConOk E ⟨15, ps_q103, rs_q103, q103 N⟩ := conOf envOk (x_q103 N) ⟨k_q94 N, k_q102 N, trivial⟩ (show E.P.funcs[15]? = some Tryz.f15 from by kernel_rfl) (by kernel_rfl)
theorem k_q104 (N : Nat) : ConOk E ⟨16, ps_q104, rs_q104, q104 N⟩ := conOf envOk (x_q104 N) ⟨k_q66 N, trivial⟩ (show E.P.funcs[16]? = some Tryz.f16 from by kernel_rfl) (by kernel_rfl)
theorem k_q105 (N : Nat) : ConOk E ⟨52, ps_q105, rs_q105, q105 N⟩ := conOf envOk (x_q105 N) trivial (show E.P.funcs[52]? = some Tryz.f52 from by kernel_rfl) (by kernel_rfl)
theorem k_l21_equal_1 (N : Nat) : ConOk E ⟨51, ps_l21_equal_1, rs_l21_equal_1, l21_equal_1 N⟩ := conOf envOk (x_l21_equal_1 N) ⟨k_q105 N, trivial⟩ (show E.P.funcs[51]? = some Tryz.f51 from by kernel_rfl) (by kernel_rfl)
theorem k_q106 (N : Nat) : ConOk E ⟨50, ps_q106, rs_q106, q106 N⟩ := conOf envOk (x_q106 N) ⟨k_l21_equal_1 N, trivial⟩ (show E.P.funcs[50]? = some Tryz.f50 from by kernel_rfl) (by kernel_rfl)
theorem k_l21_equal (N : Nat) : ConOk E ⟨17, ps_l21_equal, rs_l21_equal, l21_equal N⟩ := conOf envOk (x_l21_equal N) ⟨k_q106 N, k_l21_equal_1 N, trivial⟩ (show E.P.funcs[17]? = some Tryz.f17 from by kernel_rfl) (by kernel_rfl)
theorem k_q107 (N : Nat) : ConOk E ⟨96, ps_q107, rs_q107, q107 N⟩ := conOf envOk (x_q107 N) trivial (show E.P.funcs[96]? = some Tryz.f96 from by kernel_rfl) (by kernel_rfl)
theorem k_q108 (N : Nat) : ConOk E ⟨97, ps_q108, rs_q108, q108 N⟩ := conOf envOk (x_q108 N) trivial (show E.P.funcs[97]? = some Tryz.f97 from by kernel_rfl) (by kernel_rfl)
theorem k_q109 (N : Nat) : ConOk E ⟨98, ps_q109, rs_q109, q109 N⟩ := conOf envOk (x_q109 N) trivial (show E.P.funcs[98]? = some Tryz.f98 from by kernel_rfl) (by kernel_rfl)
theorem k_q110 (N : Nat) : ConOk E ⟨218, ps_q110, rs_q110, q110 N⟩ := conOf envOk (x_q110 N) trivial (show E.P.funcs[218]? = some Tryz.f218 from by kernel_rfl) (by kernel_rfl)
theorem k_q111 (N : Nat) : ConOk E ⟨219, ps_q111, rs_q111, q111 N⟩ := conOf envOk (x_q111 N) trivial (show E.P.funcs[219]? = some Tryz.f219 from by kernel_rfl) (by kernel_rfl)
theorem k_q112 (N : Nat) : ConOk E ⟨164, ps_q112, rs_q112, q112 N⟩ := conOf envOk (x_q112 N) ⟨k_q110 N, k_q111 N, trivial⟩ (show E.P.funcs[164]? = some Tryz.f164 from by kernel_rfl) (by kernel_rfl)
theorem k_q113 (N : Nat) : ConOk E ⟨99, ps_q113, rs_q113, q113 N⟩ := conOf envOk (x_q113 N) ⟨k_q112 N, trivial⟩ (show E.P.funcs[99]? = some Tryz.f99 from by kernel_rfl) (by kernel_rfl)
theorem k_q114 (N : Nat) : ConOk E ⟨58, ps_q114, rs_q114, q114 N⟩ := conOf envOk (x_q114 N) ⟨k_q107 N, k_q108 N, k_q109 N, k_q113 N, trivial⟩ (show E.P.funcs[58]? = some Tryz.f58 from by kernel_rfl) (by kernel_rfl)
theorem k_q115 (N : Nat) : ConOk E ⟨19, ps_q115, rs_q115, q115 N⟩ := conOf envOk (x_q115 N) ⟨k_q48 N, k_q114 N, trivial⟩ (show E.P.funcs[19]? = some Tryz.f19 from by kernel_rfl) (by kernel_rfl)
theorem k_q116 (N : Nat) : ConOk E ⟨165, ps_q116, rs_q116, q116 N⟩ := conOf envOk (x_q116 N) trivial (show E.P.funcs[165]? = some Tryz.f165 from by kernel_rfl) (by kernel_rfl)
theorem k_q117 (N : Nat) : ConOk E ⟨100, ps_q117, rs_q117, q117 N⟩ := conOf envOk (x_q117 N) ⟨k_q116 N, trivial⟩ (show E.P.funcs[100]? = some Tryz.f100 from by kernel_rfl) (by kernel_rfl)
theorem k_q118 (N : Nat) : ConOk E ⟨59, ps_q118, rs_q118, q118 N⟩ := conOf envOk (x_q118 N) ⟨k_q117 N, trivial⟩ (show E.P.funcs[59]? = some Tryz.f59 from by kernel_rfl) (by kernel_rfl)
theorem k_q119 (N : Nat) : ConOk E ⟨20, ps_q119, rs_q119, q119 N⟩ := conOf envOk (x_q119 N) ⟨k_q86 N, k_q118 N, trivial⟩ (show E.P.funcs[20]? = some Tryz.f20 from by kernel_rfl) (by kernel_rfl)
theorem k_q120 (N : Nat) : ConOk E ⟨53, ps_q120, rs_q120, q120 N⟩ := conOf envOk (x_q120 N) trivial (show E.P.funcs[53]? = some Tryz.f53 from by kernel_rfl) (by kernel_rfl)
theorem k_q121 (N : Nat) : ConOk E ⟨54, ps_q121, rs_q121, q121 N⟩ := conOf envOk (x_q121 N) trivial (show E.P.funcs[54]? = some Tryz.f54 from by kernel_rfl) (by kernel_rfl)
theorem k_q122 (N : Nat) : ConOk E ⟨217, ps_q122, rs_q122, q122 N⟩ := conOf envOk (x_q122 N) trivial (show E.P.funcs[217]? = some Tryz.f217 from by kernel_rfl) (by kernel_rfl)
theorem k_q123 (N : Nat) : ConOk E ⟨163, ps_q123, rs_q123, q123 N⟩ := conOf envOk (x_q123 N) ⟨k_q122 N, trivial⟩ (show E.P.funcs[163]? = some Tryz.f163 from by kernel_rfl) (by kernel_rfl)
theorem k_q124 (N : Nat) : ConOk E ⟨162, ps_q124, rs_q124, q124 N⟩ := conOf envOk (x_q124 N) ⟨k_q123 N, trivial⟩ (show E.P.funcs[162]? = some Tryz.f162 from by kernel_rfl) (by kernel_rfl)
theorem k_q125 (N : Nat) : ConOk E ⟨95, ps_q125, rs_q125, q125 N⟩ := conOf envOk (x_q125 N) ⟨k_q124 N, k_q123 N, trivial⟩ (show E.P.funcs[95]? = some Tryz.f95 from by kernel_rfl) (by kernel_rfl)
theorem k_q126 (N : Nat) : ConOk E ⟨56, ps_q126, rs_q126, q126 N⟩ := conOf envOk (x_q126 N) ⟨k_q125 N, trivial⟩ (show E.P.funcs[56]? = some Tryz.f56 from by kernel_rfl) (by kernel_rfl)
theorem k_q127 (N : Nat) : ConOk E ⟨55, ps_q127, rs_q127, q127 N⟩ := conOf envOk (x_q127 N) ⟨k_q126 N, trivial⟩ (show E.P.funcs[55]? = some Tryz.f55 from by kernel_rfl) (by kernel_rfl)
theorem k_q128 (N : Nat) : ConOk E ⟨57, ps_q128, rs_q128, q128 N⟩ := conOf envOk (x_q128 N) trivial (show E.P.funcs[57]? = some Tryz.f57 from by kernel_rfl) (by kernel_rfl)
theorem k_q129 (N : Nat) : ConOk E ⟨18, ps_q129, rs_q129, q129 N⟩ := conOf envOk (x_q129 N) ⟨k_q120 N, k_q121 N, k_q127 N, k_q126 N, k_q128 N, trivial⟩ (show E.P.funcs[18]? = some Tryz.f18 from by kernel_rfl) (by kernel_rfl)
theorem k_l21_TtmlNodes (N : Nat) : ConOk E ⟨3, ps_l21_TtmlNodes, rs_l21_TtmlNodes, l21_TtmlNodes N⟩ := conOf envOk (x_l21_TtmlNodes N) ⟨k_l21_awake N, k_l21_few N, k_q55 N, k_q94 N, k_q66 N, k_q103 N, k_q104 N, k_l21_equal N, k_q115 N, k_q119 N, k_q129 N, trivial⟩ (show E.P.funcs[3]? = some Tryz.f3 from by kernel_rfl) (by kernel_rfl)
end
end Go.Mo
end

section
/-
  Plain facts: what strings.Replace does at a letter.
-/
namespace Go.Mo
open Go Go.Lib
set_option maxRecDepth 100000
theorem ix_one (c : UInt8) : ∀ {p q : List UInt8}, c ∉ p → Lib.index (p ++ c :: q) [c] = (p.length : Int) := by
 intro p q h
 rw [Lib.index_one]
 induction p with
 | nil => simp [Lib.indexByte]
 | cons b p ih =>
  have hb : b ≠ c := fun e => h (by rw [e]; exact List.mem_cons_self)
  have hp := ih fun k => h (List.mem_cons_of_mem _ k)
  rw [List.cons_append]
  unfold Lib.indexByte
  rw [if_neg (by simpa using hb), if_neg (by rw [hp]; simp), hp, List.length_cons]
  omega
theorem ix_no (c : UInt8) : ∀ {p : List UInt8}, c ∉ p → Lib.index p [c] = -1 := by
 intro p h
 rw [Lib.index_one]
 induction p with
 | nil => rfl
 | cons b p ih =>
  have hb : b ≠ c := fun e => h (by rw [e]; exact List.mem_cons_self)
  have hp := ih fun k => h (List.mem_cons_of_mem _ k)
  unfold Lib.indexByte
  rw [if_neg (by simpa using hb), if_pos (by rw [hp]; rfl)]
theorem dr_one (c : UInt8) (p q : List UInt8) : (p ++ c :: q).drop (p.length + ([c] : List UInt8).length) = q := by
 rw [show p ++ c :: q = (p ++ [c]) ++ q by simp]
 exact List.drop_left' (by simp)
theorem sp_at (c : UInt8) : ∀ s : List UInt8, c ∉ s ∨ ∃ p q, s = p ++ c :: q ∧ c ∉ p
 | [] => .inl (by simp)
 | b :: s => by
  by_cases hb : b = c
  ·exact .inr ⟨[], s, by rw [hb]; rfl, by simp⟩
  ·rcases sp_at c s with h | ⟨p, q, h1, h2⟩
   ·exact .inl (by simp only [List.mem_cons, not_or]; exact ⟨fun e => hb e.symm, h⟩)
   ·exact .inr ⟨b :: p, q, by rw [h1]; rfl, by simp only [List.mem_cons, not_or]; exact ⟨fun e => hb e.symm, h2⟩⟩
def sub1 (c : UInt8) (r : List UInt8) (b : UInt8) : List UInt8 := if b = c then r else [b]
theorem sub1_no {c : UInt8} {r : List UInt8} : ∀ {p : List UInt8}, c ∉ p → p.flatMap (sub1 c r) = p
 | [], _ => rfl
 | b :: p, h => by
  have hb : b ≠ c := fun e => h (by rw [e]; exact List.mem_cons_self)
  rw [List.flatMap_cons, sub1_no fun k => h (List.mem_cons_of_mem _ k)]
  unfold sub1
  rw [if_neg hb]
  rfl
theorem repK_one (c : UInt8) (r : List UInt8) : ∀ (n : Nat) (s : List UInt8), s.length ≤ n → replaceK [c] r (count s [c]) s = s.flatMap (sub1 c r)
 | n, s, hn => by
  rcases sp_at c s with h | ⟨p, q, h1, h2⟩
  ·rw [Lib.count_miss (ix_no c h), sub1_no h]
   rfl
  ·have hi := ix_one c (q := q) h2
   subst h1
   match n, hn with
   | n + 1, hn =>
    have ih := repK_one c r n q (by simp at hn; omega)
    rw [Lib.count_hit (by simp) hi, dr_one, Nat.add_comm, Lib.replaceK_hit _ _ _ _ _ hi, dr_one, ih, List.take_left, List.flatMap_append, List.flatMap_cons, sub1_no h2]
    simp [sub1]
   | 0, hn => simp at hn
theorem replace_flat (c : UInt8) (r s : List UInt8) (h : r ≠ [c]) : replace s [c] r (-1) = s.flatMap (sub1 c r) := by
 unfold replace replaceNum
 rw [if_neg (by simpa using fun e => h e.symm), if_pos (Or.inl (by decide))]
 exact repK_one c r _ s (Nat.le_refl _)
theorem flat_len {f : UInt8 → List UInt8} {k : Nat} (h : ∀ b, (f b).length ≤ k) : ∀ s : List UInt8, (s.flatMap f).length ≤ k * s.length
 | [] => by simp
 | b :: s => by
  have := h b
  have := flat_len h s
  rw [List.flatMap_cons, List.length_append, List.length_cons, Nat.mul_add]
  omega
end Go.Mo
namespace Go.Mo
open Go Go.Lib
def escB (b : UInt8) : List UInt8 := if b = 38 then [38, 97, 109, 112, 59] else if b = 60 then [38, 108, 116, 59] else if b = 62 then [38, 103, 116, 59] else if b = 34 then [38, 113, 117, 111, 116, 59] else if b = 39 then [38, 97, 112, 111, 115, 59] else [b]
def esc (s : List UInt8) : List UInt8 := s.flatMap escB
theorem escB_len (b : UInt8) : 1 ≤ (escB b).length ∧ (escB b).length ≤ 6 := by
 unfold escB
 repeat' split
 all_goals simp
theorem esc_five (s : List UInt8) : ((((s.flatMap (sub1 38 [38, 97, 109, 112, 59])).flatMap (sub1 60 [38, 108, 116, 59])).flatMap (sub1 62 [38, 103, 116, 59])).flatMap (sub1 34 [38, 113, 117, 111, 116, 59])).flatMap (sub1 39 [38, 97, 112, 111, 115, 59]) = esc s := by
 unfold esc
 rw [List.flatMap_assoc, List.flatMap_assoc, List.flatMap_assoc, List.flatMap_assoc]
 congr 1
 funext b
 unfold escB
 by_cases h1 : b = 38
 ·subst h1; decide
 by_cases h2 : b = 60
 ·subst h2; decide
 by_cases h3 : b = 62
 ·subst h3; decide
 by_cases h4 : b = 34
 ·subst h4; decide
 by_cases h5 : b = 39
 ·subst h5; decide
 simp [sub1, h1, h2, h3, h4, h5]
end Go.Mo
end
