/-
  Get, in plain Lean.
-/
import Derived.Test.YtcccboodapgejaaTapeI
namespace Go.Proofs.Ytcccboodapgejaa
open Go.Sym

theorem ixV_le (bs : List UInt8) (x : UInt8) : ixV bs x ≤ (bs.length : Int) := by
  unfold ixV firstIdx
  have hs : (⟨bs.toArray⟩ : ByteArray).size = bs.length := by simp [ByteArray.size]
  rw [hs]
  split
  · rename_i i hi
    have h1 := List.mem_of_find?_eq_some hi
    simp only [List.mem_range] at h1
    omega
  · omega
theorem ixV_lt (bs : List UInt8) (x : UInt8) : 0 ≤ ixV bs x → ixV bs x < (bs.length : Int) := by
  unfold ixV firstIdx
  have hs : (⟨bs.toArray⟩ : ByteArray).size = bs.length := by simp [ByteArray.size]
  rw [hs]
  split
  · rename_i i hi
    have h1 := List.mem_of_find?_eq_some hi
    simp only [List.mem_range] at h1
    omega
  · omega
/-- how many bytes stand ahead of the first x -/
def cutN (bs : List UInt8) (x : UInt8) : Nat := if decide (0 ≤ ixV bs x) = true then (ixV bs x).toNat else bs.length
theorem cutN_le (bs : List UInt8) (x : UInt8) : cutN bs x ≤ bs.length := by
  have := ixV_le bs x
  unfold cutN
  split <;> omega
theorem byte_back (x : UInt8) : (Int.toNat ((x.toNat : Nat) : Int)).toUInt8 = x := by simp
def at8 (bs : List UInt8) (i : Nat) : Int := ((bs.getD i 0).toNat : Int)
theorem at8_bd (bs : List UInt8) (i : Nat) : 0 ≤ ((bs.getD i 0).toNat : Int) ∧ ((bs.getD i 0).toNat : Int) ≤ 255 := by
  have := (bs.getD i 0).toNat_lt
  omega
def lblOf (bs : List UInt8) : Lbl := ⟨at8 bs 0, at8 bs 1, at8 bs 2, at8 bs 3, false⟩
def getB (bs : List UInt8) : Blk := ⟨at8 bs 0, bits .or .i64 (at8 bs 1) (at8 bs 2 * 256), at8 bs 3, at8 bs 4, lblOf (bs.drop 5), lblOf (bs.drop 9), at8 bs 13, at8 bs 14, at8 bs 15 == 1⟩
def getT (bs : List UInt8) : List UInt8 := (bs.drop 16).take (cutN (bs.drop 16) 143)

def Blk.u8s (b : Blk) : Prop := (0 ≤ b.e ∧ b.e ≤ 255) ∧ (0 ≤ b.t ∧ b.t ≤ 255) ∧ (0 ≤ b.a ∧ b.a ≤ 255)
def hdrB (b : Blk) : List UInt8 := [u8 b.g, u8 b.n, u8 (b.n / 256), u8 b.e, u8 b.t, u8 b.i.h, u8 b.i.m, u8 b.i.s, u8 b.i.f, u8 b.o.h, u8 b.o.m, u8 b.o.s, u8 b.o.f, u8 b.r, u8 b.a, if b.c = true then 1 else 0]
def putB (b : Blk) (t : List UInt8) : List UInt8 := if checkV b t = 0 then hdrB b ++ t ++ List.replicate (128 - (16 + t.length)) 143 else []
theorem hdr_bytes {b : Blk} (h : b.u8s) : hdrC b = byC (hdrB b) := by
  obtain ⟨h1, h2, h3⟩ := h
  have e1 : b.e = b.e % 256 := by omega
  have e2 : b.t = b.t % 256 := by omega
  have e3 : b.a = b.a % 256 := by omega
  unfold hdrC hdrB byC
  simp only [List.map_cons, List.map_nil, u8_val]
  rw [← e1, ← e2, ← e3]
  cases b.c <;> rfl
theorem put_bytes {b : Blk} (h : b.u8s) (t : List UInt8) : putC b t = byC (putB b t) := by
  unfold putC putB
  split
  · rw [hdr_bytes h, byC_append, byC_append]
  · rfl
theorem putB_len (b : Blk) (t : List UInt8) : (putB b t).length = putN b t := by
  unfold putB putN
  split
  · rename_i h
    have := checkV_len h
    simp [hdrB]
    omega
  · rfl
theorem getB_u8s (bs : List UInt8) : (getB bs).u8s := ⟨at8_bd bs 3, at8_bd bs 4, at8_bd bs 14⟩
theorem put_look {b : Blk} (h : b.u8s) (t : List UInt8) {A : Option Addr} {c : Nat} {w w' : World} (hn : NewOk w w' [.row A c 5 1 (putN b t) (putC b t)]) : NewOk w w' [.view A (putB b t).length c 1 (byE (putB b t))] := by
  refine hn.look fun r' hr' => ?_
  simp only [List.mem_singleton] at hr'
  subst hr'
  refine ⟨rfl, _, List.mem_singleton.2 rfl, fun hr => ?_, fun b ⟨_, hb⟩ => hb⟩
  rw [put_bytes h, ← putB_len] at hr
  exact row_view hr (by_rowN _ rfl)
theorem putV_c (b : Blk) (h : b.u8s) (A : Option Addr) (n c : Nat) (t : List UInt8) (hl : t.length = n) : CallOk Try.prog 18 [.agg #[.int .i64 b.g, .int .i64 b.n, .int .u8 b.e, .int .u8 b.t, .int .i64 b.i.h, .int .i64 b.i.m, .int .i64 b.i.s, .int .i64 b.i.f, .bool b.i.d, .int .i64 b.o.h, .int .i64 b.o.m, .int .i64 b.o.s, .int .i64 b.o.f, .bool b.o.d, .int .i64 b.r, .int .u8 b.a, .bool b.c, .slice A n c]] [.view A n c 1 (byE t)] (U := Option Addr × Nat) (fun u => .tuple #[.slice u.1 (putB b t).length u.2, .int .i64 (checkV b t)]) (fun u => [.view u.1 (putB b t).length u.2 1 (byE (putB b t))]) (fun _ => True) :=
  (put_c b A n c t hl).mono (fun _ h => h) fun u _ => ⟨u, by rw [putB_len], trivial, fun _ _ hn => put_look h t hn⟩
theorem refPutV_c (b : Blk) (h : b.u8s) (A : Option Addr) (n c : Nat) (t : List UInt8) (hl : t.length = n) : CallOk Try.prog 19 [.agg #[.int .i64 b.g, .int .i64 b.n, .int .u8 b.e, .int .u8 b.t, .int .i64 b.i.h, .int .i64 b.i.m, .int .i64 b.i.s, .int .i64 b.i.f, .bool b.i.d, .int .i64 b.o.h, .int .i64 b.o.m, .int .i64 b.o.s, .int .i64 b.o.f, .bool b.o.d, .int .i64 b.r, .int .u8 b.a, .bool b.c, .slice A n c]] [.view A n c 1 (byE t)] (U := Option Addr × Nat) (fun u => .tuple #[.slice u.1 (putB b t).length u.2, .int .i64 (checkV b t)]) (fun u => [.view u.1 (putB b t).length u.2 1 (byE (putB b t))]) (fun _ => True) :=
  (refPut_c b A n c t hl).mono (fun _ h => h) fun u _ => ⟨u, by rw [putB_len], trivial, fun _ _ hn => put_look h t hn⟩

def zB : Blk := ⟨0, 0, 0, 0, ⟨0, 0, 0, 0, false⟩, ⟨0, 0, 0, 0, false⟩, 0, 0, false⟩
def getE (bs : List UInt8) : Int :=
  if (((bs.length : Nat) : Int) != 128) = true then 4
  else if (checkV (getB bs) (getT bs) != 0) = true then 4
  else if (!decide (bs = putB (getB bs) (getT bs))) = true then 4
  else 0
def getRB (bs : List UInt8) : Blk := if getE bs = 0 then getB bs else zB
def getRT (bs : List UInt8) : List UInt8 := if getE bs = 0 then getT bs else []
theorem getRB_u8s (bs : List UInt8) : (getRB bs).u8s := by
  unfold getRB
  split
  · exact getB_u8s bs
  · unfold Blk.u8s zB; simp
section
open Go.RowKit
variable {w0 w : World} {ns rs : List Res}
theorem get_fin0 (hH : Hp w0 ns rs w) (bs : List UInt8) (hE : getE bs = 4) :
    ∃ u : Option Addr × Nat, Ending.returned (.tuple #[.agg #[.int .i64 zB.g, .int .i64 zB.n, .int .u8 zB.e, .int .u8 zB.t, .int .i64 zB.i.h, .int .i64 zB.i.m, .int .i64 zB.i.s, .int .i64 zB.i.f, .bool zB.i.d, .int .i64 zB.o.h, .int .i64 zB.o.m, .int .i64 zB.o.s, .int .i64 zB.o.f, .bool zB.o.d, .int .i64 zB.r, .int .u8 zB.a, .bool zB.c, .slice none 0 0], .int .i64 4]) = .returned (.tuple #[.agg #[.int .i64 (getRB bs).g, .int .i64 (getRB bs).n, .int .u8 (getRB bs).e, .int .u8 (getRB bs).t, .int .i64 (getRB bs).i.h, .int .i64 (getRB bs).i.m, .int .i64 (getRB bs).i.s, .int .i64 (getRB bs).i.f, .bool (getRB bs).i.d, .int .i64 (getRB bs).o.h, .int .i64 (getRB bs).o.m, .int .i64 (getRB bs).o.s, .int .i64 (getRB bs).o.f, .bool (getRB bs).o.d, .int .i64 (getRB bs).r, .int .u8 (getRB bs).a, .bool (getRB bs).c, .slice u.1 (getRT bs).length u.2], .int .i64 (getE bs)]) ∧ Below w0.heap.size w0 w ∧ True ∧ NewOk w0 w [.view u.1 (getRT bs).length u.2 1 (byE (getRT bs))] := by
  have h1 : getRB bs = zB := by unfold getRB; rw [hE]; rfl
  have h2 : getRT bs = [] := by unfold getRT; rw [hE]; rfl
  refine ⟨(none, 0), by rw [h1, h2, hE]; rfl, hH.below, trivial, ?_⟩
  rw [h2]
  exact ⟨fun r hr => by simp at hr; subst hr; exact ⟨⟨Nat.le_refl _, Nat.zero_le _, fun hn => absurd hn (by simp)⟩, fun b ⟨h0, _⟩ => absurd h0 (by simp)⟩, by simp⟩
theorem get_fin1 (hH : Hp w0 ns rs w) (bs : List UInt8) (hE : getE bs = 0) {k m c : Nat} {A : Option Addr} (hk : rs[k]? = some (.view A m c 1 (byE (getT bs)))) (hm : (getT bs).length = m) :
    ∃ u : Option Addr × Nat, Ending.returned (.tuple #[.agg #[.int .i64 (getB bs).g, .int .i64 (getB bs).n, .int .u8 (getB bs).e, .int .u8 (getB bs).t, .int .i64 (getB bs).i.h, .int .i64 (getB bs).i.m, .int .i64 (getB bs).i.s, .int .i64 (getB bs).i.f, .bool (getB bs).i.d, .int .i64 (getB bs).o.h, .int .i64 (getB bs).o.m, .int .i64 (getB bs).o.s, .int .i64 (getB bs).o.f, .bool (getB bs).o.d, .int .i64 (getB bs).r, .int .u8 (getB bs).a, .bool (getB bs).c, .slice A m c], .int .i64 0]) = .returned (.tuple #[.agg #[.int .i64 (getRB bs).g, .int .i64 (getRB bs).n, .int .u8 (getRB bs).e, .int .u8 (getRB bs).t, .int .i64 (getRB bs).i.h, .int .i64 (getRB bs).i.m, .int .i64 (getRB bs).i.s, .int .i64 (getRB bs).i.f, .bool (getRB bs).i.d, .int .i64 (getRB bs).o.h, .int .i64 (getRB bs).o.m, .int .i64 (getRB bs).o.s, .int .i64 (getRB bs).o.f, .bool (getRB bs).o.d, .int .i64 (getRB bs).r, .int .u8 (getRB bs).a, .bool (getRB bs).c, .slice u.1 (getRT bs).length u.2], .int .i64 (getE bs)]) ∧ Below w0.heap.size w0 w ∧ True ∧ NewOk w0 w [.view u.1 (getRT bs).length u.2 1 (byE (getRT bs))] := by
  have h1 : getRB bs = getB bs := by unfold getRB; rw [if_pos hE]
  have h2 : getRT bs = getT bs := by unfold getRT; rw [if_pos hE]
  subst hm
  refine ⟨(A, c), by rw [h1, h2, hE], hH.below, trivial, ?_⟩
  rw [h2]
  exact newOf hH hk
end
end Go.Proofs.Ytcccboodapgejaa
