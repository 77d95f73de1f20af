/-
  Texts put together, in build order: WRa WRb WRc WRd WRe WE WM WB WV WS WH WXa WXb WXc WK XA.
-/
import Derived.Test.YtpblmlldkpkomaaGreatDoorProg
import Derived.WalkKit
import Derived.WalkSpells
import Derived.LoopTactic
import Derived.Below
import Derived.Lib.Hide
import Derived.Lib.LazyBuf
import Derived.Lib.ConvBytes
import Derived.Laws.BytesArg
import Derived.Laws.LoneSync
import Derived.Defers
import Derived.Tactics
import Derived.Tactics2
import Derived.Test.YtpblmlldkpkomaaGreatDoorYsC
import Derived.Laws.Rows
import Derived.Deep.WholeRow
import Derived.Laws.Pointers
import Derived.RegionTactic
import Derived.RegionCalls
import Derived.KernelRfl
import GoSem.PinnedTables
import Derived.Test.YtpblmlldkpkomaaGreatDoorChecked
import Derived.Lib.UnsafeStr
import Derived.Lib.Builder
import Derived.Lib.Walk
import Derived.Laws.Externs
import Derived.OrdersHeld
import Derived.Shelf.Unicode.ValidAny
import Derived.Shelf.Strings.Search3
import Derived.Shelf.Strings.Replace
import Derived.Shelf.Strconv.Itoa3
import Derived.Lib.AppendIntMem
import Derived.Shelf.Strconv.ParseIntPublic10
import Derived.Lib.Replace
import Derived.Lib.CountLaws
import Derived.Lib.IndexMore
set_option linter.all false

section
set_option linter.all false
namespace Go.Mo
open Go Go.W Go.Proofs Go.RowKit
theorem A8(x:UInt8):flatB x=x∨(flatB x=32∧x≠32):=by
 unfold flatB
 by_cases h1:x=9
 ·subst h1; exact .inr (by decide)
 by_cases h2:x=10
 ·subst h2; exact .inr (by decide)
 by_cases h3:x=13
 ·subst h3; exact .inr (by decide)
 left
 have e1:(x==9)=false:=by simpa using h1
 have e2:(x==10)=false:=by simpa using h2
 have e3:(x==13)=false:=by simpa using h3
 rw[e1,e2,e3];rfl
def KA(B n:Nat) (bs:Y_) (v:Value) (wr:World):Prop:=∃c cap,v=.slice (some ⟨c,0,none⟩) n cap∧B≤c∧c<wr.heap.size∧(∀j,j<n→wr.cell? ⟨c,j,none⟩=some (.int .u8 ((bs.getD j 0).toNat:Nat)))∧(∀j,j<n→wr.frozen? ⟨c,j,none⟩=false)
def aMO(w:World) (n:Nat) (l:Y_) (v i:Value) (wr:World):Prop:=∃k:Nat,k≤l.length∧i=.int .i64 k∧Below w.heap.size w wr∧((v=.slice none 0 0∧(l.take k).map flatB=l.take k)∨KA w.heap.size n ((l.take k).map flatB++l.drop k) v wr)
theorem KB(l:Y_) (f:UInt8→UInt8) (k:Nat) (h:k<l.length):(l.take (k+1)).map f++l.drop (k+1)=((l.take k).map f++l.drop k).set k (f l[k]):=by
 have h1:((l.take k).map f).length=k:=by simp; omega
 rw[aM4 h,aNE h,aPJ,aOQ,aNW _ _ (by omega),h1,aP3];rfl
theorem A9(l:Y_) (f:UInt8→UInt8) (k:Nat) (h:k<l.length) (he:f l[k]=l[k]):(l.take (k+1)).map f++l.drop (k+1)=(l.take k).map f++l.drop k:=by
 rw[aM4 h,aNE h,aPJ,aOQ];simp[he]
theorem N4(l:Y_) (f:UInt8→UInt8) (k:Nat) (h:k<l.length) (hp:(l.take k).map f=l.take k) (he:f l[k]=l[k]):(l.take (k+1)).map f=l.take (k+1):=by
 rw[aM4 h,aPJ,hp];simp[he]
theorem aAQ(l:Y_) (f:UInt8→UInt8) (k:Nat) (hp:(l.take k).map f=l.take k):(l.take k).map f++l.drop k=l:=by
 rw[hp,aNU]
theorem WR{B n k:Nat}{bs:Y_}{c cap:Nat}{wr:World}(y:UInt8) (hk:k<bs.length) (h:KA B n bs (.slice (some ⟨c,0,none⟩) n cap) wr):KA B n (bs.set k y) (.slice (some ⟨c,0,none⟩) n cap) (wr.setCell ⟨c,k,none⟩ (.int .u8 (y.toNat:Nat))):=by
 obtain⟨c',cap',e,h1,h2,h3,h4⟩:=h;simp only[Value.slice.injEq,Option.some.injEq,Addr.mk.injEq,and_true,true_and] at e;obtain⟨rfl,rfl⟩:=e;refine⟨c,cap,rfl,h1,by simpa [World.setCell] using h2,fun j hj=>?_,fun j hj=>by rw[aNX]; exact h4 j hj⟩
 by_cases e:j=k
 ·subst e;rw[World.cell?_setCell_same _ _ _ (h3 j hj)];simp[List.getD,hk]
 ·rw[aNF _ _ _ _ (by simp<;>omega),h3 j hj];simp[List.getD,Ne.symm e]
theorem aAR{B:Nat}(s:ByteArray) (wr:World) (hB:B≤wr.heap.size):KA B s.size s.data.toList (.slice (some ⟨wr.heap.size,0,none⟩) s.size (grownCap wr s.size 0 5)) (Lib.bytesWorld wr 5 s):=by
 refine⟨_,_,rfl,hB,by rw[Lib.bytesWorld_size]; omega,fun j hj=>Lib.bytesWorld_cell wr 5 s j hj,fun j hj=>?_⟩
 have h1:=Lib.bytesWorld_at_new wr 5 s
 have h2:s.size≤(Lib.bytesCells wr 5 s).size:=by
  unfold Lib.bytesCells;rw[Array.size_append,Array.size_map];exact Nat.le_add_right _ _
 unfold World.frozen?;simp only[h1];generalize (Lib.bytesCells wr 5 s).size=z at h2
 have:¬z≤j:=by omega
 simp[this]
theorem B0{B:Nat}{w wr:World}(s:ByteArray) (h:Below B w wr) (hB:B≤wr.heap.size):Below B w (Lib.bytesWorld wr 5 s) :=
 h.trans ⟨rfl,rfl,rfl,by rw[Lib.bytesWorld_size]; omega,fun k hk=>Lib.bytesWorld_at_old wr 5 s k (by omega)⟩
theorem N5(l:Y_):strOfNums (l.map fun x=>(x.toNat:Int))=⟨l.toArray⟩:=by
 unfold strOfNums;rw[List.map_map]
 have:((fun n:Int=>UInt8.ofNat n.toNat) ∘ fun x:UInt8=>(x.toNat:Int))=id:=by funext x; simp
 rw[this,List.map_id]
set_option maxHeartbeats 4000000 in
set_option maxRecDepth 1000000 in
theorem aD3(b:Nat) (s:ByteArray) (w:World) (hb:b<w.heap.size) (hs:s.size≤4294967281) (htab:∀x:UInt8,w.cell? ⟨b,x.toNat,none⟩=some (.int .u8 (flatB x).toNat)) :
  Calls Tryz.prog 371 #[.pointer (some ⟨b,0,none⟩),.string s] w fun e w'=>e=.returned (.string ⟨(s.data.toList.map flatB).toArray⟩)∧Below w.heap.size w w':=by
 have HT:=Lib.hid htab
 clear htab
 have HB:=Lib.hid hb
 go_enter Tryz.func371,Tryz.ntmps371
 go_wp2
 go_loopw [5,6] (fun v i wr=>aMO w s.size s.data.toList v i wr) (fun _ i _=>s.size-(intOf i).toNat)
 case atStart=>exact⟨0,aP7 _,rfl,Below.refl _ _,.inl ⟨rfl,rfl⟩⟩
 case round =>
  obtain⟨k,hk,rfl,hbel,hor⟩:=hrel
  have hn:s.data.toList.length=s.size:=(Lib.size_eq s).symm
  have HNl:=Lib.hid hn
  clear hn
  have hkl:k≤s.size:=by have:=HNl.out; omega
  have hBw:=hbel.size
  by_cases hlt:k<s.size
  ·have hlk:k<s.data.toList.length:=by have:=HNl.out; omega
   have ht:=HT.out (s[k]'hlt)
   have hc1:wr.cell? ⟨b,(s[k]'hlt).toNat,none⟩=some (.int .u8 (flatB (s[k]'hlt)).toNat):=(hbel.cell (p:=⟨b,(s[k]'hlt).toNat,none⟩) HB.out).trans ht
   clear ht
   have hx:((s[k]'hlt).toNat:Int)<256:=by have:=(s[k]'hlt).toNat_lt; omega
   have hget:s.data.toList[k]'hlk=s[k]'hlt:=rfl
   have HG:=Lib.hid hget
   clear hget
   rcases A8 (s[k]'hlt) with hd|⟨hd,hne⟩
   ·
    rw[hd] at hc1
    have HD:=Lib.hid hd
    clear hd
    rcases hor with⟨rfl,hpre⟩|hbuf
    ·have HP:=Lib.hid hpre
     clear hpre
     go_wp2
     go_roundw
     case rel=>exact⟨k+1,hlk,by go_num,hbel,.inl ⟨rfl,N4 _ _ k hlk HP.out (by rw[HG.out]; exact HD.out)⟩⟩
     case measure=>simp[intOf]; omega
    ·have HP:=Lib.hid hbuf
     clear hbuf
     go_wp2
     go_roundw
     case rel=>exact⟨k+1,hlk,by go_num,hbel,.inr (by rw[A9 _ _ k hlk (by rw[HG.out]; exact HD.out)]; exact HP.out)⟩
     case measure=>simp[intOf]; omega
   ·rw[hd] at hc1
    have hc1:wr.cell? ⟨b,(s[k]'hlt).toNat,none⟩=some (.int .u8 32):=hc1
    have HD:=Lib.hid hd
    clear hd
    have hne':((32:Int) != ((s[k]'hlt).toNat:Int))=true:=by
     simp only[bne_iff_ne,ne_eq];intro e;exact hne (UInt8.toNat_inj.1 (by show _=32; omega))
    have HN:=Lib.hid hne
    clear hne
    rcases hor with⟨rfl,hpre⟩|hbuf
    ·have HP:=Lib.hid hpre
     clear hpre
     have hnl:=fun w=>run_eql_slice_nil (P:=Tryz.prog) w 129 5 none 0 0 Tryz.underlying129
     have hcv:=Lib.run_convert_string_bytes (P:=Tryz.prog) wr 9 129 5 s Tryz.underlying9 Tryz.underlying129 Tryz.underlying5
     have hc2:(Lib.bytesWorld wr 5 s).cell? ⟨b,(s[k]'hlt).toNat,none⟩=some (.int .u8 32):=(Lib.bytesWorld_old wr 5 s _ (by show b<wr.heap.size; have:=HB.out; omega)).trans hc1
     have hbn:=aAR (B:=w.heap.size) s wr hBw
     have hc3:=Lib.bytesWorld_cell wr 5 s k hlt
     have hc4:(Lib.bytesWorld wr 5 s).frozen? ⟨wr.heap.size,k,none⟩=false:=by
      obtain⟨c,cap,e,_,_,_,h4⟩:=hbn;simp only[Value.slice.injEq,Option.some.injEq,Addr.mk.injEq,and_true,true_and] at e;obtain⟨⟨rfl,_⟩,_⟩:=e;exact h4 k hlt
     have hbb:=B0 s hbel hBw
     have HBn:=Lib.hid hbn
     clear hbn
     go_wp2
     go_roundw
     case rel =>
      refine⟨k+1,hlk,by go_num,hbb.setCell (by exact hBw) _,.inr ?_⟩
      have h1:=KB s.data.toList flatB k hlk
      rw[aAQ _ _ k HP.out,HG.out,HD.out] at h1;rw[h1];exact WR 32 hlk HBn.out
     case measure=>simp[intOf]; omega
    ·obtain⟨c,cap,rfl,q1,q2,q3,q4⟩:=hbuf
     have hnl:=fun w=>run_eql_slice_nil (P:=Tryz.prog) w 129 5 (some ⟨c,0,none⟩) s.size cap Tryz.underlying129
     have hc3:=q3 k hlt
     have hc4:=q4 k hlt
     have hQ:KA w.heap.size s.size ((s.data.toList.take k).map flatB++s.data.toList.drop k) (.slice (some ⟨c,0,none⟩) s.size cap) wr:=⟨c,cap,rfl,q1,q2,q3,q4⟩
     have HQ:=Lib.hid hQ
     clear hQ q3 q4
     go_wp2
     go_roundw
     case rel =>
      refine⟨k+1,hlk,by go_num,hbel.setCell (by exact q1) _,.inr ?_⟩
      have h1:=KB s.data.toList flatB k hlk
      rw[HG.out,HD.out] at h1;rw[h1];exact WR 32 (by simp; omega) HQ.out
     case measure=>simp[intOf]; omega
  ·rcases hor with⟨rfl,hpre⟩|hbuf
   ·have HP:=Lib.hid hpre
    clear hpre
    have hnl:=fun w=>run_eql_slice_nil (P:=Tryz.prog) w 129 5 none 0 0 Tryz.underlying129
    go_wp2
    go_ret
    refine⟨?_,hbel⟩
    have h1:=HP.out
    rw[aNM (by have:=HNl.out; omega)] at h1;rw[h1,Lib.mk_data];rfl
   ·obtain⟨c,cap,rfl,q1,q2,q3,q4⟩:=hbuf
    have hnl:=fun w=>run_eql_slice_nil (P:=Tryz.prog) w 129 5 (some ⟨c,0,none⟩) s.size cap Tryz.underlying129
    have h0:(s.data.toList.take k).map flatB++s.data.toList.drop k=s.data.toList.map flatB:=by
     rw[aNM (by have:=HNl.out; omega),List.drop_of_length_le (by have:=HNl.out; omega),aPB]
    rw[h0] at q3
    clear h0
    have hcv:=run_convert_bytes_arg (P:=Tryz.prog) wr 129 5 Tryz.underlying129 Tryz.underlying5 c 0 s.size cap ((s.data.toList.map flatB).map fun x=>(x.toNat:Int)) (by rw[aPI,aPI]; exact HNl.out) (fun i hi=>by
     have h1:i<s.data.toList.length:=by have:=HNl.out; omega
     rw[aPY,q3 i hi]
     have h2:i<(s.data.toList.map flatB).length:=by simpa using h1
     rw[aNA,aNA,aOU (f:=fun x:UInt8=>(x.toNat:Int)),aNH h2];rfl) 9 Tryz.underlying9
    have hstr:strOfNums ((s.data.toList.map flatB).map fun x=>(x.toNat:Int))=⟨(s.data.toList.map flatB).toArray⟩:=by
     exact N5 _
    rw[hstr] at hcv
    clear hstr
    have HC:=Lib.hid q3
    clear q3
    go_wp2
    go_ret
    exact⟨rfl,hbel⟩
theorem N6(b:UInt8):flatB b=cond (b==9) 32 (cond (b==10) 32 (cond (b==13) 32 b)):=by
 unfold flatB aO;cases (b==9)<;>cases (b==10)<;>cases (b==13)<;>rfl
def N7(B k:Nat) (wr:World):Prop:=∃cur:Array Value,wr.heap[B]?=some (.cells cur 346 (0,0))∧cur.size=256∧∀j,j<k→cur[j]?=some (.int .u8 (j:Nat))
def uN(k:Nat) (x:UInt8):UInt8:=match k with
 | 0=>flatB x
 | 1=>cond (x==10) 32 (cond (x==13) 32 x)
 | 2=>cond (x==13) 32 x
 |_=>x
def nY(B k:Nat) (wr:World):Prop:=∃cur:Array Value,wr.heap[B]?=some (.cells cur 346 (0,0))∧cur.size=256∧∀x:UInt8,cur[x.toNat]?=some (.int .u8 ((uN k x).toNat:Nat))
def sT(w:World) (g:Nat):Prop:=∀j v,#[Value.string ⟨#[9]⟩,.string ⟨#[32]⟩,.string ⟨#[10]⟩,.string ⟨#[32]⟩,.string ⟨#[13]⟩,.string ⟨#[32]⟩][j]?=some v→w.cell? ⟨g,j,none⟩=some v
theorem B1{B k j:Nat}{wr:World}(h:N7 B k wr) (hj:j<256):(∃v,wr.cell? ⟨B,j,none⟩=some v)∧wr.frozen? ⟨B,j,none⟩=false:=by
 obtain⟨cur,h1,h2,_⟩:=h;refine⟨⟨cur[j]'(by omega),?_⟩,?_⟩
 ·simp[World.cell?,h1,h2,hj]
 ·simp[World.frozen?,h1]
theorem N8{B k:Nat}{wr:World}(h:N7 B k wr) (hk:k<256):N7 B (k+1) (wr.setCell ⟨B,k,none⟩ (.int .u8 (k:Nat))):=by
 obtain⟨cur,h1,h2,h3⟩:=h;refine⟨cur.setIfInBounds k (.int .u8 (k:Nat)),heap_setCell_same wr B k cur 346 _ h1,by simpa using h2,fun j hj=>?_⟩;rw[Array.getElem?_setIfInBounds]
 by_cases e:k=j
 ·subst e;rw[if_pos rfl,if_pos (by omega)]
 ·rw[if_neg e];exact h3 j (by omega)
theorem aD4{B:Nat}{wr:World}(h:N7 B 256 wr):nY B 3 wr:=by
 obtain⟨cur,h1,h2,h3⟩:=h;exact⟨cur,h1,h2,fun x=>h3 x.toNat x.toNat_lt⟩
theorem uO{B k j:Nat}{wr:World}(h:nY B k wr) (hj:j<256):(∃v,wr.cell? ⟨B,j,none⟩=some v)∧wr.frozen? ⟨B,j,none⟩=false:=by
 obtain⟨cur,h1,h2,_⟩:=h;refine⟨⟨cur[j]'(by omega),?_⟩,?_⟩
 ·simp[World.cell?,h1,h2,hj]
 ·simp[World.frozen?,h1]
theorem yP{B k:Nat}{wr:World}(b y:UInt8) (h:nY B (k+1) wr) (ht:∀x,uN k x=if x=b then y else uN (k+1) x):nY B k (wr.setCell ⟨B,b.toNat,none⟩ (.int .u8 (y.toNat:Nat))):=by
 obtain⟨cur,h1,h2,h3⟩:=h;refine⟨cur.setIfInBounds b.toNat (.int .u8 (y.toNat:Nat)),heap_setCell_same wr B b.toNat cur 346 _ h1,by simpa using h2,fun x=>?_⟩;rw[Array.getElem?_setIfInBounds,ht x]
 by_cases e:x=b
 ·subst e;rw[if_pos rfl,if_pos (by rw[h2]; exact x.toNat_lt),if_pos rfl]
 ·rw[if_neg (fun k=>e (UInt8.toNat_inj.1 k.symm)),if_neg e];exact h3 x
theorem tk2:∀x,uN 2 x=if x=13 then 32 else uN 3 x:=fun x=>by
 by_cases e:x=13
 ·subst e; rfl
 ·have e':(x==13)=false:=by simpa using e
  rw[if_neg e];simp[uN,e']
theorem tk1:∀x,uN 1 x=if x=10 then 32 else uN 2 x:=fun x=>by
 by_cases e:x=10
 ·subst e; rfl
 ·have e':(x==10)=false:=by simpa using e
  rw[if_neg e];simp[uN,e']
theorem tk0:∀x,uN 0 x=if x=9 then 32 else uN 1 x:=fun x=>by
 by_cases e:x=9
 ·subst e; rfl
 ·have e':(x==9)=false:=by simpa using e
  rw[if_neg e];simp[uN,N6,e']
set_option maxHeartbeats 4000000 in
set_option maxRecDepth 1000000 in
theorem B2(b g cap:Nat) (w:World) (hb:b<w.heap.size) (hg:g<w.heap.size) (hold:w.cell? ⟨b,4,none⟩=some (.slice (some ⟨g,0,none⟩) 6 cap)) (h6:sT w g) :
  Calls Tryz.prog 314 #[.pointer (some ⟨b,0,none⟩)] w fun e w'=>e=.returned (.iface 347 (.pointer (some ⟨w.heap.size,0,none⟩)))∧Below w.heap.size w w'∧nY w.heap.size 0 w':=by
 have c0:=h6 0 (.string ⟨#[9]⟩) rfl
 have c1:=h6 1 (.string ⟨#[32]⟩) rfl
 have c2:=h6 2 (.string ⟨#[10]⟩) rfl
 have c3:=h6 3 (.string ⟨#[32]⟩) rfl
 have c4:=h6 4 (.string ⟨#[13]⟩) rfl
 have c5:=h6 5 (.string ⟨#[32]⟩) rfl
 have hsc:=run_storeCells_new (P:=Tryz.prog) w 346 Tryz.zeroCells346 Tryz.zeroCells346 (by kernel_rfl) rfl (by kernel_rfl)
 go_enter Tryz.func314,Tryz.ntmps314
 go_wp2
 go_loop [4,5] (fun a i=>∃k:Nat,k≤3∧i=.int .i64 ((2*k:Nat):Int)∧a=.bool true) (fun _ i=>6-(intOf i).toNat)
 case atStart=>exact⟨0,by omega,rfl,rfl⟩
 case round =>
  obtain⟨k,hk,rfl,rfl⟩:=hrel
  by_cases hlt:k<3
  ·obtain rfl|rfl|rfl:k=0∨k=1∨k=2:=by omega
   all_goals
    go_wp2
    go_round
    case rel=>first|exact⟨1,by omega,rfl,rfl⟩|exact⟨2,by omega,rfl,rfl⟩|exact⟨3,by omega,rfl,rfl⟩
    case measure=>simp[intOf]
  ·obtain rfl:k=3:=by omega
   go_wp2
   go_loopw [61] (fun i wr=>∃k:Nat,k≤256∧i=.int .i64 (k:Nat)∧Below w.heap.size w wr∧N7 w.heap.size k wr) (fun i _=>256-(intOf i).toNat)
   case atStart=>exact⟨0,by omega,rfl,(Below.refl _ _).alloc (aP6 _) _,⟨_,heap_alloc_new w _,Tryz.zeroCells346_size,fun j hj=>absurd hj (aPC _)⟩⟩
   case round =>
    obtain⟨k,hk,rfl,hbel,htab⟩:=hrel
    by_cases hlt:k<256
    ·obtain⟨⟨v,hc⟩,hf⟩:=B1 htab hlt
     have HT:=Lib.hid htab
     clear htab
     go_wp2
     go_roundw
     case rel=>exact⟨k+1,by omega,by go_num,hbel.setCell (by exact aP6 _) _,N8 HT.out hlt⟩
     case measure=>simp[intOf]; omega
    ·have hT3:nY w.heap.size 3 wr:=by
      have h256:k=256:=by omega
      rw[h256] at htab;exact aD4 htab
     clear htab
     have HT:=Lib.hid hT3
     clear hT3
     go_wp2
     obtain⟨wo,rfl⟩:∃wo:World,wo=wr:=⟨_,rfl⟩
     go_loopw [8] (fun i wr=>∃m:Nat,m≤3∧i=.int .i64 (2*(m:Nat)-2:Int)∧Below w.heap.size w wr∧nY w.heap.size m wr) (fun i _=>(intOf i+2).toNat)
     case atStart=>exact⟨3,by omega,rfl,hbel,HT.out⟩
     case round =>
      obtain⟨m,hm,rfl,hbel2,htab2⟩:=hrel
      have d0:wr.cell? ⟨g,0,none⟩=some (.string ⟨#[9]⟩):=(hbel2.cell (p:=⟨g,0,none⟩) hg).trans c0
      have d1:wr.cell? ⟨g,1,none⟩=some (.string ⟨#[32]⟩):=(hbel2.cell (p:=⟨g,1,none⟩) hg).trans c1
      have d2:wr.cell? ⟨g,2,none⟩=some (.string ⟨#[10]⟩):=(hbel2.cell (p:=⟨g,2,none⟩) hg).trans c2
      have d3:wr.cell? ⟨g,3,none⟩=some (.string ⟨#[32]⟩):=(hbel2.cell (p:=⟨g,3,none⟩) hg).trans c3
      have d4:wr.cell? ⟨g,4,none⟩=some (.string ⟨#[13]⟩):=(hbel2.cell (p:=⟨g,4,none⟩) hg).trans c4
      have d5:wr.cell? ⟨g,5,none⟩=some (.string ⟨#[32]⟩):=(hbel2.cell (p:=⟨g,5,none⟩) hg).trans c5
      have k13:∀h,((⟨#[13]⟩:ByteArray)[0]'h)=13:=fun _=>rfl
      have k10:∀h,((⟨#[10]⟩:ByteArray)[0]'h)=10:=fun _=>rfl
      have k9:∀h,((⟨#[9]⟩:ByteArray)[0]'h)=9:=fun _=>rfl
      have k32:∀h,((⟨#[32]⟩:ByteArray)[0]'h)=32:=fun _=>rfl
      obtain rfl|rfl|rfl|rfl:m=3∨m=2∨m=1∨m=0:=by omega
      ·obtain⟨⟨v,hc⟩,hf⟩:=uO (j:=13) htab2 (by omega)
       have HT2:=Lib.hid htab2
       clear htab2
       go_wp2
       go_roundw
       case rel=>exact⟨2,by omega,rfl,hbel2.setCell (by exact aP6 _) _,yP 13 32 HT2.out tk2⟩
       case measure=>simp[intOf]
      ·obtain⟨⟨v,hc⟩,hf⟩:=uO (j:=10) htab2 (by omega)
       have HT2:=Lib.hid htab2
       clear htab2
       go_wp2
       go_roundw
       case rel=>exact⟨1,by omega,rfl,hbel2.setCell (by exact aP6 _) _,yP 10 32 HT2.out tk1⟩
       case measure=>simp[intOf]
      ·obtain⟨⟨v,hc⟩,hf⟩:=uO (j:=9) htab2 (by omega)
       have HT2:=Lib.hid htab2
       clear htab2
       go_wp2
       go_roundw
       case rel=>exact⟨0,by omega,rfl,hbel2.setCell (by exact aP6 _) _,yP 9 32 HT2.out tk0⟩
       case measure=>simp[intOf]
      ·have HT2:=Lib.hid htab2
       clear htab2
       go_wp2
       go_ret
       exact⟨rfl,hbel2,HT2.out⟩
theorem yQ(w:World):(callFunc 329 #[]).run Tryz.prog w=.ok (.value (.tuple #[])) w:=run_call_mark0 Tryz.func329 (by kernel_rfl) (by kernel_rfl) (by kernel_rfl) .disable (by kernel_rfl) w
theorem BT(w:World):(callFunc 331 #[]).run Tryz.prog w=.ok (.value (.tuple #[])) w:=run_call_mark0 Tryz.func331 (by kernel_rfl) (by kernel_rfl) (by kernel_rfl) .enable (by kernel_rfl) w
theorem NK(a:Addr) (w:World):(callFunc 332 #[.pointer (some a)]).run Tryz.prog w=.ok (.value (.tuple #[])) w:=run_call_marked Tryz.func332 (by kernel_rfl) (by kernel_rfl) (by kernel_rfl) .acquire (by kernel_rfl) a w
theorem NL(a:Addr) (w:World):(callFunc 334 #[.pointer (some a)]).run Tryz.prog w=.ok (.value (.tuple #[])) w:=run_call_marked Tryz.func334 (by kernel_rfl) (by kernel_rfl) (by kernel_rfl) .releaseMerge (by kernel_rfl) a w
set_option maxHeartbeats 2000000 in
set_option maxRecDepth 1000000 in
theorem yR(a:Addr) (x:Value) (u:FrameMode) (w:World) (hc:w.cell? a=some x) (hz:w.frozen? a=false) :
  CallsD Tryz.prog 320 #[.pointer (some a),.bool true] u w fun e u' w'=>u'=u∧(e=.returned (.tuple #[])∧w'=w.drew.setCell a (.int .u32 1)):=by
 have hc':w.drew.cell? a=some x:=by go_simp
 have hz':w.drew.frozen? a=false:=by go_simp
 have hst:=run_call_store (P:=Tryz.prog) Tryz.func325 (by kernel_rfl) (by kernel_rfl) (by kernel_rfl) (by kernel_rfl) (k:=.u32) (y:=1) hc' hz'
 go_enter_d Tryz.func320,Tryz.ntmps320
 go_wp2
 go_region_calls
 all_goals (go_end0; exact⟨rfl,rfl⟩)
set_option maxHeartbeats 2000000 in
set_option maxRecDepth 1000000 in
theorem vZ(a:Addr) (u:FrameMode) (w:World) (hc:w.cell? a=some (.int .i32 1)) (hz:w.frozen? a=false) :
  CallsD Tryz.prog 319 #[.pointer (some a)] u w fun e u' w'=>u'=u∧(e=.returned (.tuple #[])∧w'=w.setCell a (.int .i32 0)):=by
 have hd:=yQ
 have he:=BT
 have hr:=NL
 have hadd:=run_call_add (P:=Tryz.prog) Tryz.func335 (by kernel_rfl) (by kernel_rfl) (by kernel_rfl) .i32 (by kernel_rfl) (y:=-1) (s:=0) hc hz (by simp[go_sem]; rfl)
 have hcv:=run_convert_to_unsafe (P:=Tryz.prog) (src:=366) (dst:=240) Tryz.underlying366 Tryz.underlying240 (by kernel_rfl) hc
 go_enter_d Tryz.func319,Tryz.ntmps319
 go_wp2
 go_end0
 go_wp2
 go_end0
 exact⟨rfl,rfl⟩
set_option maxHeartbeats 2000000 in
set_option maxRecDepth 1000000 in
theorem B3(a:Addr) (w:World) (hc:w.cell? a=some (.int .i32 0)) (hz:w.frozen? a=false) :
  Calls Tryz.prog 318 #[.pointer (some a)] w fun e w'=>e=.returned (.tuple #[])∧w'=w.setCell a (.int .i32 1):=by
 have hd:=yQ
 have he:=BT
 have ha:=NK
 have hcas:=run_call_cas_hit (P:=Tryz.prog) Tryz.func330 (by kernel_rfl) (by kernel_rfl) (by kernel_rfl) .i32 (by kernel_rfl) (y:=1) hc hz
 have hc':(w.setCell a (.int .i32 1)).cell? a=some (.int .i32 1):=World.cell?_setCell_same w a _ hc
 have hcv:=run_convert_to_unsafe (P:=Tryz.prog) (src:=366) (dst:=240) Tryz.underlying366 Tryz.underlying240 (by kernel_rfl) hc'
 go_enter Tryz.func318,Tryz.ntmps318
 go_wp2
 first|go_end0|(simp only[Exit.inBlock,Exit.then]; refine bodyPost_ret (results_none rfl _ _ _) rfl ?_)|refine bodyPost_ret (results_none rfl _ _ _) rfl ?_
 go_wp2
 go_end0
 exact⟨rfl,rfl⟩
theorem nY.of_block{B k:Nat}{w w':World}(h:nY B k w) (hh:w'.heap[B]?=w.heap[B]?):nY B k w':=by
 obtain⟨cur,h1,h2,h3⟩:=h;exact⟨cur,hh.trans h1,h2,h3⟩
theorem nY.other{B k:Nat}{w:World}(h:nY B k w){a:Addr}(ha:B≠a.block) (u:Value):nY B k (w.setCell a u) :=
 h.of_block (Below.heap_setCell _ _ _ _ ha)
theorem sT.other{g:Nat}{w:World}(h:sT w g){a:Addr}(ha:a.block≠g) (u:Value):sT (w.setCell a u) g:=fun j v hj =>
 (aNF w a ⟨g,j,none⟩ u (fun e=>ha (by rw[e]))).trans (h j v hj)
def ifa(c:Nat):Value:=.iface 347 (.pointer (some ⟨c,0,none⟩))
set_option maxHeartbeats 2000000 in
set_option maxRecDepth 1000000 in
theorem N9(b g cap:Nat) (x3:Value) (w:World) (hb:b<w.heap.size) (hg:g<w.heap.size) (hold:w.cell? ⟨b,4,none⟩=some (.slice (some ⟨g,0,none⟩) 6 cap)) (h3:w.cell? ⟨b,3,none⟩=some x3)
  (f3:w.frozen? ⟨b,3,none⟩=false) (f4:w.frozen? ⟨b,4,none⟩=false) (h6:sT w g) :
  Calls Tryz.prog 303 #[.pointer (some ⟨b,0,none⟩)] w fun e w'=>e=.returned (.tuple #[])∧∃w1,Below w.heap.size w w1∧nY w.heap.size 0 w1∧w'=(w1.setCell ⟨b,3,none⟩ (ifa w.heap.size)).setCell ⟨b,4,none⟩ (.slice none 0 0):=by
 have HB:=Lib.hid (B2 b g cap w hb hg hold h6)
 go_enter Tryz.func303,Tryz.ntmps303
 go_wp2_with fail
 refine HB.out.mono ?_;rintro e w1 ⟨rfl,hbel,htab⟩
 have c3:w1.cell? ⟨b,3,none⟩=some x3:=(hbel.cell (p:=⟨b,3,none⟩) hb).trans h3
 have c4:w1.cell? ⟨b,4,none⟩=some (.slice (some ⟨g,0,none⟩) 6 cap):=(hbel.cell (p:=⟨b,4,none⟩) hb).trans hold
 have z3:w1.frozen? ⟨b,3,none⟩=false:=(hbel.frozen (p:=⟨b,3,none⟩) hb).trans f3
 have z4:w1.frozen? ⟨b,4,none⟩=false:=(hbel.frozen (p:=⟨b,4,none⟩) hb).trans f4
 have d4:(w1.setCell ⟨b,3,none⟩ (.iface 347 (.pointer (some ⟨w.heap.size,0,none⟩)))).cell? ⟨b,4,none⟩=some (.slice (some ⟨g,0,none⟩) 6 cap):=(aNF _ _ _ _ (by simp)).trans c4
 have HT:=Lib.hid htab
 clear htab
 go_wp2
 go_end0
 exact⟨rfl,w1,hbel,HT.out,rfl⟩
def O1(b c:Nat) (w w':World):Prop:=Below b w w'∧w'.cell? ⟨b,3,none⟩=some (ifa c)∧nY c 0 w'∧c<w'.heap.size∧w'.frozen? ⟨b,3,none⟩=false
theorem O2{b:Nat}{w w1:World}{v x:Value}(hb:b<w.heap.size) (h:Below w.heap.size (w.setCell ⟨b,1,none⟩ v) w1) (ht:nY w.heap.size 0 w1) (h3:w1.cell? ⟨b,3,none⟩=some x) (hz:∀o,w1.frozen? ⟨b,o,none⟩=false) :
  O1 b w.heap.size w ((((w1.setCell ⟨b,3,none⟩ (ifa w.heap.size)).setCell ⟨b,4,none⟩ (.slice none 0 0)).drew.setCell ⟨b,0,none⟩ (.int .u32 1)).setCell ⟨b,1,none⟩ (.int .i32 0)):=by
 have hne:w.heap.size≠b:=by omega
 refine⟨?_,?_,?_,?_,?_⟩
 ·exact((((((Below.refl b w).setCell (p:=⟨b,1,none⟩) (aP6 _) v).trans (h.mono (Nat.le_of_lt hb))).setCell (p:=⟨b,3,none⟩) (aP6 _) _).setCell (p:=⟨b,4,none⟩) (aP6 _) _).drew.setCell (p:=⟨b,0,none⟩) (aP6 _) _).setCell (p:=⟨b,1,none⟩) (aP6 _) _
 ·rw[aNF _ ⟨b,1,none⟩ ⟨b,3,none⟩ _ (by simp),aNF _ ⟨b,0,none⟩ ⟨b,3,none⟩ _ (by simp),World.cell?_drew,aNF _ ⟨b,4,none⟩ ⟨b,3,none⟩ _ (by simp)];exact World.cell?_setCell_same _ _ _ h3
 ·exact(nY.of_block (w:=((w1.setCell ⟨b,3,none⟩ (ifa w.heap.size)).setCell ⟨b,4,none⟩ (.slice none 0 0))) ((ht.other (by exact hne) _).other (by exact hne) _) rfl |>.other (by exact hne) _).other (by exact hne) _
 ·obtain⟨cur,q1,_⟩:=ht
  have:=(aM9.1 q1).1
  simpa [World.setCell,World.drew] using this
 ·simp only[aNX,World.frozen?_drew];exact hz 3
set_option maxRecDepth 1000000 in
set_option maxHeartbeats 4000000 in
theorem O3(b g cap:Nat) (x3:Value) (w:World) (hb:b<w.heap.size) (hg:g<w.heap.size) (hgb:g≠b) (hold:w.cell? ⟨b,4,none⟩=some (.slice (some ⟨g,0,none⟩) 6 cap)) (h3:w.cell? ⟨b,3,none⟩=some x3)
  (h0:w.cell? ⟨b,0,none⟩=some (.int .u32 0)) (h1:w.cell? ⟨b,1,none⟩=some (.int .i32 0)) (hz:∀o,w.frozen? ⟨b,o,none⟩=false) (h6:sT w g) :
  Calls Tryz.prog 313 #[.pointer (some ⟨b,0,none⟩),.func (.func 303) #[.pointer (some ⟨b,0,none⟩)] #[]] w fun e w'=>e=.returned (.tuple #[])∧O1 b w.heap.size w w':=by
 have HL:=Lib.hid (B3 ⟨b,1,none⟩ w h1 (hz 1))
 have hl:=run_call_load (P:=Tryz.prog) Tryz.func317 (by kernel_rfl) (by kernel_rfl) (by kernel_rfl) .u32 (by kernel_rfl) (w:=w.setCell ⟨b,1,none⟩ (.int .i32 1)) (a:=⟨b,0,none⟩) (x:=0) ((aNF _ ⟨b,1,none⟩ ⟨b,0,none⟩ _ (by simp)).trans h0)
 have hnot:∀(x:Bool) (w:World),(Op.unary .not (.bool x)).run Tryz.prog w=.ok (.bool (!x)) w:=fun _ _=>rfl
 have hs:(w.setCell ⟨b,1,none⟩ (.int .i32 1)).heap.size=w.heap.size:=by simp[World.setCell]
 have HO:=Lib.hid (N9 b g cap x3 (w.setCell ⟨b,1,none⟩ (.int .i32 1)) (by rw[hs]; exact hb) (by rw[hs]; exact hg) ((aNF _ ⟨b,1,none⟩ ⟨b,4,none⟩ _ (by simp)).trans hold) ((aNF _ ⟨b,1,none⟩ ⟨b,3,none⟩ _ (by simp)).trans h3)
  (by rw[aNX]; exact hz 3) (by rw[aNX]; exact hz 4) (h6.other (by exact fun e=>hgb e.symm) _))
 rw[hs] at HO
 have HS:=Lib.hid hs
 have H0:=Lib.hid h0
 have H1:=Lib.hid h1
 have H3:=Lib.hid h3
 have H4:=Lib.hid hold
 have HZ:=Lib.hid hz
 clear hs h0 h1 h3 hold hz h6
 go_enter_defers Tryz.func313,Tryz.ntmps313
 go_wp2_with (go_at_call 318; refine HL.out.mono ?_; rintro e w' ⟨rfl,rfl⟩)
 go_wp2_with (first|(go_at_call 303; refine HO.out.mono ?_; rintro e w' ⟨rfl,w1,hbel,htab,rfl⟩; have HB1:=Lib.hid hbel; have HT:=Lib.hid htab; clear hbel htab)|(go_at_call 312; go_in))
 have hsz:w.heap.size≤w1.heap.size:=by
  have h1:=HB1.out.size
  have h2:=HS.out
  omega
 have hw1:∀o v,o≠1→w.cell? ⟨b,o,none⟩=some v→w1.cell? ⟨b,o,none⟩=some v:=fun o v ho hv =>
  (HB1.out.cell (p:=⟨b,o,none⟩) hb).trans ((aNF _ ⟨b,1,none⟩ ⟨b,o,none⟩ _ (by simp<;>omega)).trans hv)
 have hw11:w1.cell? ⟨b,1,none⟩=some (.int .i32 1):=(HB1.out.cell (p:=⟨b,1,none⟩) hb).trans (World.cell?_setCell_same w ⟨b,1,none⟩ _ H1.out)
 have hzz:∀o,w1.frozen? ⟨b,o,none⟩=false:=fun o=>(HB1.out.frozen (p:=⟨b,o,none⟩) hb).trans ((aNX _ _ _ _).trans (HZ.out o))
 refine leaves_cons (f:=320) (args:=#[.pointer (some ⟨b,0,none⟩),.bool true]) (by simp) (by simp[go_sem]) ?_;refine(yR ⟨b,0,none⟩ (.int .u32 0) .returning _ ?_ (by simp[hzz])).mono ?_
 ·exact(aNF _ ⟨b,4,none⟩ ⟨b,0,none⟩ _ (by simp)).trans ((aNF _ ⟨b,3,none⟩ ⟨b,0,none⟩ _ (by simp)).trans (hw1 0 _ (by decide) H0.out))
 rintro e u' w'' ⟨rfl,rfl,rfl⟩;refine leaves_cons (f:=319) (args:=#[.pointer (some ⟨b,1,none⟩)]) (by simp[settle]) (by simp[go_sem]) ?_;refine(vZ ⟨b,1,none⟩ _ _ ?_ (by simp[hzz])).mono ?_
 ·refine(aNF _ ⟨b,0,none⟩ ⟨b,1,none⟩ _ (by simp)).trans ?_;rw[World.cell?_drew];exact(aNF _ ⟨b,4,none⟩ ⟨b,1,none⟩ _ (by simp)).trans ((aNF _ ⟨b,3,none⟩ ⟨b,1,none⟩ _ (by simp)).trans hw11)
 rintro e u' w'' ⟨rfl,rfl,rfl⟩;simp[Leaves,settle,results,Tryz.results313];exact O2 hb HB1.out HT.out (hw1 3 _ (by decide) H3.out) hzz
set_option maxRecDepth 1000000 in
set_option maxHeartbeats 4000000 in
theorem aD5(b g cap:Nat) (x3:Value) (w:World) (hb:b<w.heap.size) (hg:g<w.heap.size) (hgb:g≠b) (hold:w.cell? ⟨b,4,none⟩=some (.slice (some ⟨g,0,none⟩) 6 cap)) (h3:w.cell? ⟨b,3,none⟩=some x3)
  (h0:w.cell? ⟨b,0,none⟩=some (.int .u32 0)) (h1:w.cell? ⟨b,1,none⟩=some (.int .i32 0)) (hz:∀o,w.frozen? ⟨b,o,none⟩=false) (h6:sT w g) :
  Calls Tryz.prog 302 #[.pointer (some ⟨b,0,none⟩),.func (.func 303) #[.pointer (some ⟨b,0,none⟩)] #[]] w fun e w'=>e=.returned (.tuple #[])∧O1 b w.heap.size w w':=by
 have HS:=Lib.hid (O3 b g cap x3 w hb hg hgb hold h3 h0 h1 hz h6)
 have hl:=run_call_load (P:=Tryz.prog) Tryz.func317 (by kernel_rfl) (by kernel_rfl) (by kernel_rfl) .u32 (by kernel_rfl) h0
 have hnot:∀(x:Bool) (w:World),(Op.unary .not (.bool x)).run Tryz.prog w=.ok (.bool (!x)) w:=fun _ _=>rfl
 clear hold h3 h0 h1 hz h6
 go_enter Tryz.func302,Tryz.ntmps302
 go_wp2_with (first|(go_at_call 313; refine HS.out.mono ?_; rintro e w' ⟨rfl,hbu⟩)|(go_at_call 312; go_in))
 go_end0
 exact⟨rfl,hbu⟩
theorem NM(a:Addr) (w:World):(method 504 347 (.pointer (some a)) "Replace").run Tryz.prog w=.ok (371,.pointer (some a)) w:=by kernel_rfl
set_option maxRecDepth 1000000 in
set_option maxHeartbeats 4000000 in
theorem EC(b g cap:Nat) (x3:Value) (s:ByteArray) (w:World) (hsz:s.size≤4294967281) (hb:b<w.heap.size) (hg:g<w.heap.size) (hgb:g≠b) (hold:w.cell? ⟨b,4,none⟩=some (.slice (some ⟨g,0,none⟩) 6 cap)) (h3:w.cell? ⟨b,3,none⟩=some x3)
  (h0:w.cell? ⟨b,0,none⟩=some (.int .u32 0)) (h1:w.cell? ⟨b,1,none⟩=some (.int .i32 0)) (hz:∀o,w.frozen? ⟨b,o,none⟩=false) (h6:sT w g) :
  Calls Tryz.prog 291 #[.pointer (some ⟨b,0,none⟩),.string s] w fun e w'=>e=.returned (.string ⟨(s.data.toList.map flatB).toArray⟩)∧Below b w w':=by
 have HS:=Lib.hid (aD5 b g cap x3 w hb hg hgb hold h3 h0 h1 hz h6)
 have hmf:∀(fn:Fn) (first cap:Array Value) (w:World),(Instr.makeFunc fn first cap).run Tryz.prog w=.ok (.func fn first cap) w:=fun _ _ _ _=>rfl
 clear hold h3 h0 h1 hz h6
 go_enter Tryz.func291,Tryz.ntmps291
 go_wp2_with fail
 refine HS.out.mono ?_;rintro e w1 ⟨rfl,hbel,hi,htab,hc,hf⟩
 replace hi:w1.cell? ⟨b,3,none⟩=some (.iface 347 (.pointer (some ⟨w.heap.size,0,none⟩))):=hi
 have HR:=Lib.hid (aD3 w.heap.size s w1 hc hsz (fun x=>by
  obtain⟨cur,q1,q2,q3⟩:=htab
  have:=q3 x
  simp only[World.cell?,q1]
  simpa [uN] using this))
 have HT:=Lib.hid htab
 clear htab
 have hm:=NM ⟨w.heap.size,0,none⟩ w1
 go_wp2_with (go_at_call 371; refine HR.out.mono ?_; rintro e w' ⟨rfl,hb2⟩)
 go_ret
 exact⟨rfl,hbel.trans (hb2.mono (by have:=hbel.size; omega))⟩
def six:List Value:=[.string ⟨#[9]⟩,.string ⟨#[32]⟩,.string ⟨#[10]⟩,.string ⟨#[32]⟩,.string ⟨#[13]⟩,.string ⟨#[32]⟩]
def aCH(w:World) (b:Nat) (w':World):Prop:=∃g cap,w.heap.size≤b∧b<w'.heap.size∧g<w'.heap.size∧g≠b∧Below w.heap.size w w'∧w'.cell? ⟨b,4,none⟩=some (.slice (some ⟨g,0,none⟩) 6 cap)∧w'.cell? ⟨b,3,none⟩=some .nilIface ∧
 w'.cell? ⟨b,0,none⟩=some (.int .u32 0)∧w'.cell? ⟨b,1,none⟩=some (.int .i32 0)∧(∀o,w'.frozen? ⟨b,o,none⟩=false)∧sT w' g
def aMP(w:World) (e:Ending) (w':World):Prop:=∃b,e=.returned (.pointer (some ⟨b,0,none⟩))∧aCH w b w'
theorem aGE:(Tryz.prog.info? 9).map (fun i=>(i.zero,i.size,i.bytes))=some (some (.string .empty),1,16):=by kernel_rfl
theorem aD6{w w1:World}{v:Value}(h:w1.ownsRow w.heap.size 9 1 v 6 six) (hg:w.grownBy w1 none):aCH w w1.heap.size (w1.alloc (.cells #[.int .u32 0,.int .i32 0,.int .u32 0,.nilIface,v] 323)):=by
 rcases h.2 with⟨_,h0⟩|⟨g,cap,cur,rfl,q1,q2,q3,q4,q5,q6⟩
 ·cases h0
 have hgl:=(aM9.1 q2).1
 refine⟨g,cap,hg.size,by simp,by simp; omega,by omega,?_,?_,?_,?_,?_,?_,?_⟩
 ·exact((Below.refl _ _).grown hg (aP6 _) (fun k hk=>by cases hk)).alloc hg.size _
 ·rw[aN8 _ _ _ _ rfl]; rfl
 ·rw[aN8 _ _ _ _ rfl]; rfl
 ·rw[aN8 _ _ _ _ rfl]; rfl
 ·rw[aN8 _ _ _ _ rfl]; rfl
 ·intro o;exact World.frozen?_alloc_at _ _ _ _ rfl
 ·intro j u hj;rw[World.cell?_alloc_past _ _ _ hgl]
  have hj6:j<6:=by
   rcases Nat.lt_or_ge j 6 with h|h
   ·exact h
   ·rw[Array.getElem?_eq_none (by simpa using h)] at hj;cases hj
  have:=World.ownsRow.cellAt h j (by simpa using hj6)
  rw[this]
  have e:(#[Value.string ⟨#[9]⟩,.string ⟨#[32]⟩,.string ⟨#[10]⟩,.string ⟨#[32]⟩,.string ⟨#[13]⟩,.string ⟨#[32]⟩]:Array Value)=six.toArray:=rfl
  rw[e] at hj
  simpa using hj
set_option maxRecDepth 1000000 in
set_option maxHeartbeats 4000000 in
theorem aAS(g:Nat) (w:World) (hc:∀j u,six[j]?=some u→w.cell? ((⟨g,0,none⟩:Addr).add j)=some u):Calls Tryz.prog 290 #[.slice (some ⟨g,0,none⟩) 6 6] w (aMP w):=by
 obtain⟨i0,hi,hz0,hz1,hz2⟩:=info_parts aGE
 have HC:=Lib.hid hc
 clear hc
 go_enter Tryz.func290,Tryz.ntmps290
 go_wp2_with (first
   |(at_builtin; refine wpList_append_own _ rfl _ _ 92 rfl w.heap.size 9 i0 (.string .empty) 1 16 Tryz.underlying92 hi hz0 hz1 hz2 rfl (by decide) _ _ _ rfl (World.ownsRow_nil _ _ _ _) ⟨g,0,none⟩ 6 6 six rfl rfl ?c1 ?c2 ?c3 ?c4 ?c5 ?_)
   |go_in)
 case c1=>exact HC.out
 case c2=>intro u hu; simp[six] at hu; rcases hu with rfl|rfl|rfl|rfl|rfl|rfl<;>rfl
 case c3=>unfold maxLen; omega
 case c4=>omega
 case c5=>exact aP6 _
 ·intro v' w1 hown hgrow _;obtain⟨g2,cap2,rfl⟩:∃g2 cap2,v'=.slice (some ⟨g2,0,none⟩) 6 cap2:=by
   rcases hown.2 with⟨_,h0⟩|⟨g2,cap2,cur,e,_⟩
   ·cases h0
   ·exact⟨g2,cap2,e⟩
  have HO:=Lib.hid hown
  have HG:=Lib.hid hgrow
  clear hown hgrow
  go_wp2
  go_ret
  exact⟨_,rfl,aD6 HO.out HG.out⟩
set_option maxRecDepth 1000000 in
set_option maxHeartbeats 4000000 in
theorem aGF(s:ByteArray) (w:World) (hs:s.size≤4294967281):Calls Tryz.prog 273 #[.string s] w fun e w'=>e=.returned (.string ⟨(s.data.toList.map flatB).toArray⟩)∧Below w.heap.size w w':=by
 go_enter Tryz.func273,Tryz.ntmps273
 go_wp2_with fail
 have h0:∀j u,six[j]?=some u→(w.alloc (.cells #[.string ⟨#[9]⟩,.string ⟨#[32]⟩,.string ⟨#[10]⟩,.string ⟨#[32]⟩,.string ⟨#[13]⟩,.string ⟨#[32]⟩] 9)).cell? ((⟨w.heap.size,0,none⟩:Addr).add j)=some u:=fun j u hj=>by
  have e:(⟨w.heap.size,0,none⟩:Addr).add j=⟨w.heap.size,j,none⟩:=by simp[Addr.add,eq_comm]
  rw[e,aN8 _ _ _ _ rfl]
  have:(#[Value.string ⟨#[9]⟩,.string ⟨#[32]⟩,.string ⟨#[10]⟩,.string ⟨#[32]⟩,.string ⟨#[13]⟩,.string ⟨#[32]⟩]:Array Value)=six.toArray:=rfl
  rw[this]
  simpa using hj
 have hb0:Below w.heap.size w (w.alloc (.cells #[.string ⟨#[9]⟩,.string ⟨#[32]⟩,.string ⟨#[10]⟩,.string ⟨#[32]⟩,.string ⟨#[13]⟩,.string ⟨#[32]⟩] 9)):=(Below.refl _ _).alloc (aP6 _) _
 refine(aAS w.heap.size _ h0).mono ?_;rintro e w1 ⟨b,rfl,g,cap,p1,p2,p3,p4,p5,p6,p7,p8,p9,p10,p11⟩
 have HR:=Lib.hid (EC b g cap .nilIface s w1 hs p2 p3 p4 p6 p7 p8 p9 p10 p11)
 have hb1:Below w.heap.size w w1:=hb0.trans (p5.mono (by simp))
 have hbb:w.heap.size≤b:=aPX (by simp) p1
 clear h0 hb0 p1 p2 p3 p4 p5 p6 p7 p8 p9 p10 p11
 go_wp2_with (go_at_call 291; refine HR.out.mono ?_; rintro e w' ⟨rfl,hb2⟩)
 go_ret
 exact⟨rfl,hb1.trans (hb2.mono hbb)⟩
end Go.Mo
end

section
namespace Go.Mo
open Go Go.W Go.Proofs
abbrev zC:Int×Int×Int×Int×Y_×Y_×Bool×Bool:=((0:Int),((0:Int),((0:Int),((0:Int),([],([],(false,false)))))))
abbrev zG:Y_×Int×Int×Int×Int×UInt8×Bool:=([],((0:Int),((0:Int),((0:Int),((0:Int),((0:UInt8),false))))))
abbrev zE:Int×(Int×Int)×Y_×UInt8×Y_×List (List (Y_×(UInt8×Bool×Bool)×Y_)):=((0:Int),(((0:Int),(0:Int)),([],((0:UInt8),([],[])))))
abbrev zU:Y_×(UInt8×Bool×Bool)×Y_:=([],(((0:UInt8),(false,false)),[]))
abbrev zN:Y_×Y_×List (Y_×Y_)×Int:=([],([],([],(0:Int))))
noncomputable section
abbrev Y5:Ty:=.st (.pair (.str) (.pair (.int .i64) (.pair (.int .i64) (.pair (.int .i64) (.pair (.int .i64) (.pair (.u8) (.bool)))))))
abbrev Y4:Ty:=.st (.pair (.str) (.pair (.st (.pair (.u8) (.pair (.bool) (.bool)))) (.str)))
abbrev Y3:Ty:=.pair (.int .i64) (.pair (.st (.pair (.int .i64) (.int .i64))) (.pair (.str) (.pair (.u8) (.pair (.str) (.slice (.st (.slice Y4)))))))
abbrev Y6:Ty:=.st (.pair (.int .i64) (.pair (.int .i64) (.pair (.int .i64) (.pair (.int .i64) (.pair (.str) (.pair (.str) (.pair (.bool) (.bool))))))))
abbrev Y1:Ty:=.st (.pair (.str) (.pair (.str) (.pair (.u8) (.pair (.bool) (.pair (.int .i64) (.pair (.slice Y5) (.pair (.slice (.st Y3)) (.slice Y6))))))))
abbrev Y2:Ty:=.st (.pair (.str) (.pair (.str) (.pair (.slice (.st (.pair (.str) (.str)))) (.int .i64))))
abbrev Y7:Ty:=.st (.pair (.nptr) (.slice (.u8)))
def tt:List (Option Ty):=[none,
 none,
 some (.int .i64),
 some (.int .i64),
 some (.bool),
 some (.u8),
 none,
 none,
 none,
 some (.str),
 none,
 none,
 some (.int .u64),
 none,
 none,
 some (.nptr),
 some (.nptr),
 some (.nptr),
 none,
 none,
 some (.nif),
 some (.int .i32),
 some (.u8),
 some (.slice Y5),
 some (.slice (.st Y3)),
 some (.slice Y6),
 some Y1,
 some Y1,
 none,
 none,
 some (.slice Y2),
 some (.int .i64),
 none,
 none,
 none,
 none,
 none,
 none,
 none,
 none,
 none,
 none,
 none,
 none,
 none,
 some (.slice (.st (.pair (.str) (.str)))),
 some Y2,
 some Y2,
 none,
 some (.st (.pair (.str) (.str))),
 some (.st (.pair (.str) (.str))),
 none,
 none,
 some (.slice (.st (.pair (.int .i64) (.pair (.int .i64) (.int .i64))))),
 none,
 none,
 none,
 some (.st (.pair (.int .i64) (.pair (.int .i64) (.int .i64)))),
 some (.st (.pair (.int .i64) (.pair (.int .i64) (.int .i64)))),
 none,
 none,
 none,
 none,
 some (.st (.pair (.int .i64) (.int .i64))),
 some (.st (.pair (.int .i64) (.int .i64))),
 some (.u8),
 some (.u8),
 some (.st (.pair (.u8) (.pair (.bool) (.bool)))),
 some (.st (.pair (.u8) (.pair (.bool) (.bool)))),
 some Y4,
 some Y4,
 some (.slice Y4),
 some (.st (.slice Y4)),
 some (.st (.slice Y4)),
 some (.slice (.st (.slice Y4))),
 some (.st Y3),
 some (.st Y3),
 some (.slice Y2),
 none,
 none,
 none,
 none,
 some (.u8),
 some Y5,
 some Y5,
 some (.arr 3 (.str)),
 none,
 none,
 some (.arr 7 (.str)),
 none,
 none,
 none,
 some (.slice (.str)),
 none,
 none,
 none,
 none,
 some (.st (.pair (.str) (.pair (.str) (.pair (.u8) (.pair (.bool) (.int .i64)))))),
 some (.st (.pair (.str) (.pair (.str) (.pair (.u8) (.pair (.bool) (.int .i64)))))),
 none,
 none,
 none,
 none,
 none,
 some Y6,
 some Y6,
 none,
 none,
 none,
 none,
 some (.nptr),
 none,
 some (.nptr),
 some (.st (.pair Y2 (.int .i64))),
 some (.st (.pair Y2 (.int .i64))),
 none,
 some (.nptr),
 some (.nptr),
 none,
 some (.slice (.slice (.st (.pair (.str) (.str))))),
 none,
 none,
 none,
 none,
 none,
 none,
 none,
 none,
 some (.nptr),
 some (.slice (.u8)),
 some Y7,
 some Y7,
 some (.nif),
 some (.nif),
 none,
 none,
 none,
 none,
 some (.nptr),
 some (.st (.pair (.str) (.pair (.int .i64) (.pair (.int .i64) (.bool))))),
 some (.st (.pair (.str) (.pair (.int .i64) (.pair (.int .i64) (.bool))))),
 none,
 none,
 none,
 none,
 none,
 some (.int .u64),
 none,
 none,
 none,
 none,
 none,
 none,
 none,
 none,
 none,
 none,
 none,
 some (.nptr),
 some (.st (.pair Y2 (.int .i64))),
 some (.st (.pair Y2 (.int .i64))),
 none,
 none,
 none,
 none,
 none,
 none,
 none,
 none,
 none,
 none,
 none,
 some (.nptr),
 some (.st (.pair (.slice Y2) (.pair (.slice (.str)) (.bool)))),
 some (.st (.pair (.slice Y2) (.pair (.slice (.str)) (.bool)))),
 some (.st (.pair (.int .i64) (.pair (.str) (.pair (.slice (.st (.pair (.str) (.str)))) (.str))))),
 some (.st (.pair (.int .i64) (.pair (.str) (.pair (.slice (.st (.pair (.str) (.str)))) (.str))))),
 none,
 none,
 none,
 some (.nptr),
 some (.st (.pair (.slice Y2) (.pair (.slice (.str)) (.pair (.bool) (.bool))))),
 some (.st (.pair (.slice Y2) (.pair (.slice (.str)) (.pair (.bool) (.bool))))),
 some (.st (.pair (.int .i64) (.pair (.int .i64) (.pair (.str) (.slice (.st (.pair (.str) (.str)))))))),
 some (.st (.pair (.int .i64) (.pair (.int .i64) (.pair (.str) (.slice (.st (.pair (.str) (.str)))))))),
 none,
 none,
 none,
 none,
 none,
 none,
 none,
 none,
 some (.slice (.st (.pair (.int .i64) (.pair (.int .i64) (.int .i64))))),
 none,
 none,
 some (.slice (.int .i64)),
 none,
 none,
 none,
 none,
 some (.arr 2 (.str)),
 some (.arr 5 (.arr 2 (.str))),
 none,
 some (.nptr),
 some (.arr 8 (.st (.pair (.str) (.pair (.int .i64) (.pair (.int .i64) (.bool)))))),
 none,
 none,
 none,
 none,
 none,
 none,
 none,
 none,
 some (.slice (.u8)),
 none,
 none,
 none,
 none,
 none,
 none,
 none,
 none,
 none,
 none,
 some (.arr 2 (.arr 2 (.str))),
 none,
 none,
 none,
 none,
 none,
 none,
 none,
 none,
 none,
 none,
 none,
 some (.st (.pair (.int .i64) (.pair (.int .i64) (.int .i64)))),
 some (.st (.pair (.int .i64) (.pair (.int .i64) (.int .i64)))),
 none,
 none,
 none,
 none,
 none,
 some (.arr 24 (.u8)),
 none,
 none,
 none,
 none,
 none,
 none,
 none,
 none,
 none,
 none,
 none,
 none,
 none,
 none,
 none,
 none,
 some (.arr 256 (.u8)),
 some (.st (.pair (.u8) (.u8))),
 some (.st (.pair (.u8) (.u8))),
 some (.arr 16 (.st (.pair (.u8) (.u8)))),
 some (.int .u64),
 none,
 none,
 none,
 none,
 none,
 none,
 none,
 some (.arr 20 (.int .u64)),
 some (.int .u32),
 some (.arr 65 (.u8)),
 none,
 none,
 some (.slice (.int .i32)),
 none,
 none,
 none,
 none,
 none,
 none,
 some (.arr 256 (.bool)),
 some (.arr 256 (.bool)),
 none,
 none,
 none,
 some (.nptr),
 none,
 none,
 none,
 none,
 none,
 none,
 some (.nptr),
 none,
 none,
 some (.arr 32 (.u8)),
 some (.arr 64 (.u8)),
 some (.int .i64),
 none,
 none,
 some (.nptr),
 none,
 none,
 none,
 none,
 none,
 none,
 none,
 none,
 some (.st (.pair (.int .i32) (.int .u32))),
 some (.st (.pair (.int .i32) (.int .u32))),
 none,
 none,
 none,
 none,
 some (.nif),
 some (.nif),
 none,
 none,
 none,
 none,
 none,
 none,
 some (.st (.pair (.str) (.pair (.str) (.nif)))),
 some (.st (.pair (.str) (.pair (.str) (.nif)))),
 none,
 none,
 some (.nptr),
 none,
 none,
 some (.nptr),
 some (.st (.str)),
 some (.st (.str)),
 some (.nptr),
 none,
 some (.nptr),
 none,
 some (.nptr),
 none,
 some (.nptr),
 none,
 some (.arr 256 (.u8)),
 some (.nptr),
 some (.arr 256 (.slice (.u8))),
 some (.st (.pair (.arr 256 (.slice (.u8))) (.slice (.str)))),
 some (.st (.pair (.arr 256 (.slice (.u8))) (.slice (.str)))),
 some (.nptr),
 some (.nptr),
 none,
 none,
 some (.nptr),
 none,
 some (.st (.pair (.nptr) (.str))),
 some (.st (.pair (.nptr) (.str))),
 some (.nptr),
 some (.slice (.nptr)),
 some (.st (.pair (.str) (.pair (.int .i64) (.pair (.str) (.pair (.nptr) (.slice (.nptr))))))),
 some (.st (.pair (.str) (.pair (.int .i64) (.pair (.str) (.pair (.nptr) (.slice (.nptr))))))),
 some (.st (.pair (.st (.pair (.str) (.pair (.int .i64) (.pair (.str) (.pair (.nptr) (.slice (.nptr))))))) (.pair (.int .i64) (.arr 256 (.u8))))),
 some (.st (.pair (.st (.pair (.str) (.pair (.int .i64) (.pair (.str) (.pair (.nptr) (.slice (.nptr))))))) (.pair (.int .i64) (.arr 256 (.u8))))),
 none,
 some (.nptr),
 none,
 some (.nptr),
 none,
 none,
 none,
 some (.arr 256 (.int .i64)),
 some (.st (.pair (.str) (.pair (.arr 256 (.int .i64)) (.slice (.int .i64))))),
 some (.st (.pair (.str) (.pair (.arr 256 (.int .i64)) (.slice (.int .i64))))),
 none,
 none,
 none,
 none,
 none,
 none,
 none,
 none,
 none,
 none,
 none,
 none,
 none,
 none,
 none,
 none,
 some (.slice (.u8)),
 some (.nptr),
 some (.nif),
 some (.nif),
 some (.nif),
 some (.nif),
 none,
 none,
 none,
 none,
 some (.st (.nif)),
 some (.st (.nif)),
 none]
def gl0:List Y_:=[[76,69,70,84],[67,69,78,84,69,82],[82,73,71,72,84]]
def gl1:List Y_:=[[119,104,105,116,101],[103,114,101,101,110],[98,108,117,101],[99,121,97,110],[114,101,100],[121,101,108,108,111,119],[109,97,103,101,110,116,97]]
def gl2:List (List Y_):=[[[38,97,109,112,59],[38]],[[38,108,116,59],[60]],[[38,103,116,59],[62]],[[38,113,117,111,116,59],[34]],[[38,97,112,111,115,59],[39]]]
def gl3:Y_:=Go.Pinned.utf8FirstZ.map fun n=>UInt8.ofNat n
def gl4:List (UInt8×UInt8):=[(128,191),(160,191),(128,159),(144,191),(128,143),(0,0),(0,0),(0,0),(0,0),(0,0),(0,0),(0,0),(0,0),(0,0),(0,0),(0,0)]
def gl5:List Int:=[1,10,100,1000,10000,100000,1000000,10000000,100000000,1000000000,10000000000,100000000000,1000000000000,10000000000000,100000000000000,1000000000000000,10000000000000000,100000000000000000,1000000000000000000,10000000000000000000]
noncomputable def E:Env:=⟨Tryz.prog,tt,[(0,⟨.arr 3 (.str),gl0⟩),(1,⟨.arr 7 (.str),gl1⟩),(2,⟨.arr 5 (.arr 2 (.str)),gl2⟩),(3,⟨.arr 256 (.u8),gl3⟩),(4,⟨.arr 16 (.st (.pair (.u8) (.u8))),gl4⟩),(5,⟨.arr 20 (.int .u64),gl5⟩)],some 293,some (82,131),[6],[9,10],[]⟩
set_option maxRecDepth 100000 in
theorem chk:nG E 0 E.ty=true:=by kernel_rfl
def ops:List Ty:=[.st Y3,.st (.slice Y4)]
set_option maxRecDepth 100000 in
theorem ZI:nG (E.wop ops) 0 E.ty=true:=by kernel_rfl
theorem mixed:E.P.follows .mixedOrders=true:=by kernel_rfl
end
end Go.Mo
end

section
namespace Go.Mo
open Go Go.W
noncomputable section
abbrev D5:=Y_×(UInt8×Bool×Bool)×Y_
abbrev D1:=Int×(Int×Int)×Y_×UInt8×Y_×List (List D5)
abbrev D7:=Y_×Y_
abbrev D2:=Y_×Y_×(List D7)×Int
abbrev D3:=Int×Int×Int×Int×Y_×Y_×Bool×Bool
abbrev D4:=Y_×Int×Int×Int×Int×UInt8×Bool
abbrev D6:=Y_×Y_×UInt8×Bool×Int×(List D4)×(List D1)×List D3
def fE:List PK:=[.k (.v (.str) [])]
def fF:List Kd:=[.v (.bool) []]
def utf8_ValidString(N:Nat) (x:Y_):Option (Bool):=gR N x
def NN:List PK:=[.k (.v (.str) []),.k (.v (.int .i32) [])]
def NO:List Kd:=[.v (.int .i64) []]
def q11(N:Nat) (x:Y_×Int):Option (Int) :=
 jn (fun (v0:Unit) =>
  some (-1))
 fun v1 =>
 bN (fun v2 (v3:Int×Y_×Int) =>
  cnd (nlt (toN v3.2.2) (kQ v3.2.1))
   (cnd (ieq (tL v3.2.1 (toN v3.2.2)) x.2)
    (some v3.1)
    (v2 (w64 (aF v3.1 1),v3.2.1,ofN (lF (toN v3.2.2) (tM v3.2.1 (toN v3.2.2))))))
   (v1 ())) N (0,x.1,ofN 0)
def NP:List PK:=[.k (.v (.int .i32) [])]
def NQ:List Kd:=[.v (.int .i64) []]
def q12(N:Nat) (x:Int):Option (Int) :=
 cnd (ile 32 x)
  (cnd (ile x 126)
   (some (w64 (wr .i32 (aJ x 32))))
   (bnd (q11 N (([32,33,34,35,36,37,38,39,40,41,42,43,44,45,46,47,48,49,50,51,52,53,54,55,56,57,58,59,60,61,62,63,64,65,66,67,68,69,70,71,72,73,74,75,76,77,78,79,80,81,82,83,84,85,86,87,88,89,90,91,92,93,94,95,96,97,98,99,100,101,102,103,104,105,106,107,108,109,110,111,112,113,114,115,116,117,118,119,120,121,122,123,124,125,126,194,161,194,162,194,163,194,164,194,165,194,166,194,167,194,169,194,171,194,174,194,176,194,183,194,187,194,189,194,191,195,128,195,129,195,130,195,131,195,132,195,133,195,134,195,135,195,136,195,137,195,138,195,139,195,140,195,141,195,142,195,143,195,145,195,146,195,147,195,148,195,149,195,150,195,152,195,153,195,154,195,155,195,156,195,159,195,160,195,161,195,162,195,163,195,164,195,165,195,166,195,167,195,168,195,169,195,170,195,171,195,172,195,173,195,174,195,175,195,177,195,178,195,179,195,180,195,181,195,182,195,184,195,185,195,186,195,187,195,188,197,146,197,147,226,128,148,226,128,152,226,128,153,226,128,156,226,128,157,226,128,162,226,128,166,226,132,162,226,153,170]:Y_),x)) fun v0 =>
   some v0))
  (bnd (q11 N (([32,33,34,35,36,37,38,39,40,41,42,43,44,45,46,47,48,49,50,51,52,53,54,55,56,57,58,59,60,61,62,63,64,65,66,67,68,69,70,71,72,73,74,75,76,77,78,79,80,81,82,83,84,85,86,87,88,89,90,91,92,93,94,95,96,97,98,99,100,101,102,103,104,105,106,107,108,109,110,111,112,113,114,115,116,117,118,119,120,121,122,123,124,125,126,194,161,194,162,194,163,194,164,194,165,194,166,194,167,194,169,194,171,194,174,194,176,194,183,194,187,194,189,194,191,195,128,195,129,195,130,195,131,195,132,195,133,195,134,195,135,195,136,195,137,195,138,195,139,195,140,195,141,195,142,195,143,195,145,195,146,195,147,195,148,195,149,195,150,195,152,195,153,195,154,195,155,195,156,195,159,195,160,195,161,195,162,195,163,195,164,195,165,195,166,195,167,195,168,195,169,195,170,195,171,195,172,195,173,195,174,195,175,195,177,195,178,195,179,195,180,195,181,195,182,195,184,195,185,195,186,195,187,195,188,197,146,197,147,226,128,148,226,128,152,226,128,153,226,128,156,226,128,157,226,128,162,226,128,166,226,132,162,226,153,170]:Y_),x)) fun v1 =>
  some v1)
def nZ:List PK:=[.k (.v (.str) [])]
def oA:List Kd:=[.v (.bool) []]
def q13(N:Nat) (x:Y_):Option (Bool) :=
 bnd (utf8_ValidString N x) fun v0 =>
 cnd (bS v0)
  (some false)
  (jn (fun (v1:Unit) =>
   some true)
  fun v2 =>
  bN (fun v3 (v4:Y_×Int) =>
   cnd (nlt (toN v4.2) (kQ v4.1))
    (bnd (q12 N (tL v4.1 (toN v4.2))) fun v5 =>
    cnd (ilt v5 0)
     (some false)
     (v3 (v4.1,ofN (lF (toN v4.2) (tM v4.1 (toN v4.2))))))
    (v2 ())) N (x,ofN 0))
def uP:List PK:=[.k (.v (.str) [])]
def uQ:List Kd:=[.v (.bool) []]
def q14(N:Nat) (x:Y_):Option (Bool) :=
 cnd (ilt (len x) 1)
  (some false)
  (cnd (ilt 16 (len x))
   (some false)
   (grd (inb 0 (len x))
    (cnd (ilt (n8 (aA x (toN 0) 0)) (n8 65))
     (some false)
     (grd (inb 0 (len x))
      (cnd (ilt (n8 90) (n8 (aA x (toN 0) 0)))
       (some false)
       (jn (fun (v0:Unit) =>
        some true)
       fun v1 =>
       bN (fun v2 (v3:Int) =>
        cnd (ilt v3 (len x))
         (jn (fun (v4:Unit) =>
          v2 (w64 (aF v3 1)))
         fun v5 =>
         grd (inb v3 (len x)) <|
         cnd (ilt (n8 (aA x (toN v3) 0)) (n8 65))
          (cnd (ilt (n8 (aA x (toN v3) 0)) (n8 48))
           (cnd (ine (n8 (aA x (toN v3) 0)) (n8 95))
            (cnd (ine (n8 (aA x (toN v3) 0)) (n8 45))
             (some false)
             (v5 ()))
            (v5 ()))
           (cnd (ilt (n8 57) (n8 (aA x (toN v3) 0)))
            (cnd (ine (n8 (aA x (toN v3) 0)) (n8 95))
             (cnd (ine (n8 (aA x (toN v3) 0)) (n8 45))
              (some false)
              (v5 ()))
             (v5 ()))
            (v5 ())))
          (cnd (ilt (n8 90) (n8 (aA x (toN v3) 0)))
           (cnd (ilt (n8 (aA x (toN v3) 0)) (n8 48))
            (cnd (ine (n8 (aA x (toN v3) 0)) (n8 95))
             (cnd (ine (n8 (aA x (toN v3) 0)) (n8 45))
              (some false)
              (v5 ()))
             (v5 ()))
            (cnd (ilt (n8 57) (n8 (aA x (toN v3) 0)))
             (cnd (ine (n8 (aA x (toN v3) 0)) (n8 95))
              (cnd (ine (n8 (aA x (toN v3) 0)) (n8 45))
               (some false)
               (v5 ()))
              (v5 ()))
             (v5 ())))
           (v5 ())))
         (v1 ())) N 0))))))
def yS:List PK:=[.k (.v (.u8) [])]
def yT:List Kd:=[.v (.st (.pair (.str) (.pair (.int .i64) (.pair (.int .i64) (.bool))))) []]
def q15(N:Nat) (x:UInt8):Option (Y_×Int×Int×Bool) :=
 grd (ieq (len (bD 8 (([]:Y_),0,0,false))) (ofN 8)) <|
 cnd (ile 8 (w64 (n8 x)))
  (some (([]:Y_),0,0,false))
  (grd (inb (n8 x) (ofN 8))
   (grd (ilt (n8 x) (len ([(([]:Y_),0,0,false),(([50,51,46,57,55,54]:Y_),5005,24,false),(([50,52]:Y_),5000,24,false),(([50,53]:Y_),4800,25,false),(([50,57,46,57,55]:Y_),4004,30,true),(([51,48]:Y_),4000,30,false),(([53,48]:Y_),2400,50,false),(([53,57,46,57,52]:Y_),2002,60,true)]:List (Y_×Int×Int×Bool))))
    (some (aA ([(([]:Y_),0,0,false),(([50,51,46,57,55,54]:Y_),5005,24,false),(([50,52]:Y_),5000,24,false),(([50,53]:Y_),4800,25,false),(([50,57,46,57,55]:Y_),4004,30,true),(([51,48]:Y_),4000,30,false),(([53,48]:Y_),2400,50,false),(([53,57,46,57,52]:Y_),2002,60,true)]:List (Y_×Int×Int×Bool)) (toN (n8 x)) ([],(0,(0,false)))))))
def NR:List PK:=[.k (.v (.u8) [])]
def NS:List Kd:=[.v (.bool) []]
def q16(N:Nat) (x:UInt8):Option (Bool) :=
 bnd (q15 N x) fun v0 =>
 some (ilt 0 v0.2.1)
def NT:List PK:=[.k (.v (.u8) [])]
def NU:List Kd:=[.v (.bool) []]
def q17(N:Nat) (x:UInt8):Option (Bool) :=
 bnd (q15 N x) fun v0 =>
 some v0.2.2.2
def NV:List PK:=[.k (.v (.u8) []),.k (.v (.bool) [])]
def NW:List Kd:=[.v (.int .i64) []]
def q18(N:Nat) (x:UInt8×Bool):Option (Int) :=
 bnd (q16 N x.1) fun v0 =>
 cnd (bS v0)
  (some 13)
  (cnd x.2
   (bnd (q17 N x.1) fun v1 =>
   cnd (bS v1)
    (some 13)
    (some 0))
   (some 0))
def NX:List PK:=[.k (.v Y1 [])]
def NY:List Kd:=[.v (.int .i64) []]
def q19(N:Nat) (x:D6):Option (Int) :=
 jn (fun (v0:Unit) =>
  bnd (q18 N (x.2.2.1,x.2.2.2.1)) fun v1 =>
  cnd (ine v1 0)
   (some v1)
   (cnd (ilt x.2.2.2.2.1 0)
    (some 2)
    (cnd (ilt 1099511627776 x.2.2.2.2.1)
     (some 2)
     (some 0))))
 fun v2 =>
 bnd (q13 N x.1) fun v3 =>
 cnd (bS v3)
  (some 10)
  (cnd (ilt 400 (len x.1))
   (some 9)
   (cnd (sne x.2.1 ([]:Y_))
    (bnd (q14 N x.2.1) fun v4 =>
    cnd (bS v4)
     (some 5)
     (v2 ()))
    (v2 ())))
def NZ:List PK:=[.k (.v (.int .i64) []),.k (.v (.int .i64) []),.k (.v (.int .i64) [])]
def OA:List Kd:=[.v (.bool) []]
def q20(N:Nat) (x:Int×Int×Int):Option (Bool) :=
 cnd (ile x.2.1 x.1)
  (some (ile x.1 x.2.2))
  (some false)
def ED:List PK:=[.k (.v Y5 [])]
def EE:List Kd:=[.v (.int .i64) []]
def q21(N:Nat) (x:D4):Option (Int) :=
 bnd (q14 N x.1) fun v0 =>
 cnd (bS v0)
  (some 5)
  (bnd (q20 N (x.2.1,0,14)) fun v1 =>
  cnd (bS v1)
   (some 2)
   (bnd (q20 N (x.2.2.1,1,w64 (aJ 15 x.2.1))) fun v2 =>
   cnd (bS v2)
    (some 2)
    (bnd (q20 N (x.2.2.2.1,0,31)) fun v3 =>
    cnd (bS v3)
     (some 2)
     (bnd (q20 N (x.2.2.2.2.1,1,w64 (aJ 32 x.2.2.2.1))) fun v4 =>
     cnd (bS v4)
      (some 2)
      (cnd (ilt (n8 x.2.2.2.2.2.1) (n8 1))
       (some 3)
       (cnd (ilt (n8 3) (n8 x.2.2.2.2.2.1))
        (some 3)
        (some 0)))))))
def OB:List PK:=[.k (.v (.slice Y5) [])]
def OC:List Kd:=[.v (.int .i64) []]
def q22(N:Nat) (x:List D4):Option (Int) :=
 cnd (ilt 16 (len x))
  (some 9)
  (jn (fun (v0:Unit) =>
   some 0)
  fun v1 =>
  bN (fun v2 (v3:Int) =>
   cnd (ilt v3 (len x))
    (grd (inb v3 (len x))
     (bnd (q21 N (aA x (toN v3) zG)) fun v4 =>
     cnd (ine v4 0)
      (some v4)
      (jn (fun (v5:Unit) =>
       cnd (ilt 0 v3)
        (grd (inb (w64 (aJ v3 1)) (len x))
         (cnd (slt (aA x (toN v3) zG).1 (aA x (toN (w64 (aJ v3 1))) zG).1)
          (some 8)
          (v2 (w64 (aF v3 1)))))
        (v2 (w64 (aF v3 1))))
      fun v6 =>
      cnd (ilt 0 v3)
       (grd (inb (w64 (aJ v3 1)) (len x))
        (cnd (seq (aA x (toN v3) zG).1 (aA x (toN (w64 (aJ v3 1))) zG).1)
         (some 7)
         (v6 ())))
       (v6 ()))))
    (v1 ())) N 0)
def EF:List PK:=[]
def EG:List Kd:=[.v Y5 []]
def q23(N:Nat) (x:Unit):Option D4 :=
 some (([]:Y_),11,4,0,32,2,true)
def OD:List PK:=[.k (.v (.slice Y5) []),.k (.v (.str) [])]
def OE:List Kd:=[.v Y5 [],.v (.bool) []]
def q24(N:Nat) (x:(List D4)×Y_):Option (D4×Bool) :=
 cnd (seq x.2 ([]:Y_))
  (bnd (q23 N ()) fun v0 =>
  some (v0,true))
  (jn (fun (v1:Unit) =>
   some ((([]:Y_),0,0,0,0,0,false),false))
  fun v2 =>
  bN (fun v3 (v4:Int) =>
   cnd (ilt v4 (len x.1))
    (grd (inb v4 (len x.1))
     (cnd (seq (aA x.1 (toN v4) zG).1 x.2)
      (some (aA x.1 (toN v4) zG,true))
      (v3 (w64 (aF v4 1)))))
    (v2 ())) N 0)
def OF:List PK:=[.k (.v (.st (.pair (.int .i64) (.int .i64))) [])]
def OG:List Kd:=[.v (.bool) []]
def q25(N:Nat) (x:Int×Int):Option (Bool) :=
 cnd (ile 0 x.1)
  (cnd (ilt x.1 x.2)
   (some (ile x.2 5184000))
   (some false))
  (some false)
def EH:List PK:=[]
def EI:List Kd:=[.v (.slice (.str)) [0]]
def q26(N:Nat) (x:Unit):Option (List Y_) :=
 some ([([68,73,65,76,79,71,85,69]:Y_),([83,79,85,78,68]:Y_),([84,73,84,76,69]:Y_),([77,85,83,73,67]:Y_)]:List Y_)
def EJ:List PK:=[.k (.v (.u8) [])]
def EK:List Kd:=[.v (.str) []]
def q27(N:Nat) (x:UInt8):Option Y_ :=
 cnd (ilt (n8 x) (n8 1))
  (some ([]:Y_))
  (cnd (ilt (n8 4) (n8 x))
   (some ([]:Y_))
   (bnd (q26 N ()) fun v0 =>
   grd (inb (n8 (b8 (aJ (n8 x) (n8 1)))) (len v0)) <|
   some (aA v0 (toN (n8 (b8 (aJ (n8 x) (n8 1))))) [])))
def OH:List PK:=[.k (.v (.st (.pair (.u8) (.pair (.bool) (.bool)))) [])]
def OI:List Kd:=[.v (.bool) []]
def q28(N:Nat) (x:UInt8×Bool×Bool):Option (Bool) :=
 some (ile (n8 x.1) (n8 6))
def OJ:List PK:=[.k (.v Y4 []),.k (.v Y4 [])]
def OK:List Kd:=[.v (.bool) []]
def q29(N:Nat) (x:D5×Y_×(UInt8×Bool×Bool)×Y_):Option (Bool) :=
 cnd (cZ (ieq (n8 x.1.2.1.1) (n8 x.2.2.1.1)) (cZ (nA x.1.2.1.2.1 x.2.2.1.2.1) (nA x.1.2.1.2.2 x.2.2.1.2.2)))
  (cnd (seq x.1.2.2 ([]:Y_))
   (some (seq x.2.2.2 ([]:Y_)))
   (some false))
  (some false)
def OL:List PK:=[.k (.v (.st (.slice Y4)) [])]
def OM:List Kd:=[.v (.int .i64) []]
def q30(N:Nat) (x:List D5):Option (Int) :=
 cnd (ilt 16 (len x))
  (some 9)
  (jn (fun (v0:Unit) =>
   some 0)
  fun v1 =>
  bN (fun v2 (v3:Int) =>
   cnd (ilt v3 (len x))
    (grd (inb v3 (len x))
     (bnd (q13 N (aA x (toN v3) zU).1) fun v4 =>
     cnd (bS v4)
      (some 10)
      (cnd (seq (aA x (toN v3) zU).1 ([]:Y_))
       (some 4)
       (bnd (q28 N (aA x (toN v3) zU).2.1) fun v5 =>
       cnd (bS v5)
        (some 12)
        (bnd (q13 N (aA x (toN v3) zU).2.2) fun v6 =>
        cnd (bS v6)
         (some 10)
         (cnd (ilt 0 v3)
          (grd (inb (w64 (aJ v3 1)) (len x))
           (bnd (q29 N (aA x (toN (w64 (aJ v3 1))) zU,aA x (toN v3) zU)) fun v7 =>
           cnd v7
            (some 8)
            (v2 (w64 (aF v3 1)))))
          (v2 (w64 (aF v3 1)))))))))
    (v1 ())) N 0)
def cP:List PK:=[.k (.b 131 Y7 [1])]
def cQ:List Kd:=[]
def cF(N:Nat) (x:Unit×Y_):Option (Unit×Y_):=dT N x
def EL:List PK:=[.k (.b 131 Y7 [1]),.k (.v (.str) [])]
def EM:List Kd:=[.v (.int .i64) [],.v (.nif) []]
def q31(N:Nat) (x:(Unit×Y_)×Y_):Option (Int×Bool×Unit×Y_) :=
 bnd (cF N ((),x.1.2)) fun v0 =>
 grd (cW (aF (len v0.2) (len x.2)) 1) <|
 some (len x.2,false,(),bR v0.2 x.2)
def ON:List PK:=[.k (.v (.st (.slice Y4)) [])]
def OO:List Kd:=[.v (.str) []]
def q32(N:Nat) (x:List D5):Option Y_ :=
 jn (fun (v0:Unit×Y_) =>
  some v0.2)
 fun v1 =>
 bN (fun v2 (v3:Int×Unit×Y_) =>
  cnd (ilt v3.1 (len x))
   (grd (inb v3.1 (len x))
    (bnd (q31 N (((),v3.2.2),(aA x (toN v3.1) zU).1)) fun v4 =>
    v2 (w64 (aF v3.1 1),(),v4.2.2.2)))
   (v1 ((),v3.2.2))) N (0,(),([]:Y_))
def fG:List PK:=[.k (.v (.str) []),.k (.v (.str) [])]
def fH:List Kd:=[.v (.bool) []]
def strings_Contains(N:Nat) (x:Y_×Y_):Option (Bool):=gS N x
def OP:List PK:=[.k (.v (.str) [])]
def OQ:List Kd:=[.v (.int .i64) []]
def q33(N:Nat) (x:Y_):Option (Int) :=
 jn (fun (v0:Int) =>
  some v0)
 fun v1 =>
 bN (fun v2 (v3:Int×Y_×Int) =>
  cnd (nlt (toN v3.2.2) (kQ v3.2.1))
   (v2 (w64 (aF v3.1 1),v3.2.1,ofN (lF (toN v3.2.2) (tM v3.2.1 (toN v3.2.2)))))
   (v1 v3.1)) N (0,x,ofN 0)
def OR:List PK:=[.k (.v (.str) [])]
def OS:List Kd:=[.v (.int .i64) []]
def q34(N:Nat) (x:Y_):Option (Int) :=
 bnd (q13 N x) fun v0 =>
 cnd (bS v0)
  (some (-1))
  (bnd (q33 N x) fun v1 =>
  some v1)
def EN:List PK:=[.k (.v (.st (.slice Y4)) [])]
def EO:List Kd:=[.v (.int .i64) []]
def q35(N:Nat) (x:List D5):Option (Int) :=
 jn (fun (v0:Int) =>
  some v0)
 fun v1 =>
 bN (fun v2 (v3:Int×Int) =>
  cnd (ilt v3.2 (len x))
   (grd (inb v3.2 (len x))
    (bnd (q34 N (aA x (toN v3.2) zU).1) fun v4 =>
    cnd (ilt v4 0)
     (some (-1))
     (v2 (w64 (aF v3.1 v4),w64 (aF v3.2 1)))))
   (v1 v3.1)) N (0,0)
def OT:List PK:=[.k (.v (.st (.slice Y4)) [])]
def OU:List Kd:=[.v (.int .i64) []]
def q36(N:Nat) (x:List D5):Option (Int) :=
 bnd (q30 N x) fun v0 =>
 cnd (ine v0 0)
  (some v0)
  (bnd (q32 N x) fun v1 =>
  cnd (seq v1 ([]:Y_))
   (some 4)
   (grd (inb 0 (len v1))
    (cnd (ieq (n8 (aA v1 (toN 0) 0)) (n8 32))
     (some 4)
     (grd (inb (w64 (aJ (len v1) 1)) (len v1))
      (cnd (ieq (n8 (aA v1 (toN (w64 (aJ (len v1) 1))) 0)) (n8 32))
       (some 4)
       (bnd (strings_Contains N (v1,([32,32]:Y_))) fun v2 =>
       cnd v2
        (some 4)
        (bnd (q35 N x) fun v3 =>
        cnd (ilt 32 v3)
         (some 11)
         (some 0))))))))
def EP:List PK:=[.k (.v (.st Y3) [])]
def EQ:List Kd:=[.v (.slice (.int .i64)) [0]]
def q37(N:Nat) (x:D1):Option (List Int) :=
 jn (fun (v0:List Int) =>
  some v0)
 fun v1 =>
 bN (fun v2 (v3:(List Int)×Int) =>
  cnd (ilt v3.2 (len x.2.2.2.2.2))
   (grd (inb v3.2 (len x.2.2.2.2.2))
    (bnd (q35 N (aA x.2.2.2.2.2 (toN v3.2) [])) fun v4 =>
    grd (cW (aF (len v3.1) (len ([v4]:List Int))) 8) <|
    v2 (bR v3.1 ([v4]:List Int),w64 (aF v3.2 1))))
   (v1 v3.1)) N (([]:List Int),0)
def OV:List PK:=[.k (.v Y5 [])]
def OW:List Kd:=[.v (.bool) []]
def q38(N:Nat) (x:D4):Option (Bool) :=
 bnd (q23 N ()) fun v0 =>
 cnd (cZ (seq x.1 v0.1) (cZ (ieq x.2.1 v0.2.1) (cZ (ieq x.2.2.1 v0.2.2.1) (cZ (ieq x.2.2.2.1 v0.2.2.2.1) (cZ (ieq x.2.2.2.2.1 v0.2.2.2.2.1) (cZ (ieq (n8 x.2.2.2.2.2.1) (n8 v0.2.2.2.2.2.1)) (nA x.2.2.2.2.2.2 v0.2.2.2.2.2.2)))))))
  (some true)
  (bnd (q21 N x) fun v1 =>
  some (ieq v1 0))
def OX:List PK:=[.k (.v Y5 []),.k (.v (.slice (.int .i64)) [])]
def OY:List Kd:=[.v (.slice (.st (.pair (.int .i64) (.pair (.int .i64) (.int .i64))))) [0],.v (.int .i64) []]
def q39(N:Nat) (x:D4×List Int):Option ((List (Int×Int×Int))×Int) :=
 bnd (q38 N x.1) fun v0 =>
 cnd (bS v0)
  (some (([]:List (Int×Int×Int)),1))
  (cnd (ilt x.1.2.2.1 (len x.2))
   (some (([]:List (Int×Int×Int)),9))
   (jn (fun (v1:Int) =>
    jn (fun (v2:List (Int×Int×Int)) =>
     some (v2,0))
    fun v3 =>
    bN (fun v4 (v5:(List (Int×Int×Int))×Int) =>
     cnd (ilt v5.2 (len x.2))
      (grd (inb v5.2 (len x.2))
       (cnd (ilt (aA x.2 (toN v5.2) 0) 0)
        (some (([]:List (Int×Int×Int)),2))
        (cnd (ilt x.1.2.2.2.2.1 (aA x.2 (toN v5.2) 0))
         (some (([]:List (Int×Int×Int)),11))
         (cnd (ieq (n8 x.1.2.2.2.2.2.1) (n8 3))
          (grd (cW (aF (len v5.1) (len ([(w64 (aF v1 v5.2),w64 (aF x.1.2.2.2.1 (w64 (aJ x.1.2.2.2.2.1 (aA x.2 (toN v5.2) 0)))),aA x.2 (toN v5.2) 0)]:List (Int×Int×Int)))) 24)
           (v4 (bR v5.1 ([(w64 (aF v1 v5.2),w64 (aF x.1.2.2.2.1 (w64 (aJ x.1.2.2.2.2.1 (aA x.2 (toN v5.2) 0)))),aA x.2 (toN v5.2) 0)]:List (Int×Int×Int)),w64 (aF v5.2 1))))
          (cnd (ieq (n8 x.1.2.2.2.2.2.1) (n8 2))
           (grd (cW (aF (len v5.1) (len ([(w64 (aF v1 v5.2),w64 (aF x.1.2.2.2.1 (w64 (YY (w64 (aJ x.1.2.2.2.2.1 (aA x.2 (toN v5.2) 0))) 2))),aA x.2 (toN v5.2) 0)]:List (Int×Int×Int)))) 24)
            (v4 (bR v5.1 ([(w64 (aF v1 v5.2),w64 (aF x.1.2.2.2.1 (w64 (YY (w64 (aJ x.1.2.2.2.2.1 (aA x.2 (toN v5.2) 0))) 2))),aA x.2 (toN v5.2) 0)]:List (Int×Int×Int)),w64 (aF v5.2 1))))
           (grd (cW (aF (len v5.1) (len ([(w64 (aF v1 v5.2),x.1.2.2.2.1,aA x.2 (toN v5.2) 0)]:List (Int×Int×Int)))) 24)
            (v4 (bR v5.1 ([(w64 (aF v1 v5.2),x.1.2.2.2.1,aA x.2 (toN v5.2) 0)]:List (Int×Int×Int)),w64 (aF v5.2 1)))))))))
      (v3 v5.1)) N (([]:List (Int×Int×Int)),0))
   fun v6 =>
   cnd x.1.2.2.2.2.2.2
    (v6 (w64 (aF x.1.2.1 (w64 (aJ x.1.2.2.1 (len x.2))))))
    (v6 x.1.2.1)))
def OZ:List PK:=[.k (.v (.st Y3) []),.k (.v (.slice Y5) [])]
def PA:List Kd:=[.v (.int .i64) []]
def q40(N:Nat) (x:D1×List D4):Option (Int) :=
 bnd (q24 N (x.2,x.1.2.2.1)) fun v0 =>
 cnd (ilt x.1.1 1)
  (some 2)
  (cnd (ilt 1099511627776 x.1.1)
   (some 2)
   (bnd (q25 N x.1.2.1) fun v1 =>
   cnd (bS v1)
    (some 2)
    (cnd (bS v0.2)
     (some 6)
     (bnd (q27 N x.1.2.2.2.1) fun v2 =>
     cnd (seq v2 ([]:Y_))
      (some 3)
      (jn (fun (v3:Bool) =>
       cnd v3
        (some 5)
        (cnd (ieq (len x.1.2.2.2.2.2) 0)
         (some 9)
         (cnd (ilt 4 (len x.1.2.2.2.2.2))
          (some 9)
          (jn (fun (v4:Unit) =>
           bnd (q37 N x.1) fun v5 =>
           bnd (q39 N (v0.1,v5)) fun v6 =>
           some v6.2)
          fun v7 =>
          bN (fun v8 (v9:Int) =>
           cnd (ilt v9 (len x.1.2.2.2.2.2))
            (grd (inb v9 (len x.1.2.2.2.2.2))
             (bnd (q36 N (aA x.1.2.2.2.2.2 (toN v9) [])) fun v10 =>
             cnd (ine v10 0)
              (some v10)
              (v8 (w64 (aF v9 1)))))
            (v7 ())) N 0))))
      fun v11 =>
      cnd (sne x.1.2.2.2.2.1 ([]:Y_))
       (bnd (q14 N x.1.2.2.2.2.1) fun v12 =>
       v11 (bS v12))
       (v11 false))))))
def PB:List PK:=[.k (.v (.int .i64) [])]
def PC:List Kd:=[.v (.bool) []]
def q41(N:Nat) (x:Int):Option (Bool) :=
 some (ine x x)
def PD:List PK:=[.k (.v (.int .i64) []),.k (.v (.int .i64) [])]
def PE:List Kd:=[.v (.int .i64) []]
def q42(N:Nat) (x:Int×Int):Option (Int) :=
 bnd (q41 N x.1) fun v0 =>
 bnd (q41 N x.2) fun v1 =>
 cnd v0
  (cnd v1
   (some 0)
   (some (-1)))
  (cnd v1
   (some 1)
   (cnd (ilt x.1 x.2)
    (some (-1))
    (cnd (ilt x.2 x.1)
     (some 1)
     (some 0))))
def PF:List PK:=[.k (.v (.slice (.int .i64)) [])]
def PG:List Kd:=[.v (.int .i64) []]
def q43(N:Nat) (x:List Int):Option (Int) :=
 jn (fun (v0:Unit) =>
  some 0)
 fun v1 =>
 bN (fun v2 (v3:Int) =>
  cnd (ilt v3 (len x))
   (grd (inb v3 (len x))
    (cnd (ine (aA x (toN v3) 0) 0)
     (some (aA x (toN v3) 0))
     (v2 (w64 (aF v3 1)))))
   (v1 ())) N 0
def PH:List PK:=[.k (.v (.st Y3) []),.k (.v (.st Y3) [])]
def PI:List Kd:=[.v (.bool) []]
def q44(N:Nat) (x:D1×Int×(Int×Int)×Y_×UInt8×Y_×List (List D5)):Option (Bool) :=
 bnd (q42 N (x.1.2.1.1,x.2.2.1.1)) fun v0 =>
 bnd (q42 N (x.1.1,x.2.1)) fun v1 =>
 bnd (q43 N ([v0,v1]:List Int)) fun v2 =>
 some (ilt v2 0)
def PJ:List PK:=[.k (.v (.st Y3) [])]
def PL:List Kd:=[.v (.int .i64) []]
def q45(N:Nat) (x:D1):Option (Int) :=
 jn (fun (v0:Int) =>
  some v0)
 fun v1 =>
 bnd (q37 N x) fun v2 =>
 bN (fun v3 (v4:Int×Int) =>
  cnd (ilt v4.2 (len v2))
   (grd (inb v4.2 (len v2))
    (cnd (ilt (aA v2 (toN v4.2) 0) 0)
     (some (-1))
     (v3 (w64 (aF v4.1 (aA v2 (toN v4.2) 0)),w64 (aF v4.2 1)))))
   (v1 v4.1)) N (HM (w64 (aJ (len x.2.2.2.2.2) 1)) 0,0)
def PM:List PK:=[.k (.v Y1 []),.k (.v Y6 []),.k (.m (.int .i64) (.int .i64))]
def PN:List Kd:=[.v (.int .i64) []]
def q46(N:Nat) (x:D6×D3×List (Int×Int)):Option (Int×List (Int×Int)) :=
 cnd (ilt x.2.1.2.1 1)
  (some (2,x.2.2))
  (cnd (ilt x.1.2.2.2.2.1 x.2.1.2.1)
   (some (2,x.2.2))
   (cnd x.2.1.2.2.2.2.2.2.2
    (cnd (ine x.2.1.2.2.1 0)
     (some (2,x.2.2))
     (cnd (ine x.2.1.2.2.2.1 0)
      (some (2,x.2.2))
      (some (0,x.2.2))))
    (cnd (bS (gU ieq x.2.2 x.2.1.2.1))
     (some (6,x.2.2))
     (cnd (ilt x.2.1.2.2.1 0)
      (some (2,x.2.2))
      (cnd (ile x.2.1.2.2.2.1 x.2.1.2.2.1)
       (some (2,x.2.2))
       (grd (inb (lG ieq 0 x.2.2 x.2.1.2.1) (len x.1.2.2.2.2.2.2.1))
        (bnd (q45 N (aA x.1.2.2.2.2.2.2.1 (toN (lG ieq 0 x.2.2 x.2.1.2.1)) zE)) fun v0 =>
        cnd (ilt v0 x.2.1.2.2.2.1)
         (some (2,x.2.2))
         (some (0,x.2.2)))))))))
def PO:List PK:=[.k (.v Y1 []),.k (.m (.int .i64) (.int .i64))]
def PP:List Kd:=[.v (.int .i64) []]
def q47(N:Nat) (x:D6×List (Int×Int)):Option (Int×List (Int×Int)) :=
 cnd (ilt 64 (len x.1.2.2.2.2.2.2.2))
  (some (9,x.2))
  (jn (fun (v0:List (Int×Int)) =>
   some (0,v0))
  fun v1 =>
  bN (fun v2 (v3:Int×List (Int×Int)) =>
   cnd (ilt v3.1 (len x.1.2.2.2.2.2.2.2))
    (grd (inb v3.1 (len x.1.2.2.2.2.2.2.2))
     (jn (fun (v4:Unit) =>
      bnd (q46 N (x.1,aA x.1.2.2.2.2.2.2.2 (toN v3.1) zC,v3.2)) fun v5 =>
      cnd (ine v5.1 0)
       (some v5)
       (bnd (q14 N (aA x.1.2.2.2.2.2.2.2 (toN v3.1) zC).2.2.2.2.1) fun v6 =>
       cnd (bS v6)
        (some (5,v5.2))
        (bnd (q13 N (aA x.1.2.2.2.2.2.2.2 (toN v3.1) zC).2.2.2.2.2.1) fun v7 =>
        cnd (bS v7)
         (some (10,v5.2))
         (cnd (seq (aA x.1.2.2.2.2.2.2.2 (toN v3.1) zC).2.2.2.2.2.1 ([]:Y_))
          (some (4,v5.2))
          (cnd (ilt 400 (len (aA x.1.2.2.2.2.2.2.2 (toN v3.1) zC).2.2.2.2.2.1))
           (some (9,v5.2))
           (v2 (w64 (aF v3.1 1),v5.2)))))))
     fun v8 =>
     cnd (ilt (aA x.1.2.2.2.2.2.2.2 (toN v3.1) zC).1 1)
      (some (2,v3.2))
      (cnd (ilt x.1.2.2.2.2.1 (aA x.1.2.2.2.2.2.2.2 (toN v3.1) zC).1)
       (some (2,v3.2))
       (cnd (ilt 0 v3.1)
        (grd (inb (w64 (aJ v3.1 1)) (len x.1.2.2.2.2.2.2.2))
         (cnd (ile (aA x.1.2.2.2.2.2.2.2 (toN v3.1) zC).1 (aA x.1.2.2.2.2.2.2.2 (toN (w64 (aJ v3.1 1))) zC).1)
          (some (8,v3.2))
          (cnd (gU ieq v3.2 (aA x.1.2.2.2.2.2.2.2 (toN v3.1) zC).1)
           (some (7,v3.2))
           (v8 ()))))
        (cnd (gU ieq v3.2 (aA x.1.2.2.2.2.2.2.2 (toN v3.1) zC).1)
         (some (7,v3.2))
         (v8 ()))))))
    (v1 v3.2)) N (0,x.2))
def yU:List PK:=[.k (.v Y1 [])]
def yV:List Kd:=[.v (.int .i64) []]
def q48(N:Nat) (x:D6):Option (Int) :=
 bnd (q19 N x) fun v0 =>
 cnd (ine v0 0)
  (some v0)
  (bnd (q22 N x.2.2.2.2.2.1) fun v1 =>
  cnd (ine v1 0)
   (some v1)
   (cnd (ilt 400 (len x.2.2.2.2.2.2.1))
    (some 9)
    (jn (fun (v2:List (Int×Int)) =>
     bnd (q47 N (x,v2)) fun v3 =>
     some v3.1)
    fun v4 =>
    bN (fun v5 (v6:Int×List (Int×Int)) =>
     cnd (ilt v6.1 (len x.2.2.2.2.2.2.1))
      (grd (inb v6.1 (len x.2.2.2.2.2.2.1))
       (bnd (q40 N (aA x.2.2.2.2.2.2.1 (toN v6.1) zE,x.2.2.2.2.2.1)) fun v7 =>
       cnd (ine v7 0)
        (some v7)
        (cnd (ilt x.2.2.2.2.1 (aA x.2.2.2.2.2.2.1 (toN v6.1) zE).1)
         (some 2)
         (cnd (ilt 0 v6.1)
          (grd (inb (w64 (aJ v6.1 1)) (len x.2.2.2.2.2.2.1))
           (bnd (q44 N (aA x.2.2.2.2.2.2.1 (toN (w64 (aJ v6.1 1))) zE,aA x.2.2.2.2.2.2.1 (toN v6.1) zE)) fun v8 =>
           cnd (bS v8)
            (some 8)
            (cnd (gU ieq v6.2 (aA x.2.2.2.2.2.2.1 (toN v6.1) zE).1)
             (some 7)
             (v5 (w64 (aF v6.1 1),nB ieq v6.2 (aA x.2.2.2.2.2.2.1 (toN v6.1) zE).1 v6.1)))))
          (cnd (gU ieq v6.2 (aA x.2.2.2.2.2.2.1 (toN v6.1) zE).1)
           (some 7)
           (v5 (w64 (aF v6.1 1),nB ieq v6.2 (aA x.2.2.2.2.2.2.1 (toN v6.1) zE).1 v6.1)))))))
      (v4 v6.2)) N (0,([]:List (Int×Int))))))
def ER:List PK:=[.k (.v (.u8) [])]
def ES:List Kd:=[.v (.str) []]
def q49(N:Nat) (x:UInt8):Option Y_ :=
 bnd (q15 N x) fun v0 =>
 some v0.1
def PQ:List PK:=[.k (.v (.str) []),.k (.v (.bool) [])]
def PR:List Kd:=[.v (.st (.pair (.str) (.str))) []]
def q50(N:Nat) (x:Y_×Bool):Option D7 :=
 cnd x.2
  (some (x.1,([49]:Y_)))
  (some (x.1,([]:Y_)))
def eC:List PK:=[.k (.v (.int .i64) []),.k (.v (.int .i64) [])]
def eD:List Kd:=[.v (.str) []]
def cG(N:Nat) (x:Int×Int):Option Y_:=cM N x
def PS:List PK:=[.k (.v (.int .i64) []),.k (.v (.int .i64) [])]
def PT:List Kd:=[.v (.str) []]
def q51(N:Nat) (x:Int×Int):Option Y_ :=
 bnd (cG N x) fun v0 =>
 some v0
def ET:List PK:=[.k (.v (.int .i64) [])]
def EU:List Kd:=[.v (.str) []]
def q52(N:Nat) (x:Int):Option Y_ :=
 bnd (q51 N (x,10)) fun v0 =>
 some v0
def PU:List PK:=[.k (.v (.str) []),.k (.v (.int .i64) [])]
def PV:List Kd:=[.v (.st (.pair (.str) (.str))) []]
def q53(N:Nat) (x:Y_×Int):Option D7 :=
 bnd (q52 N x.2) fun v0 =>
 some (x.1,v0)
def PW:List PK:=[.k (.b 77 (.slice Y2) [0]),.k (.v (.int .i64) []),.k (.v (.str) []),.k (.v (.slice (.st (.pair (.str) (.str)))) [])]
def PX:List Kd:=[]
def q54(N:Nat) (x:(List D2)×Int×Y_×List D7):Option (List D2) :=
 jn (fun (v0:D2) =>
  grd (cW (aF (len x.1) (len ([v0]:List D2))) 64) <|
  some (bR x.1 ([v0]:List D2)))
 fun v1 =>
 bN (fun v2 (v3:Int×Y_×Y_×(List D7)×Int) =>
  cnd (ilt v3.1 (len x.2.2.2))
   (grd (inb v3.1 (len x.2.2.2))
    (cnd (sne (aA x.2.2.2 (toN v3.1) ([],[])).2 ([]:Y_))
     (grd (cW (aF (len v3.2.2.2.1) (len ([aA x.2.2.2 (toN v3.1) ([],[])]:List D7))) 32)
      (v2 (w64 (aF v3.1 1),v3.2.1,v3.2.2.1,bR v3.2.2.2.1 ([aA x.2.2.2 (toN v3.1) ([],[])]:List D7),v3.2.2.2.2)))
     (v2 (w64 (aF v3.1 1),v3.2))))
   (v1 v3.2)) N (0,x.2.2.1,([]:Y_),([]:List D7),x.2.1)
def EV:List PK:=[.k (.v Y1 [])]
def EW:List Kd:=[.v (.slice Y2) [0],.v (.int .i64) []]
def q55(N:Nat) (x:D6):Option ((List D2)×Int) :=
 bnd (q48 N x) fun v0 =>
 cnd (ine v0 0)
  (some (([]:List D2),v0))
  (bnd (q49 N x.2.2.1) fun v1 =>
  bnd (q50 N (([100,114,111,112]:Y_),x.2.2.2.1)) fun v2 =>
  bnd (q53 N (([108,97,115,116]:Y_),x.2.2.2.2.1)) fun v3 =>
  bnd (q54 N (([]:List D2),0,([116,116]:Y_),([(([116,105,116,108,101]:Y_),x.1),(([108,97,110,103]:Y_),x.2.1),(([114,97,116,101]:Y_),v1),v2,v3]:List D7))) fun v4 =>
  jn (fun (v5:List D2) =>
   jn (fun (v6:List D2) =>
    cnd (ilt 8192 (len v6))
     (some (([]:List D2),9))
     (some (v6,0)))
   fun v7 =>
   bN (fun v8 (v9:Int×List D2) =>
    cnd (ilt v9.1 (len x.2.2.2.2.2.2.1))
     (jn (fun (v10:List D2) =>
      v8 (w64 (aF v9.1 1),v10))
     fun v11 =>
     grd (inb v9.1 (len x.2.2.2.2.2.2.1)) <|
     bnd (q53 N (([105,100]:Y_),(aA x.2.2.2.2.2.2.1 (toN v9.1) zE).1)) fun v12 =>
     bnd (q52 N (aA x.2.2.2.2.2.2.1 (toN v9.1) zE).2.1.1) fun v13 =>
     grd (gQ (aF (len v13) (len ([102]:Y_)))) <|
     bnd (q52 N (aA x.2.2.2.2.2.2.1 (toN v9.1) zE).2.1.2) fun v14 =>
     grd (gQ (aF (len v14) (len ([102]:Y_)))) <|
     bnd (q27 N (aA x.2.2.2.2.2.2.1 (toN v9.1) zE).2.2.2.1) fun v15 =>
     bnd (q54 N (v9.2,1,([112]:Y_),([v12,(([105,110]:Y_),bR v13 ([102]:Y_)),(([111,117,116]:Y_),bR v14 ([102]:Y_)),(([114,101,103,105,111,110]:Y_),(aA x.2.2.2.2.2.2.1 (toN v9.1) zE).2.2.1),(([107,105,110,100]:Y_),v15),(([115,112,101,97,107,101,114]:Y_),(aA x.2.2.2.2.2.2.1 (toN v9.1) zE).2.2.2.2.1)]:List D7))) fun v16 =>
     bN (fun v17 (v18:Int×List D2) =>
      cnd (ilt v18.1 (len (aA x.2.2.2.2.2.2.1 (toN v9.1) zE).2.2.2.2.2))
       (jn (fun (v19:List D2) =>
        v17 (w64 (aF v18.1 1),v19))
       fun v20 =>
       grd (inb v18.1 (len (aA x.2.2.2.2.2.2.1 (toN v9.1) zE).2.2.2.2.2)) <|
       bnd (q54 N (v18.2,2,([114,111,119]:Y_),([]:List D7))) fun v21 =>
       bN (fun v22 (v23:Int×List D2) =>
        cnd (ilt v23.1 (len (aA (aA x.2.2.2.2.2.2.1 (toN v9.1) zE).2.2.2.2.2 (toN v18.1) [])))
         (grd (inb v23.1 (len (aA (aA x.2.2.2.2.2.2.1 (toN v9.1) zE).2.2.2.2.2 (toN v18.1) [])))
          (jn (fun (v24:Y_) =>
           bnd (q50 N (([105,116,97,108,105,99]:Y_),(aA (aA (aA x.2.2.2.2.2.2.1 (toN v9.1) zE).2.2.2.2.2 (toN v18.1) []) (toN v23.1) zU).2.1.2.1)) fun v25 =>
           bnd (q50 N (([117,110,100,101,114,108,105,110,101]:Y_),(aA (aA (aA x.2.2.2.2.2.2.1 (toN v9.1) zE).2.2.2.2.2 (toN v18.1) []) (toN v23.1) zU).2.1.2.2)) fun v26 =>
           bnd (q54 N (v23.2,3,([114,117,110]:Y_),([(([99,111,108,111,114]:Y_),v24),v25,v26,(([114,117,98,121]:Y_),(aA (aA (aA x.2.2.2.2.2.2.1 (toN v9.1) zE).2.2.2.2.2 (toN v18.1) []) (toN v23.1) zU).2.2)]:List D7))) fun v27 =>
           grd (cW (aF (len v27) (len ([(([]:Y_),(aA (aA (aA x.2.2.2.2.2.2.1 (toN v9.1) zE).2.2.2.2.2 (toN v18.1) []) (toN v23.1) zU).1,([]:List D7),4)]:List D2))) 64) <|
           v22 (w64 (aF v23.1 1),bR v27 ([(([]:Y_),(aA (aA (aA x.2.2.2.2.2.2.1 (toN v9.1) zE).2.2.2.2.2 (toN v18.1) []) (toN v23.1) zU).1,([]:List D7),4)]:List D2)))
          fun v28 =>
          cnd (ine (n8 (aA (aA (aA x.2.2.2.2.2.2.1 (toN v9.1) zE).2.2.2.2.2 (toN v18.1) []) (toN v23.1) zU).2.1.1) (n8 0))
           (grd (inb (n8 (aA (aA (aA x.2.2.2.2.2.2.1 (toN v9.1) zE).2.2.2.2.2 (toN v18.1) []) (toN v23.1) zU).2.1.1) (ofN 7))
            (v28 (aA gl1 (toN (n8 (aA (aA (aA x.2.2.2.2.2.2.1 (toN v9.1) zE).2.2.2.2.2 (toN v18.1) []) (toN v23.1) zU).2.1.1)) [])))
           (v28 ([]:Y_))))
         (v20 v23.2)) N (0,v21))
       (v11 v18.2)) N (0,v16))
     (v7 v9.2)) N (0,v5))
  fun v29 =>
  bN (fun v30 (v31:Int×List D2) =>
   cnd (ilt v31.1 (len x.2.2.2.2.2.1))
    (grd (inb v31.1 (len x.2.2.2.2.2.1))
     (jn (fun (v32:Y_) =>
      bnd (q53 N (([116,111,112]:Y_),(aA x.2.2.2.2.2.1 (toN v31.1) zG).2.1)) fun v33 =>
      bnd (q53 N (([104,101,105,103,104,116]:Y_),(aA x.2.2.2.2.2.1 (toN v31.1) zG).2.2.1)) fun v34 =>
      bnd (q53 N (([108,101,102,116]:Y_),(aA x.2.2.2.2.2.1 (toN v31.1) zG).2.2.2.1)) fun v35 =>
      bnd (q53 N (([119,105,100,116,104]:Y_),(aA x.2.2.2.2.2.1 (toN v31.1) zG).2.2.2.2.1)) fun v36 =>
      grd (inb (n8 (b8 (aJ (n8 (aA x.2.2.2.2.2.1 (toN v31.1) zG).2.2.2.2.2.1) (n8 1)))) (ofN 3)) <|
      bnd (q54 N (v31.2,1,([114,101,103,105,111,110]:Y_),([(([110,97,109,101]:Y_),(aA x.2.2.2.2.2.1 (toN v31.1) zG).1),v33,v34,v35,v36,(([97,108,105,103,110]:Y_),aA gl0 (toN (n8 (b8 (aJ (n8 (aA x.2.2.2.2.2.1 (toN v31.1) zG).2.2.2.2.2.1) (n8 1))))) []),(([97,110,99,104,111,114]:Y_),v32)]:List D7))) fun v37 =>
      v30 (w64 (aF v31.1 1),v37))
     fun v38 =>
     cnd (aA x.2.2.2.2.2.1 (toN v31.1) zG).2.2.2.2.2.2
      (v38 ([66,79,84,84,79,77]:Y_))
      (v38 ([84,79,80]:Y_))))
    (v29 v31.2)) N (0,v4))
def PY:List PK:=[.k (.v (.slice Y2) []),.k (.v (.int .i64) [])]
def PZ:List Kd:=[.v (.int .i64) []]
def q56(N:Nat) (x:(List D2)×Int):Option (Int) :=
 grd (inb x.2 (len x.1)) <|
 cnd (ieq x.2 0)
  (cnd (ine (aA x.1 (toN x.2) zN).2.2.2 0)
   (some 8)
   (some 0))
  (grd (inb (w64 (aJ x.2 1)) (len x.1))
   (jn (fun (v0:Int) =>
    cnd (ilt (aA x.1 (toN x.2) zN).2.2.2 1)
     (some 8)
     (cnd (ilt v0 (aA x.1 (toN x.2) zN).2.2.2)
      (some 8)
      (cnd (ilt 15 (aA x.1 (toN x.2) zN).2.2.2)
       (some 9)
       (some 0))))
   fun v1 =>
   grd (inb (w64 (aJ x.2 1)) (len x.1)) <|
   cnd (sne (aA x.1 (toN (w64 (aJ x.2 1))) zN).1 ([]:Y_))
    (v1 (w64 (aF (aA x.1 (toN (w64 (aJ x.2 1))) zN).2.2.2 1)))
    (v1 (aA x.1 (toN (w64 (aJ x.2 1))) zN).2.2.2)))
def EX:List PK:=[.k (.v (.u8) [])]
def EY:List Kd:=[.v (.bool) []]
def q57(N:Nat) (x:UInt8):Option (Bool) :=
 cnd (ile (n8 97) (n8 x))
  (cnd (ile (n8 x) (n8 122))
   (some true)
   (cnd (ile (n8 65) (n8 x))
    (some (ile (n8 x) (n8 90)))
    (some false)))
  (cnd (ile (n8 65) (n8 x))
   (some (ile (n8 x) (n8 90)))
   (some false))
def QA:List PK:=[.k (.v (.u8) [])]
def QB:List Kd:=[.v (.bool) []]
def q58(N:Nat) (x:UInt8):Option (Bool) :=
 bnd (q57 N x) fun v0 =>
 cnd v0
  (some true)
  (cnd (ile (n8 48) (n8 x))
   (cnd (ile (n8 x) (n8 57))
    (some true)
    (some (ieq (n8 x) (n8 45))))
   (some (ieq (n8 x) (n8 45))))
def oB:List PK:=[.k (.v (.str) [])]
def oC:List Kd:=[.v (.bool) []]
def iM(N:Nat) (x:Y_):Option (Bool) :=
 cnd (ilt (len x) 1)
  (some false)
  (cnd (ilt 32 (len x))
   (some false)
   (grd (inb 0 (len x))
    (bnd (q57 N (aA x (toN 0) 0)) fun v0 =>
    cnd (bS v0)
     (some false)
     (jn (fun (v1:Unit) =>
      some true)
     fun v2 =>
     bN (fun v3 (v4:Int) =>
      cnd (ilt v4 (len x))
       (grd (inb v4 (len x))
        (bnd (q58 N (aA x (toN v4) 0)) fun v5 =>
        cnd (bS v5)
         (some false)
         (v3 (w64 (aF v4 1)))))
       (v2 ())) N 0))))
def QC:List PK:=[.k (.v Y2 [])]
def QD:List Kd:=[.v (.int .i64) []]
def q59(N:Nat) (x:D2):Option (Int) :=
 bnd (iM N x.1) fun v0 =>
 cnd (bS v0)
  (some 5)
  (cnd (sne x.2.1 ([]:Y_))
   (some 4)
   (cnd (ilt 16 (len x.2.2.1))
    (some 9)
    (jn (fun (v1:Unit) =>
     some 0)
    fun v2 =>
    bN (fun v3 (v4:Int×List (Y_×Bool)) =>
     cnd (ilt v4.1 (len x.2.2.1))
      (grd (inb v4.1 (len x.2.2.1))
       (bnd (iM N (aA x.2.2.1 (toN v4.1) ([],[])).1) fun v5 =>
       cnd (bS v5)
        (some 5)
        (cnd (lG seq false v4.2 (aA x.2.2.1 (toN v4.1) ([],[])).1)
         (some 7)
         (bnd (q13 N (aA x.2.2.1 (toN v4.1) ([],[])).2) fun v6 =>
         cnd (bS v6)
          (some 10)
          (v3 (w64 (aF v4.1 1),nB seq v4.2 (aA x.2.2.1 (toN v4.1) ([],[])).1 true))))))
      (v2 ())) N (0,([]:List (Y_×Bool))))))
def QE:List PK:=[.k (.v (.slice Y2) []),.k (.v (.int .i64) [])]
def QF:List Kd:=[.v (.int .i64) []]
def q60(N:Nat) (x:(List D2)×Int):Option (Int) :=
 grd (inb x.2 (len x.1)) <|
 jn (fun (v0:Bool) =>
  cnd v0
   (some 8)
   (cnd (seq (aA x.1 (toN x.2) zN).2.1 ([]:Y_))
    (some 4)
    (cnd (ilt 0 (len (aA x.1 (toN x.2) zN).2.2.1))
     (some 4)
     (bnd (q13 N (aA x.1 (toN x.2) zN).2.1) fun v1 =>
     cnd (bS v1)
      (some 10)
      (some 0)))))
 fun v2 =>
 cnd (ieq x.2 0)
  (v2 true)
  (grd (inb (w64 (aJ x.2 1)) (len x.1))
   (cnd (seq (aA x.1 (toN (w64 (aJ x.2 1))) zN).1 ([]:Y_))
    (grd (inb (w64 (aJ x.2 1)) (len x.1))
     (v2 (ieq (aA x.1 (toN (w64 (aJ x.2 1))) zN).2.2.2 (aA x.1 (toN x.2) zN).2.2.2)))
    (v2 false)))
def EZ:List PK:=[.k (.v (.slice Y2) [])]
def FA:List Kd:=[.v (.int .i64) []]
def q61(N:Nat) (x:List D2):Option (Int) :=
 cnd (ieq (len x) 0)
  (some 6)
  (cnd (ilt 8192 (len x))
   (some 9)
   (jn (fun (v0:Unit) =>
    some 0)
   fun v1 =>
   bN (fun v2 (v3:Int) =>
    cnd (ilt v3 (len x))
     (grd (inb v3 (len x))
      (bnd (q56 N (x,v3)) fun v4 =>
      cnd (ine v4 0)
       (some v4)
       (cnd (sne (aA x (toN v3) zN).1 ([]:Y_))
        (bnd (q59 N (aA x (toN v3) zN)) fun v5 =>
        cnd (ine v5 0)
         (some v5)
         (v2 (w64 (aF v3 1))))
        (bnd (q60 N (x,v3)) fun v6 =>
        cnd (ine v6 0)
         (some v6)
         (v2 (w64 (aF v3 1)))))))
     (v1 ())) N 0))
def fT:List PK:=[.k (.v (.str) []),.k (.v (.str) []),.k (.v (.str) []),.k (.v (.int .i64) [])]
def fU:List Kd:=[.v (.str) []]
def strings_Replace(N:Nat) (x:Y_×Y_×Y_×Int):Option Y_:=iL N x
def QG:List PK:=[.k (.v (.str) []),.k (.v (.str) []),.k (.v (.str) [])]
def QH:List Kd:=[.v (.str) []]
def q62(N:Nat) (x:Y_×Y_×Y_):Option Y_ :=
 bnd (strings_Replace N (x.1,x.2.1,x.2.2,(-1))) fun v0 =>
 some v0
def QI:List PK:=[.k (.v (.str) [])]
def QJ:List Kd:=[.v (.str) []]
def q63(N:Nat) (x:Y_):Option Y_ :=
 jn (fun (v0:Y_) =>
  some v0)
 fun v1 =>
 bN (fun v2 (v3:Y_×Int) =>
  cnd (ilt v3.2 5)
   (grd (inb v3.2 (ofN 5))
    (grd (ieq (len (bD 2 ([]:Y_))) (ofN 2))
     (grd (inb 1 (ofN 2))
      (grd (ilt 1 (len ([aA (aA ([([aA (aA gl2 0 (bD 2 [])) 0 [],aA (aA gl2 0 (bD 2 [])) 1 []]:List Y_),([aA (aA gl2 1 (bD 2 [])) 0 [],aA (aA gl2 1 (bD 2 [])) 1 []]:List Y_),([aA (aA gl2 2 (bD 2 [])) 0 [],aA (aA gl2 2 (bD 2 [])) 1 []]:List Y_),([aA (aA gl2 3 (bD 2 [])) 0 [],aA (aA gl2 3 (bD 2 [])) 1 []]:List Y_),([aA (aA gl2 4 (bD 2 [])) 0 [],aA (aA gl2 4 (bD 2 [])) 1 []]:List Y_)]:List (List Y_)) (toN v3.2) (bD 2 [])) 0 [],aA (aA ([([aA (aA gl2 0 (bD 2 [])) 0 [],aA (aA gl2 0 (bD 2 [])) 1 []]:List Y_),([aA (aA gl2 1 (bD 2 [])) 0 [],aA (aA gl2 1 (bD 2 [])) 1 []]:List Y_),([aA (aA gl2 2 (bD 2 [])) 0 [],aA (aA gl2 2 (bD 2 [])) 1 []]:List Y_),([aA (aA gl2 3 (bD 2 [])) 0 [],aA (aA gl2 3 (bD 2 [])) 1 []]:List Y_),([aA (aA gl2 4 (bD 2 [])) 0 [],aA (aA gl2 4 (bD 2 [])) 1 []]:List Y_)]:List (List Y_)) (toN v3.2) (bD 2 [])) 1 []]:List Y_)))
       (grd (inb 0 (ofN 2))
        (grd (ilt 0 (len ([aA (aA ([([aA (aA gl2 0 (bD 2 [])) 0 [],aA (aA gl2 0 (bD 2 [])) 1 []]:List Y_),([aA (aA gl2 1 (bD 2 [])) 0 [],aA (aA gl2 1 (bD 2 [])) 1 []]:List Y_),([aA (aA gl2 2 (bD 2 [])) 0 [],aA (aA gl2 2 (bD 2 [])) 1 []]:List Y_),([aA (aA gl2 3 (bD 2 [])) 0 [],aA (aA gl2 3 (bD 2 [])) 1 []]:List Y_),([aA (aA gl2 4 (bD 2 [])) 0 [],aA (aA gl2 4 (bD 2 [])) 1 []]:List Y_)]:List (List Y_)) (toN v3.2) (bD 2 [])) 0 [],aA (aA ([([aA (aA gl2 0 (bD 2 [])) 0 [],aA (aA gl2 0 (bD 2 [])) 1 []]:List Y_),([aA (aA gl2 1 (bD 2 [])) 0 [],aA (aA gl2 1 (bD 2 [])) 1 []]:List Y_),([aA (aA gl2 2 (bD 2 [])) 0 [],aA (aA gl2 2 (bD 2 [])) 1 []]:List Y_),([aA (aA gl2 3 (bD 2 [])) 0 [],aA (aA gl2 3 (bD 2 [])) 1 []]:List Y_),([aA (aA gl2 4 (bD 2 [])) 0 [],aA (aA gl2 4 (bD 2 [])) 1 []]:List Y_)]:List (List Y_)) (toN v3.2) (bD 2 [])) 1 []]:List Y_)))
         (bnd (q62 N (v3.1,aA ([aA (aA ([([aA (aA gl2 0 (bD 2 [])) 0 [],aA (aA gl2 0 (bD 2 [])) 1 []]:List Y_),([aA (aA gl2 1 (bD 2 [])) 0 [],aA (aA gl2 1 (bD 2 [])) 1 []]:List Y_),([aA (aA gl2 2 (bD 2 [])) 0 [],aA (aA gl2 2 (bD 2 [])) 1 []]:List Y_),([aA (aA gl2 3 (bD 2 [])) 0 [],aA (aA gl2 3 (bD 2 [])) 1 []]:List Y_),([aA (aA gl2 4 (bD 2 [])) 0 [],aA (aA gl2 4 (bD 2 [])) 1 []]:List Y_)]:List (List Y_)) (toN v3.2) (bD 2 [])) 0 [],aA (aA ([([aA (aA gl2 0 (bD 2 [])) 0 [],aA (aA gl2 0 (bD 2 [])) 1 []]:List Y_),([aA (aA gl2 1 (bD 2 [])) 0 [],aA (aA gl2 1 (bD 2 [])) 1 []]:List Y_),([aA (aA gl2 2 (bD 2 [])) 0 [],aA (aA gl2 2 (bD 2 [])) 1 []]:List Y_),([aA (aA gl2 3 (bD 2 [])) 0 [],aA (aA gl2 3 (bD 2 [])) 1 []]:List Y_),([aA (aA gl2 4 (bD 2 [])) 0 [],aA (aA gl2 4 (bD 2 [])) 1 []]:List Y_)]:List (List Y_)) (toN v3.2) (bD 2 [])) 1 []]:List Y_) (toN 1) [],aA ([aA (aA ([([aA (aA gl2 0 (bD 2 [])) 0 [],aA (aA gl2 0 (bD 2 [])) 1 []]:List Y_),([aA (aA gl2 1 (bD 2 [])) 0 [],aA (aA gl2 1 (bD 2 [])) 1 []]:List Y_),([aA (aA gl2 2 (bD 2 [])) 0 [],aA (aA gl2 2 (bD 2 [])) 1 []]:List Y_),([aA (aA gl2 3 (bD 2 [])) 0 [],aA (aA gl2 3 (bD 2 [])) 1 []]:List Y_),([aA (aA gl2 4 (bD 2 [])) 0 [],aA (aA gl2 4 (bD 2 [])) 1 []]:List Y_)]:List (List Y_)) (toN v3.2) (bD 2 [])) 0 [],aA (aA ([([aA (aA gl2 0 (bD 2 [])) 0 [],aA (aA gl2 0 (bD 2 [])) 1 []]:List Y_),([aA (aA gl2 1 (bD 2 [])) 0 [],aA (aA gl2 1 (bD 2 [])) 1 []]:List Y_),([aA (aA gl2 2 (bD 2 [])) 0 [],aA (aA gl2 2 (bD 2 [])) 1 []]:List Y_),([aA (aA gl2 3 (bD 2 [])) 0 [],aA (aA gl2 3 (bD 2 [])) 1 []]:List Y_),([aA (aA gl2 4 (bD 2 [])) 0 [],aA (aA gl2 4 (bD 2 [])) 1 []]:List Y_)]:List (List Y_)) (toN v3.2) (bD 2 [])) 1 []]:List Y_) (toN 0) [])) fun v4 =>
         v2 (v4,w64 (aF v3.2 1)))))))))
   (v1 v3.1)) N (x,0)
def QK:List PK:=[.k (.b 131 Y7 [1])]
def QL:List Kd:=[.v (.int .i64) []]
def q64(N:Nat) (x:Unit×Y_):Option (Int×Unit×Y_) :=
 some (len x.2,(),x.2)
def QM:List PK:=[.k (.v (.slice Y2) [])]
def QN:List Kd:=[.v (.str) [],.v (.int .i64) []]
def q65(N:Nat) (x:List D2):Option (Y_×Int) :=
 bnd (q61 N x) fun v0 =>
 cnd (ine v0 0)
  (some (([]:Y_),v0))
  (jn (fun (v1:(List Y_)×Unit×Y_) =>
   jn (fun (v2:Unit×Y_) =>
    bnd (q64 N ((),v2.2)) fun v3 =>
    cnd (ilt 262144 v3.1)
     (some (([]:Y_),9))
     (some (v3.2.2,0)))
   fun v4 =>
   bN (fun v5 (v6:Int×Unit×Y_) =>
    cnd (ile 0 v6.1)
     (grd (inb v6.1 (len v1.1))
      (grd (gQ (aF (len ([60,47]:Y_)) (len (aA v1.1 (toN v6.1) []))))
       (grd (gQ (aF (len (bR ([60,47]:Y_) (aA v1.1 (toN v6.1) []))) (len ([62]:Y_))))
        (bnd (q31 N (((),v6.2.2),bR (bR ([60,47]:Y_) (aA v1.1 (toN v6.1) [])) ([62]:Y_))) fun v7 =>
        v5 (w64 (aJ v6.1 1),(),v7.2.2.2)))))
     (v4 ((),v6.2.2))) N (w64 (aJ (len v1.1) 1),(),v1.2.2))
  fun v8 =>
  bN (fun v9 (v10:(List Y_)×Int×Unit×Y_) =>
   cnd (ilt v10.2.1 (len x))
    (jn (fun (v11:(List Y_)×Unit×Y_) =>
     v9 (v11.1,w64 (aF v10.2.1 1),(),v11.2.2))
    fun v12 =>
    grd (inb v10.2.1 (len x)) <|
    jn (fun (v13:(List Y_)×Unit×Y_) =>
     cnd (seq (aA x (toN v10.2.1) zN).1 ([]:Y_))
      (bnd (q63 N (aA x (toN v10.2.1) zN).2.1) fun v14 =>
      bnd (q31 N (((),v13.2.2),v14)) fun v15 =>
      v12 (v13.1,(),v15.2.2.2))
      (grd (gQ (aF (len ([60]:Y_)) (len (aA x (toN v10.2.1) zN).1)))
       (bnd (q31 N (((),v13.2.2),bR ([60]:Y_) (aA x (toN v10.2.1) zN).1)) fun v16 =>
       jn (fun (v17:Unit×Y_) =>
        cnd (ilt (w64 (aF v10.2.1 1)) (len x))
         (grd (inb (w64 (aF v10.2.1 1)) (len x))
          (cnd (ilt (aA x (toN v10.2.1) zN).2.2.2 (aA x (toN (w64 (aF v10.2.1 1))) zN).2.2.2)
           (bnd (q31 N (((),v17.2),([62]:Y_))) fun v18 =>
           grd (cW (aF (len v13.1) (len ([(aA x (toN v10.2.1) zN).1]:List Y_))) 16) <|
           v12 (bR v13.1 ([(aA x (toN v10.2.1) zN).1]:List Y_),(),v18.2.2.2))
           (bnd (q31 N (((),v17.2),([47,62]:Y_))) fun v19 =>
           v12 (v13.1,(),v19.2.2.2))))
         (bnd (q31 N (((),v17.2),([47,62]:Y_))) fun v20 =>
         v12 (v13.1,(),v20.2.2.2)))
       fun v21 =>
       bN (fun v22 (v23:Int×Unit×Y_) =>
        cnd (ilt v23.1 (len (aA x (toN v10.2.1) zN).2.2.1))
         (grd (inb v23.1 (len (aA x (toN v10.2.1) zN).2.2.1))
          (grd (gQ (aF (len ([32]:Y_)) (len (aA (aA x (toN v10.2.1) zN).2.2.1 (toN v23.1) ([],[])).1)))
           (grd (gQ (aF (len (bR ([32]:Y_) (aA (aA x (toN v10.2.1) zN).2.2.1 (toN v23.1) ([],[])).1)) (len ([61,34]:Y_))))
            (bnd (q63 N (aA (aA x (toN v10.2.1) zN).2.2.1 (toN v23.1) ([],[])).2) fun v24 =>
            grd (gQ (aF (len (bR (bR ([32]:Y_) (aA (aA x (toN v10.2.1) zN).2.2.1 (toN v23.1) ([],[])).1) ([61,34]:Y_))) (len v24))) <|
            grd (gQ (aF (len (bR (bR (bR ([32]:Y_) (aA (aA x (toN v10.2.1) zN).2.2.1 (toN v23.1) ([],[])).1) ([61,34]:Y_)) v24)) (len ([34]:Y_)))) <|
            bnd (q31 N (((),v23.2.2),bR (bR (bR (bR ([32]:Y_) (aA (aA x (toN v10.2.1) zN).2.2.1 (toN v23.1) ([],[])).1) ([61,34]:Y_)) v24) ([34]:Y_))) fun v25 =>
            v22 (w64 (aF v23.1 1),(),v25.2.2.2)))))
         (v21 ((),v23.2.2))) N (0,(),v16.2.2.2))))
    fun v26 =>
    bN (fun v27 (v28:(List Y_)×Unit×Y_) =>
     cnd (ilt (aA x (toN v10.2.1) zN).2.2.2 (len v28.1))
      (grd (inb (w64 (aJ (len v28.1) 1)) (len v28.1))
       (grd (gQ (aF (len ([60,47]:Y_)) (len (aA v28.1 (toN (w64 (aJ (len v28.1) 1))) []))))
        (grd (gQ (aF (len (bR ([60,47]:Y_) (aA v28.1 (toN (w64 (aJ (len v28.1) 1))) []))) (len ([62]:Y_))))
         (bnd (q31 N (((),v28.2.2),bR (bR ([60,47]:Y_) (aA v28.1 (toN (w64 (aJ (len v28.1) 1))) [])) ([62]:Y_))) fun v29 =>
         grd (in2 (w64 (aJ (len v28.1) 1)) (ofN (kQ v28.1))) <|
         v27 (gA v28.1 0 (toN (w64 (aJ (len v28.1) 1))),(),v29.2.2.2)))))
      (v26 (v28.1,(),v28.2.2))) N (v10.1,(),v10.2.2.2))
    (v8 (v10.1,(),v10.2.2.2))) N (([]:List Y_),0,(),([]:Y_)))
def QO:List PK:=[.k (.v Y1 [])]
def QP:List Kd:=[.v (.str) [],.v (.int .i64) []]
def q66(N:Nat) (x:D6):Option (Y_×Int) :=
 bnd (q55 N x) fun v0 =>
 cnd (ine v0.2 0)
  (some (([]:Y_),v0.2))
  (bnd (q65 N v0.1) fun v1 =>
  some v1)
def mK:List PK:=[]
def mL:List Kd:=[.v (.bool) []]
def lR(N:Nat) (x:Unit):Option (Bool) :=
 bnd (q66 N (([]:Y_),([]:Y_),3,false,3,([]:List D4),([(3,(0,50),([]:Y_),1,([]:Y_),([([(([71,111]:Y_),(4,true,false),([]:Y_))]:List D5)]:List (List D5)))]:List D1),([]:List D3))) fun v0 =>
 cnd (ieq v0.2 0)
  (some (seq v0.1 ([60,116,116,32,114,97,116,101,61,34,50,53,34,32,108,97,115,116,61,34,51,34,62,60,112,32,105,100,61,34,51,34,32,105,110,61,34,48,102,34,32,111,117,116,61,34,53,48,102,34,32,107,105,110,100,61,34,68,73,65,76,79,71,85,69,34,62,60,114,111,119,62,60,114,117,110,32,99,111,108,111,114,61,34,114,101,100,34,32,105,116,97,108,105,99,61,34,49,34,62,71,111,60,47,114,117,110,62,60,47,114,111,119,62,60,47,112,62,60,47,116,116,62]:Y_)))
  (some false)
def qR:List PK:=[.k (.v Y1 [])]
def qS:List Kd:=[.v Y1 []]
def jF(N:Nat) (x:D6):Option D6 :=
 grd (in2 (iA (len x.2.2.2.2.2.2.1) 5) (len x.2.2.2.2.2.2.1)) <|
 grd (in2 (iA (len x.2.2.2.2.2.2.2) 4) (len x.2.2.2.2.2.2.2)) <|
 grd (in2 (iA (len x.2.2.2.2.2.1) 6) (len x.2.2.2.2.2.1)) <|
 some (x.1,x.2.1,x.2.2.1,x.2.2.2.1,x.2.2.2.2.1,cJ (toN (iA (len x.2.2.2.2.2.1) 6)) x.2.2.2.2.2.1,cJ (toN (iA (len x.2.2.2.2.2.2.1) 5)) x.2.2.2.2.2.2.1,cJ (toN (iA (len x.2.2.2.2.2.2.2) 4)) x.2.2.2.2.2.2.2)
def QQ:List PK:=[.k (.v (.slice Y2) [])]
def QR:List Kd:=[.v (.slice Y2) [0]]
def q67(N:Nat) (x:List D2):Option (List D2) :=
 cnd (ine (len x) 0)
  (grd (cW (aF (len ([]:List D2)) (len x)) 64)
   (some (bR ([]:List D2) x)))
  (wV fun v0 =>
  cnd v0
   (some ([]:List D2))
   (grd (cW (aF (len ([]:List D2)) (len x)) 64)
    (some (bR ([]:List D2) x))))
def QS:List PK:=[.fn 0,.k (.v (.int .i64) [])]
def QT:List Kd:=[.v (.slice (.st (.pair (.str) (.str)))) [0]]
def q68(N:Nat) (x:Int):Option (List D7) :=
 cnd (ilt x 0)
  none
  (cnd (ilt 0 (w64 (aJ x (w64 (aJ 0 0)))))
   (grd (ieq 0 0)
    (grd (ZA 1 (w64 (aJ x (w64 (aJ 0 0)))) 32)
     (grd (in2 0 (ofN (kQ (bD (toN (w64 (aJ x (w64 (aJ 0 0))))) (([]:Y_),([]:Y_))))))
      (some (gA (bD (toN (w64 (aJ x (w64 (aJ 0 0))))) (([]:Y_),([]:Y_))) 0 (toN 0))))))
   (some ([]:List D7)))
def QU:List PK:=[.k (.v (.slice (.slice (.st (.pair (.str) (.str))))) [])]
def QV:List Kd:=[.v (.slice (.st (.pair (.str) (.str)))) [0]]
def q69(N:Nat) (x:List (List D7)):Option (List D7) :=
 jn (fun (v0:Int) =>
  bnd (q68 N v0) fun v1 =>
  jn (fun (v2:List D7) =>
   some v2)
  fun v3 =>
  bN (fun v4 (v5:(List D7)×Int) =>
   cnd (ilt v5.2 (len x))
    (grd (inb v5.2 (len x))
     (grd (cW (aF (len v5.1) (len (aA x (toN v5.2) []))) 32)
      (v4 (bR v5.1 (aA x (toN v5.2) []),w64 (aF v5.2 1)))))
    (v3 v5.1)) N (v1,0))
 fun v6 =>
 bN (fun v7 (v8:Int×Int) =>
  cnd (ilt v8.2 (len x))
   (grd (inb v8.2 (len x))
    (cnd (ilt (w64 (aF v8.1 (len (aA x (toN v8.2) [])))) 0)
     none
     (v7 (w64 (aF v8.1 (len (aA x (toN v8.2) []))),w64 (aF v8.2 1)))))
   (v6 v8.1)) N (0,0)
def QW:List PK:=[.k (.v Y2 []),.k (.v (.str) []),.k (.v (.bool) [])]
def QX:List Kd:=[.v (.bool) []]
def q70(N:Nat) (x:D2×Y_×Bool):Option (Bool) :=
 cnd (seq x.2.1 ([]:Y_))
  (some (seq x.1.1 ([116,116]:Y_)))
  (cnd (seq x.2.1 ([116,116]:Y_))
   (cnd (seq x.1.1 ([112]:Y_))
    (some true)
    (cnd (seq x.1.1 ([114,101,103,105,111,110]:Y_))
     (some x.2.2)
     (some false)))
   (cnd (seq x.2.1 ([112]:Y_))
    (some (seq x.1.1 ([114,111,119]:Y_)))
    (cnd (seq x.2.1 ([114,111,119]:Y_))
     (some (seq x.1.1 ([114,117,110]:Y_)))
     (cnd (seq x.2.1 ([114,117,110]:Y_))
      (some (seq x.1.1 ([]:Y_)))
      (some false)))))
def QY:List PK:=[.k (.v (.str) [])]
def QZ:List Kd:=[.v (.slice (.str)) [0],.v (.slice (.str)) [0]]
def q71(N:Nat) (x:Y_):Option (List Y_×List Y_) :=
 cnd (seq x ([116,116]:Y_))
  (some (([([114,97,116,101]:Y_),([108,97,115,116]:Y_)]:List Y_),([([116,105,116,108,101]:Y_),([108,97,110,103]:Y_),([100,114,111,112]:Y_)]:List Y_)))
  (cnd (seq x ([114,101,103,105,111,110]:Y_))
   (some (([([110,97,109,101]:Y_),([116,111,112]:Y_),([104,101,105,103,104,116]:Y_),([108,101,102,116]:Y_),([119,105,100,116,104]:Y_),([97,108,105,103,110]:Y_),([97,110,99,104,111,114]:Y_)]:List Y_),([]:List Y_)))
   (cnd (seq x ([112]:Y_))
    (some (([([105,100]:Y_),([105,110]:Y_),([111,117,116]:Y_),([107,105,110,100]:Y_)]:List Y_),([([114,101,103,105,111,110]:Y_),([115,112,101,97,107,101,114]:Y_)]:List Y_)))
    (cnd (seq x ([114,117,110]:Y_))
     (some (([]:List Y_),([([99,111,108,111,114]:Y_),([105,116,97,108,105,99]:Y_),([117,110,100,101,114,108,105,110,101]:Y_),([114,117,98,121]:Y_)]:List Y_)))
     (some (([]:List Y_),([]:List Y_))))))
def RA:List PK:=[.k (.v (.slice (.str)) []),.k (.v (.str) [])]
def RB:List Kd:=[.v (.bool) []]
def q72(N:Nat) (x:List Y_×Y_):Option (Bool) :=
 jn (fun (v0:Unit) =>
  some false)
 fun v1 =>
 bN (fun v2 (v3:Int) =>
  cnd (ilt v3 (len x.1))
   (grd (inb v3 (len x.1))
    (cnd (seq (aA x.1 (toN v3) []) x.2)
     (some true)
     (v2 (w64 (aF v3 1)))))
   (v1 ())) N 0
def RC:List PK:=[.k (.v Y2 [])]
def RD:List Kd:=[.v (.bool) []]
def q73(N:Nat) (x:D2):Option (Bool) :=
 bnd (q71 N x.1) fun v0 =>
 jn (fun (v1:(List Y_)×Int) =>
  some (ieq v1.2 (len v1.1)))
 fun v2 =>
 bN (fun v3 (v4:(List Y_)×(List Y_)×Int×Int) =>
  cnd (ilt v4.2.2.2 (len x.2.2.1))
   (grd (inb v4.2.2.2 (len x.2.2.1))
    (bnd (q72 N (v4.1,(aA x.2.2.1 (toN v4.2.2.2) ([],[])).1)) fun v5 =>
    cnd v5
     (v3 (v4.1,v4.2.1,w64 (aF v4.2.2.1 1),w64 (aF v4.2.2.2 1)))
     (bnd (q72 N (v4.2.1,(aA x.2.2.1 (toN v4.2.2.2) ([],[])).1)) fun v6 =>
     cnd (bS v6)
      (some false)
      (v3 (v4.1,v4.2.1,v4.2.2.1,w64 (aF v4.2.2.2 1))))))
   (v2 (v4.1,v4.2.2.1))) N (v0.1,v0.2,0,0)
def qT:List PK:=[.k (.b 160 (.st (.pair Y2 (.int .i64))) []),.k (.v (.str) [])]
def qU:List Kd:=[.v (.str) []]
def q74(N:Nat) (x:(D2×Int)×Y_):Option (Y_×D2×Int) :=
 jn (fun (v0:Unit) =>
  some (([]:Y_),x.1))
 fun v1 =>
 bN (fun v2 (v3:Int) =>
  cnd (ilt v3 (len x.1.1.2.2.1))
   (grd (inb v3 (len x.1.1.2.2.1))
    (cnd (seq (aA x.1.1.2.2.1 (toN v3) ([],[])).1 x.2)
     (some ((aA x.1.1.2.2.1 (toN v3) ([],[])).2,x.1))
     (v2 (w64 (aF v3 1)))))
   (v1 ())) N 0
def RE:List PK:=[]
def RF:List Kd:=[.v (.slice (.u8)) []]
def q75(N:Nat) (x:Unit):Option Y_ :=
 some ([1,2,3,4,5,6,7]:Y_)
def RG:List PK:=[.k (.v (.str) [])]
def RH:List Kd:=[.v (.u8) [],.v (.int .i64) []]
def q76(N:Nat) (x:Y_):Option (UInt8×Int) :=
 jn (fun (v0:Unit) =>
  some (0,4))
 fun v1 =>
 bnd (q75 N ()) fun v2 =>
 bN (fun v3 (v4:Int) =>
  cnd (ilt v4 (len v2))
   (grd (inb v4 (len v2))
    (bnd (q49 N (aA v2 (toN v4) 0)) fun v5 =>
    cnd (seq v5 x)
     (some (aA v2 (toN v4) 0,0))
     (v3 (w64 (aF v4 1)))))
   (v1 ())) N 0
def qV:List PK:=[.k (.b 160 (.st (.pair Y2 (.int .i64))) []),.k (.v (.int .i64) [])]
def qW:List Kd:=[]
def q77(N:Nat) (x:(D2×Int)×Int):Option (D2×Int) :=
 cnd (ieq x.1.2 0)
  (some (x.1.1,x.2))
  (some x.1)
def RI:List PK:=[.k (.b 160 (.st (.pair Y2 (.int .i64))) []),.k (.v (.str) [])]
def RJ:List Kd:=[.v (.bool) []]
def q78(N:Nat) (x:(D2×Int)×Y_):Option (Bool×D2×Int) :=
 jn (fun (v0:D2×Int) =>
  bnd (q74 N (v0,x.2)) fun v1 =>
  some (seq v1.1 ([49]:Y_),v1.2))
 fun v2 =>
 bN (fun v3 (v4:Int×D2×Int) =>
  cnd (ilt v4.1 (len x.1.1.2.2.1))
   (grd (inb v4.1 (len x.1.1.2.2.1))
    (cnd (seq (aA x.1.1.2.2.1 (toN v4.1) ([],[])).1 x.2)
     (cnd (sne (aA x.1.1.2.2.1 (toN v4.1) ([],[])).2 ([48]:Y_))
      (cnd (sne (aA x.1.1.2.2.1 (toN v4.1) ([],[])).2 ([49]:Y_))
       (bnd (q77 N (v4.2,4)) fun v5 =>
       v3 (w64 (aF v4.1 1),v5))
       (v3 (w64 (aF v4.1 1),v4.2)))
      (v3 (w64 (aF v4.1 1),v4.2)))
     (v3 (w64 (aF v4.1 1),v4.2))))
   (v2 v4.2)) N (0,x.1)
def RK:List PK:=[.k (.v (.str) []),.k (.v (.str) [])]
def RL:List Kd:=[.v (.bool) []]
def q79(N:Nat) (x:Y_×Y_):Option (Bool) :=
 cnd (ile (len x.2) (len x.1))
  (grd (in2 (len x.2) (len x.1))
   (some (seq (cJ (toN (len x.2)) x.1) x.2)))
  (some false)
def RM:List PK:=[.k (.v (.str) []),.k (.v (.str) [])]
def RN:List Kd:=[.v (.str) [],.v (.bool) []]
def q80(N:Nat) (x:Y_×Y_):Option (Y_×Bool) :=
 bnd (q79 N x) fun v0 =>
 cnd (bS v0)
  (some (x.1,false))
  (grd (in2 (len x.2) (len x.1))
   (some (iW (toN (len x.2)) x.1,true)))
def RO:List PK:=[.k (.v (.str) []),.k (.v (.str) [])]
def RP:List Kd:=[.v (.str) [],.v (.bool) []]
def q81(N:Nat) (x:Y_×Y_):Option (Y_×Bool) :=
 bnd (q80 N x) fun v0 =>
 some v0
def fI:List PK:=[.k (.v (.str) []),.k (.v (.int .i64) []),.k (.v (.int .i64) [])]
def fJ:List Kd:=[.v (.int .i64) [],.v (.nif) []]
def cH(N:Nat) (x:Y_×Int×Int):Option (Int×Bool):=gT N x
def RQ:List PK:=[.k (.v (.str) []),.k (.v (.int .i64) []),.k (.v (.int .i64) [])]
def RR:List Kd:=[.v (.int .i64) [],.v (.int .i64) []]
def q82(N:Nat) (x:Y_×Int×Int):Option (Int×Int) :=
 bnd (q81 N (x.1,([45]:Y_))) fun v0 =>
 jn (fun (v1:Unit) =>
  jn (fun (v2:Unit) =>
   bnd (cH N (x.1,10,64)) fun v3 =>
   cnd v3.2
    (some (0,2))
    (cnd (ilt v3.1 x.2.1)
     (some (0,2))
     (cnd (ilt x.2.2 v3.1)
      (some (0,2))
      (some (v3.1,0)))))
  fun v4 =>
  bN (fun v5 (v6:Int) =>
   cnd (ilt v6 (len v0.1))
    (grd (inb v6 (len v0.1))
     (cnd (ilt (n8 (aA v0.1 (toN v6) 0)) (n8 48))
      (some (0,4))
      (grd (inb v6 (len v0.1))
       (cnd (ilt (n8 57) (n8 (aA v0.1 (toN v6) 0)))
        (some (0,4))
        (v5 (w64 (aF v6 1)))))))
    (v4 ())) N 0)
 fun v7 =>
 cnd (seq v0.1 ([]:Y_))
  (some (0,4))
  (grd (inb 0 (len v0.1))
   (cnd (ieq (n8 (aA v0.1 (toN 0) 0)) (n8 48))
    (cnd (ilt 1 (len v0.1))
     (some (0,4))
     (cnd v0.2
      (some (0,4))
      (v7 ())))
    (v7 ())))
def FB:List PK:=[.k (.b 160 (.st (.pair Y2 (.int .i64))) []),.k (.v (.str) []),.k (.v (.int .i64) [])]
def FC:List Kd:=[.v (.int .i64) []]
def q83(N:Nat) (x:(D2×Int)×Y_×Int):Option (Int×D2×Int) :=
 bnd (q82 N (x.2.1,0,x.2.2)) fun v0 =>
 bnd (q77 N (x.1,v0.2)) fun v1 =>
 some (v0.1,v1)
def FD:List PK:=[.k (.b 160 (.st (.pair Y2 (.int .i64))) []),.k (.v (.str) []),.k (.v (.int .i64) [])]
def FE:List Kd:=[.v (.int .i64) []]
def q84(N:Nat) (x:(D2×Int)×Y_×Int):Option (Int×D2×Int) :=
 bnd (q74 N (x.1,x.2.1)) fun v0 =>
 bnd (q83 N (v0.2,v0.1,x.2.2)) fun v1 =>
 some v1
def RS:List PK:=[.k (.b 160 (.st (.pair Y2 (.int .i64))) []),.k (.v (.str) [])]
def RT:List Kd:=[.v (.int .i64) []]
def q85(N:Nat) (x:(D2×Int)×Y_):Option (Int×D2×Int) :=
 bnd (q84 N (x.1,x.2,32)) fun v0 =>
 some v0
def FF:List PK:=[.k (.b 160 (.st (.pair Y2 (.int .i64))) []),.k (.v (.str) []),.k (.v (.slice (.str)) [])]
def FG:List Kd:=[.v (.int .i64) []]
def q86(N:Nat) (x:(D2×Int)×Y_×List Y_):Option (Int×D2×Int) :=
 bnd (q74 N (x.1,x.2.1)) fun v0 =>
 jn (fun (v1:Unit) =>
  bnd (q77 N (v0.2,4)) fun v2 =>
  some (0,v2))
 fun v3 =>
 bN (fun v4 (v5:Int) =>
  cnd (ilt v5 (len x.2.2))
   (grd (inb v5 (len x.2.2))
    (cnd (seq (aA x.2.2 (toN v5) []) v0.1)
     (some (v5,v0.2))
     (v4 (w64 (aF v5 1)))))
   (v3 ())) N 0
def RU:List PK:=[.k (.v (.str) []),.k (.v (.str) [])]
def RV:List Kd:=[.v (.bool) []]
def q87(N:Nat) (x:Y_×Y_):Option (Bool) :=
 cnd (ile (len x.2) (len x.1))
  (grd (in2 (w64 (aJ (len x.1) (len x.2))) (len x.1))
   (some (seq (iW (toN (w64 (aJ (len x.1) (len x.2)))) x.1) x.2)))
  (some false)
def RW:List PK:=[.k (.v (.str) []),.k (.v (.str) [])]
def RX:List Kd:=[.v (.str) [],.v (.bool) []]
def q88(N:Nat) (x:Y_×Y_):Option (Y_×Bool) :=
 bnd (q87 N x) fun v0 =>
 cnd (bS v0)
  (some (x.1,false))
  (grd (in2 (w64 (aJ (len x.1) (len x.2))) (len x.1))
   (some (cJ (toN (w64 (aJ (len x.1) (len x.2)))) x.1,true)))
def RY:List PK:=[.k (.v (.str) []),.k (.v (.str) [])]
def RZ:List Kd:=[.v (.str) [],.v (.bool) []]
def q89(N:Nat) (x:Y_×Y_):Option (Y_×Bool) :=
 bnd (q88 N x) fun v0 =>
 some v0
def SA:List PK:=[.k (.b 160 (.st (.pair Y2 (.int .i64))) []),.k (.v (.str) [])]
def SB:List Kd:=[.v (.int .i64) []]
def q90(N:Nat) (x:(D2×Int)×Y_):Option (Int×D2×Int) :=
 bnd (q74 N x) fun v0 =>
 bnd (q89 N (v0.1,([102]:Y_))) fun v1 =>
 cnd (bS v1.2)
  (bnd (q77 N (v0.2,4)) fun v2 =>
  some (0,v2))
  (bnd (q83 N (v0.2,v1.1,5184000)) fun v3 =>
  some v3)
def SC:List PK:=[.k (.v (.str) [])]
def SD:List Kd:=[.v (.u8) [],.v (.int .i64) []]
def q91(N:Nat) (x:Y_):Option (UInt8×Int) :=
 jn (fun (v0:Unit) =>
  some (0,4))
 fun v1 =>
 bnd (q26 N ()) fun v2 =>
 bN (fun v3 (v4:Int) =>
  cnd (ilt v4 (len v2))
   (grd (inb v4 (len v2))
    (cnd (seq (aA v2 (toN v4) []) x)
     (some (b8 (w64 (aF v4 1)),0))
     (v3 (w64 (aF v4 1)))))
   (v1 ())) N 0
def SE:List PK:=[.k (.b 160 (.st (.pair Y2 (.int .i64))) [])]
def SG:List Kd:=[.v (.u8) []]
def q92(N:Nat) (x:D2×Int):Option (UInt8×D2×Int) :=
 jn (fun (v0:Unit) =>
  some (0,x))
 fun v1 =>
 bN (fun v2 (v3:Int) =>
  cnd (ilt v3 (len x.1.2.2.1))
   (grd (inb v3 (len x.1.2.2.1))
    (cnd (seq (aA x.1.2.2.1 (toN v3) ([],[])).1 ([99,111,108,111,114]:Y_))
     (bnd (q86 N (x,([99,111,108,111,114]:Y_),gl1)) fun v4 =>
     some (b8 v4.1,v4.2))
     (v2 (w64 (aF v3 1)))))
   (v1 ())) N 0
def oD:List PK:=[.k (.d 27 Y1),.k (.v Y2 [])]
def oE:List Kd:=[.v (.int .i64) []]
def kH(N:Nat) (x:D6×Y_×Y_×(List D7)×Int):Option (Int×Y_×Y_×UInt8×Bool×Int×(List D4)×(List D1)×List D3) :=
 jn (fun (v0:D6×D2×Int) =>
  some (v0.2.2,v0.1.1,v0.1.2.1,v0.1.2.2.1,v0.1.2.2.2.1,v0.1.2.2.2.2.1,v0.1.2.2.2.2.2.1,bK v0.1.2.2.2.2.2.2.1 ((aK v0.1.2.2.2.2.2.2.1 zE).1,(aK v0.1.2.2.2.2.2.2.1 zE).2.1,(aK v0.1.2.2.2.2.2.2.1 zE).2.2.1,(aK v0.1.2.2.2.2.2.2.1 zE).2.2.2.1,(aK v0.1.2.2.2.2.2.2.1 zE).2.2.2.2.1,bK (aK v0.1.2.2.2.2.2.2.1 zE).2.2.2.2.2 (aK (aK v0.1.2.2.2.2.2.2.1 zE).2.2.2.2.2 [])),v0.1.2.2.2.2.2.2.2))
 fun v1 =>
 cnd (seq x.2.1 ([116,116]:Y_))
  (bnd (q74 N ((x.2,0),([116,105,116,108,101]:Y_))) fun v2 =>
  bnd (q74 N (v2.2,([108,97,110,103]:Y_))) fun v3 =>
  bnd (q74 N (v3.2,([114,97,116,101]:Y_))) fun v4 =>
  bnd (q76 N v4.1) fun v5 =>
  bnd (q77 N (v4.2,v5.2)) fun v6 =>
  bnd (q78 N (v6,([100,114,111,112]:Y_))) fun v7 =>
  bnd (q84 N (v7.2,([108,97,115,116]:Y_),1099511627776)) fun v8 =>
  v1 ((v2.1,v3.1,v5.1,v7.1,v8.1,x.1.2.2.2.2.2.1,bK x.1.2.2.2.2.2.2.1 ((aK x.1.2.2.2.2.2.2.1 zE).1,(aK x.1.2.2.2.2.2.2.1 zE).2.1,(aK x.1.2.2.2.2.2.2.1 zE).2.2.1,(aK x.1.2.2.2.2.2.2.1 zE).2.2.2.1,(aK x.1.2.2.2.2.2.2.1 zE).2.2.2.2.1,bK (aK x.1.2.2.2.2.2.2.1 zE).2.2.2.2.2 (aK (aK x.1.2.2.2.2.2.2.1 zE).2.2.2.2.2 [])),x.1.2.2.2.2.2.2.2),v8.2))
  (cnd (seq x.2.1 ([114,101,103,105,111,110]:Y_))
   (bnd (q74 N ((x.2,0),([110,97,109,101]:Y_))) fun v9 =>
   bnd (q85 N (v9.2,([116,111,112]:Y_))) fun v10 =>
   bnd (q85 N (v10.2,([104,101,105,103,104,116]:Y_))) fun v11 =>
   bnd (q85 N (v11.2,([108,101,102,116]:Y_))) fun v12 =>
   bnd (q85 N (v12.2,([119,105,100,116,104]:Y_))) fun v13 =>
   bnd (q86 N (v13.2,([97,108,105,103,110]:Y_),gl0)) fun v14 =>
   bnd (q86 N (v14.2,([97,110,99,104,111,114]:Y_),([([84,79,80]:Y_),([66,79,84,84,79,77]:Y_)]:List Y_))) fun v15 =>
   grd (cW (aF (len x.1.2.2.2.2.2.1) (len ([(v9.1,v10.1,v11.1,v12.1,v13.1,b8 (w64 (aF v14.1 1)),ieq v15.1 1)]:List D4))) 56) <|
   v1 ((x.1.1,x.1.2.1,x.1.2.2.1,x.1.2.2.2.1,x.1.2.2.2.2.1,bR x.1.2.2.2.2.2.1 ([(v9.1,v10.1,v11.1,v12.1,v13.1,b8 (w64 (aF v14.1 1)),ieq v15.1 1)]:List D4),bK x.1.2.2.2.2.2.2.1 ((aK x.1.2.2.2.2.2.2.1 zE).1,(aK x.1.2.2.2.2.2.2.1 zE).2.1,(aK x.1.2.2.2.2.2.2.1 zE).2.2.1,(aK x.1.2.2.2.2.2.2.1 zE).2.2.2.1,(aK x.1.2.2.2.2.2.2.1 zE).2.2.2.2.1,bK (aK x.1.2.2.2.2.2.2.1 zE).2.2.2.2.2 (aK (aK x.1.2.2.2.2.2.2.1 zE).2.2.2.2.2 [])),x.1.2.2.2.2.2.2.2),v15.2))
   (cnd (seq x.2.1 ([112]:Y_))
    (bnd (q84 N ((x.2,0),([105,100]:Y_),1099511627776)) fun v16 =>
    bnd (q90 N (v16.2,([105,110]:Y_))) fun v17 =>
    bnd (q90 N (v17.2,([111,117,116]:Y_))) fun v18 =>
    bnd (q74 N (v18.2,([114,101,103,105,111,110]:Y_))) fun v19 =>
    bnd (q74 N (v19.2,([107,105,110,100]:Y_))) fun v20 =>
    bnd (q91 N v20.1) fun v21 =>
    jn (fun (v22:D2×Int) =>
     bnd (q74 N (v22,([115,112,101,97,107,101,114]:Y_))) fun v23 =>
     grd (cW (aF (len (bK x.1.2.2.2.2.2.2.1 ((aK x.1.2.2.2.2.2.2.1 zE).1,(aK x.1.2.2.2.2.2.2.1 zE).2.1,(aK x.1.2.2.2.2.2.2.1 zE).2.2.1,(aK x.1.2.2.2.2.2.2.1 zE).2.2.2.1,(aK x.1.2.2.2.2.2.2.1 zE).2.2.2.2.1,bK (aK x.1.2.2.2.2.2.2.1 zE).2.2.2.2.2 (aK (aK x.1.2.2.2.2.2.2.1 zE).2.2.2.2.2 [])))) (len ([zE]:List D1))) 88) <|
     v1 ((x.1.1,x.1.2.1,x.1.2.2.1,x.1.2.2.2.1,x.1.2.2.2.2.1,x.1.2.2.2.2.2.1,bK (bR (bK x.1.2.2.2.2.2.2.1 ((aK x.1.2.2.2.2.2.2.1 zE).1,(aK x.1.2.2.2.2.2.2.1 zE).2.1,(aK x.1.2.2.2.2.2.2.1 zE).2.2.1,(aK x.1.2.2.2.2.2.2.1 zE).2.2.2.1,(aK x.1.2.2.2.2.2.2.1 zE).2.2.2.2.1,bK (aK x.1.2.2.2.2.2.2.1 zE).2.2.2.2.2 (aK (aK x.1.2.2.2.2.2.2.1 zE).2.2.2.2.2 []))) ([zE]:List D1)) (v16.1,(v17.1,v18.1),v19.1,v21.1,v23.1,([]:List (List D5))),x.1.2.2.2.2.2.2.2),v23.2))
    fun v24 =>
    cnd (ine v21.2 0)
     (bnd (q77 N (v20.2,4)) fun v25 =>
     v24 v25)
     (v24 v20.2))
    (cnd (seq x.2.1 ([114,111,119]:Y_))
     (grd (inb (w64 (aJ (len x.1.2.2.2.2.2.2.1) 1)) (len x.1.2.2.2.2.2.2.1))
      (grd (ieq (w64 (aJ (len x.1.2.2.2.2.2.2.1) 1)) (aJ (len x.1.2.2.2.2.2.2.1) 1))
       (grd (ieq (ofN (toN (w64 (aJ (len x.1.2.2.2.2.2.2.1) 1)))) (aJ (len x.1.2.2.2.2.2.2.1) 1))
        (grd (cW (aF (len (bK (aK x.1.2.2.2.2.2.2.1 zE).2.2.2.2.2 (aK (aK x.1.2.2.2.2.2.2.1 zE).2.2.2.2.2 []))) (len ([[]]:List (List D5)))) 24)
         (grd (inb (w64 (aJ (len x.1.2.2.2.2.2.2.1) 1)) (len x.1.2.2.2.2.2.2.1))
          (grd (ieq (w64 (aJ (len x.1.2.2.2.2.2.2.1) 1)) (aJ (len x.1.2.2.2.2.2.2.1) 1))
           (grd (ieq (ofN (toN (w64 (aJ (len x.1.2.2.2.2.2.2.1) 1)))) (aJ (len x.1.2.2.2.2.2.2.1) 1))
            (v1 ((x.1.1,x.1.2.1,x.1.2.2.1,x.1.2.2.2.1,x.1.2.2.2.2.1,x.1.2.2.2.2.2.1,bK x.1.2.2.2.2.2.2.1 ((aK x.1.2.2.2.2.2.2.1 zE).1,(aK x.1.2.2.2.2.2.2.1 zE).2.1,(aK x.1.2.2.2.2.2.2.1 zE).2.2.1,(aK x.1.2.2.2.2.2.2.1 zE).2.2.2.1,(aK x.1.2.2.2.2.2.2.1 zE).2.2.2.2.1,bK (bR (bK (aK x.1.2.2.2.2.2.2.1 zE).2.2.2.2.2 (aK (aK x.1.2.2.2.2.2.2.1 zE).2.2.2.2.2 [])) ([[]]:List (List D5))) ([]:List D5)),x.1.2.2.2.2.2.2.2),x.2,0)))))))))
     (cnd (seq x.2.1 ([114,117,110]:Y_))
      (bnd (q74 N ((x.2,0),([114,117,98,121]:Y_))) fun v26 =>
      bnd (q92 N v26.2) fun v27 =>
      bnd (q78 N (v27.2,([105,116,97,108,105,99]:Y_))) fun v28 =>
      bnd (q78 N (v28.2,([117,110,100,101,114,108,105,110,101]:Y_))) fun v29 =>
      grd (inb (w64 (aJ (len x.1.2.2.2.2.2.2.1) 1)) (len x.1.2.2.2.2.2.2.1)) <|
      grd (ieq (w64 (aJ (len x.1.2.2.2.2.2.2.1) 1)) (aJ (len x.1.2.2.2.2.2.2.1) 1)) <|
      grd (ieq (ofN (toN (w64 (aJ (len x.1.2.2.2.2.2.2.1) 1)))) (aJ (len x.1.2.2.2.2.2.2.1) 1)) <|
      grd (inb (w64 (aJ (len x.1.2.2.2.2.2.2.1) 1)) (len x.1.2.2.2.2.2.2.1)) <|
      grd (ieq (w64 (aJ (len x.1.2.2.2.2.2.2.1) 1)) (aJ (len x.1.2.2.2.2.2.2.1) 1)) <|
      grd (ieq (ofN (toN (w64 (aJ (len x.1.2.2.2.2.2.2.1) 1)))) (aJ (len x.1.2.2.2.2.2.2.1) 1)) <|
      grd (inb (w64 (aJ (len (aK x.1.2.2.2.2.2.2.1 zE).2.2.2.2.2) 1)) (len (aK x.1.2.2.2.2.2.2.1 zE).2.2.2.2.2)) <|
      grd (ieq (w64 (aJ (len (aK x.1.2.2.2.2.2.2.1 zE).2.2.2.2.2) 1)) (aJ (len (aK x.1.2.2.2.2.2.2.1 zE).2.2.2.2.2) 1)) <|
      grd (ieq (ofN (toN (w64 (aJ (len (aK x.1.2.2.2.2.2.2.1 zE).2.2.2.2.2) 1)))) (aJ (len (aK x.1.2.2.2.2.2.2.1 zE).2.2.2.2.2) 1)) <|
      grd (cW (aF (len (aK (aK x.1.2.2.2.2.2.2.1 zE).2.2.2.2.2 [])) (len ([(([]:Y_),(v27.1,v28.1,v29.1),v26.1)]:List D5))) 40) <|
      grd (ieq (ofN (toN (w64 (aJ (len (aK x.1.2.2.2.2.2.2.1 zE).2.2.2.2.2) 1)))) (aJ (len (aK x.1.2.2.2.2.2.2.1 zE).2.2.2.2.2) 1)) <|
      v1 ((x.1.1,x.1.2.1,x.1.2.2.1,x.1.2.2.2.1,x.1.2.2.2.2.1,x.1.2.2.2.2.2.1,bK x.1.2.2.2.2.2.2.1 ((aK x.1.2.2.2.2.2.2.1 zE).1,(aK x.1.2.2.2.2.2.2.1 zE).2.1,(aK x.1.2.2.2.2.2.2.1 zE).2.2.1,(aK x.1.2.2.2.2.2.2.1 zE).2.2.2.1,(aK x.1.2.2.2.2.2.2.1 zE).2.2.2.2.1,bK (aK x.1.2.2.2.2.2.2.1 zE).2.2.2.2.2 (bR (aK (aK x.1.2.2.2.2.2.2.1 zE).2.2.2.2.2 []) ([(([]:Y_),(v27.1,v28.1,v29.1),v26.1)]:List D5))),x.1.2.2.2.2.2.2.2),v29.2))
      (grd (inb (w64 (aJ (len x.1.2.2.2.2.2.2.1) 1)) (len x.1.2.2.2.2.2.2.1))
       (grd (ieq (w64 (aJ (len x.1.2.2.2.2.2.2.1) 1)) (aJ (len x.1.2.2.2.2.2.2.1) 1))
        (grd (ieq (ofN (toN (w64 (aJ (len x.1.2.2.2.2.2.2.1) 1)))) (aJ (len x.1.2.2.2.2.2.2.1) 1))
         (grd (inb (w64 (aJ (len x.1.2.2.2.2.2.2.1) 1)) (len x.1.2.2.2.2.2.2.1))
          (grd (ieq (w64 (aJ (len x.1.2.2.2.2.2.2.1) 1)) (aJ (len x.1.2.2.2.2.2.2.1) 1))
           (grd (ieq (ofN (toN (w64 (aJ (len x.1.2.2.2.2.2.2.1) 1)))) (aJ (len x.1.2.2.2.2.2.2.1) 1))
            (grd (inb (w64 (aJ (len (aK x.1.2.2.2.2.2.2.1 zE).2.2.2.2.2) 1)) (len (aK x.1.2.2.2.2.2.2.1 zE).2.2.2.2.2))
             (grd (ieq (w64 (aJ (len (aK x.1.2.2.2.2.2.2.1 zE).2.2.2.2.2) 1)) (aJ (len (aK x.1.2.2.2.2.2.2.1 zE).2.2.2.2.2) 1))
              (grd (ieq (ofN (toN (w64 (aJ (len (aK x.1.2.2.2.2.2.2.1 zE).2.2.2.2.2) 1)))) (aJ (len (aK x.1.2.2.2.2.2.2.1 zE).2.2.2.2.2) 1))
               (grd (ieq (ofN (toN (w64 (aJ (len (aK x.1.2.2.2.2.2.2.1 zE).2.2.2.2.2) 1)))) (aJ (len (aK x.1.2.2.2.2.2.2.1 zE).2.2.2.2.2) 1))
                (grd (inb (w64 (aJ (len (aK (aK x.1.2.2.2.2.2.2.1 zE).2.2.2.2.2 [])) 1)) (len (aK (aK x.1.2.2.2.2.2.2.1 zE).2.2.2.2.2 [])))
                 (v1 ((x.1.1,x.1.2.1,x.1.2.2.1,x.1.2.2.2.1,x.1.2.2.2.2.1,x.1.2.2.2.2.2.1,bK x.1.2.2.2.2.2.2.1 ((aK x.1.2.2.2.2.2.2.1 zE).1,(aK x.1.2.2.2.2.2.2.1 zE).2.1,(aK x.1.2.2.2.2.2.2.1 zE).2.2.1,(aK x.1.2.2.2.2.2.2.1 zE).2.2.2.1,(aK x.1.2.2.2.2.2.2.1 zE).2.2.2.2.1,bK (aK x.1.2.2.2.2.2.2.1 zE).2.2.2.2.2 (pI (aK (aK x.1.2.2.2.2.2.2.1 zE).2.2.2.2.2 []) (toN (w64 (aJ (len (aK (aK x.1.2.2.2.2.2.2.1 zE).2.2.2.2.2 [])) 1))) (x.2.2.1,(aA (aK (aK x.1.2.2.2.2.2.2.1 zE).2.2.2.2.2 []) (toN (w64 (aJ (len (aK (aK x.1.2.2.2.2.2.2.1 zE).2.2.2.2.2 [])) 1))) zU).2))),x.1.2.2.2.2.2.2.2),x.2,0)))))))))))))))))
def SH:List PK:=[.k (.v (.slice Y2) [])]
def SI:List Kd:=[.v Y1 [],.v (.int .i64) [],.v (.int .i64) []]
def q93(N:Nat) (x:List D2):Option (D6×Int×Int) :=
 bnd (q61 N x) fun v0 =>
 cnd (ine v0 0)
  (some ((([]:Y_),([]:Y_),0,false,0,([]:List D4),([]:List D1),([]:List D3)),0,v0))
  (jn (fun (v1:D6) =>
   bnd (q48 N (v1.1,v1.2.1,v1.2.2.1,v1.2.2.2.1,v1.2.2.2.2.1,v1.2.2.2.2.2.1,bK v1.2.2.2.2.2.2.1 ((aK v1.2.2.2.2.2.2.1 zE).1,(aK v1.2.2.2.2.2.2.1 zE).2.1,(aK v1.2.2.2.2.2.2.1 zE).2.2.1,(aK v1.2.2.2.2.2.2.1 zE).2.2.2.1,(aK v1.2.2.2.2.2.2.1 zE).2.2.2.2.1,bK (aK v1.2.2.2.2.2.2.1 zE).2.2.2.2.2 (aK (aK v1.2.2.2.2.2.2.1 zE).2.2.2.2.2 [])),v1.2.2.2.2.2.2.2)) fun v2 =>
   cnd (ine v2 0)
    (some ((([]:Y_),([]:Y_),0,false,0,([]:List D4),([]:List D1),([]:List D3)),0,v2))
    (some ((v1.1,v1.2.1,v1.2.2.1,v1.2.2.2.1,v1.2.2.2.2.1,v1.2.2.2.2.2.1,bK v1.2.2.2.2.2.2.1 ((aK v1.2.2.2.2.2.2.1 zE).1,(aK v1.2.2.2.2.2.2.1 zE).2.1,(aK v1.2.2.2.2.2.2.1 zE).2.2.1,(aK v1.2.2.2.2.2.2.1 zE).2.2.2.1,(aK v1.2.2.2.2.2.2.1 zE).2.2.2.2.1,bK (aK v1.2.2.2.2.2.2.1 zE).2.2.2.2.2 (aK (aK v1.2.2.2.2.2.2.1 zE).2.2.2.2.2 [])),v1.2.2.2.2.2.2.2),0,0)))
  fun v3 =>
  bN (fun v4 (v5:(List Y_)×Int×Y_×Y_×UInt8×Bool×Int×(List D4)×(List D1)×List D3) =>
   cnd (ilt v5.2.1 (len x))
    (grd (inb v5.2.1 (len x))
     (grd (in2 (aA x (toN v5.2.1) zN).2.2.2 (ofN (kQ v5.1)))
      (jn (fun (v6:Y_) =>
       bnd (q70 N (aA x (toN v5.2.1) zN,v6,ieq (len v5.2.2.2.2.2.2.2.2.1) 0)) fun v7 =>
       cnd (bS v7)
        (some ((([]:Y_),([]:Y_),0,false,0,([]:List D4),([]:List D1),([]:List D3)),v5.2.1,4))
        (bnd (q73 N (aA x (toN v5.2.1) zN)) fun v8 =>
        cnd (bS v8)
         (some ((([]:Y_),([]:Y_),0,false,0,([]:List D4),([]:List D1),([]:List D3)),v5.2.1,4))
         (bnd (kH N ((v5.2.2.1,v5.2.2.2.1,v5.2.2.2.2.1,v5.2.2.2.2.2.1,v5.2.2.2.2.2.2.1,v5.2.2.2.2.2.2.2.1,bK v5.2.2.2.2.2.2.2.2.1 ((aK v5.2.2.2.2.2.2.2.2.1 zE).1,(aK v5.2.2.2.2.2.2.2.2.1 zE).2.1,(aK v5.2.2.2.2.2.2.2.2.1 zE).2.2.1,(aK v5.2.2.2.2.2.2.2.2.1 zE).2.2.2.1,(aK v5.2.2.2.2.2.2.2.2.1 zE).2.2.2.2.1,bK (aK v5.2.2.2.2.2.2.2.2.1 zE).2.2.2.2.2 (aK (aK v5.2.2.2.2.2.2.2.2.1 zE).2.2.2.2.2 [])),v5.2.2.2.2.2.2.2.2.2),aA x (toN v5.2.1) zN)) fun v9 =>
         cnd (ine v9.1 0)
          (some ((([]:Y_),([]:Y_),0,false,0,([]:List D4),([]:List D1),([]:List D3)),v5.2.1,v9.1))
          (grd (cW (aF (ofN (toN (aA x (toN v5.2.1) zN).2.2.2)) (len ([(aA x (toN v5.2.1) zN).1]:List Y_))) 16)
           (v4 (bR (cJ (toN (aA x (toN v5.2.1) zN).2.2.2) v5.1) ([(aA x (toN v5.2.1) zN).1]:List Y_),w64 (aF v5.2.1 1),v9.2.1,v9.2.2.1,v9.2.2.2.1,v9.2.2.2.2.1,v9.2.2.2.2.2.1,v9.2.2.2.2.2.2.1,bK v9.2.2.2.2.2.2.2.1 ((aK v9.2.2.2.2.2.2.2.1 zE).1,(aK v9.2.2.2.2.2.2.2.1 zE).2.1,(aK v9.2.2.2.2.2.2.2.1 zE).2.2.1,(aK v9.2.2.2.2.2.2.2.1 zE).2.2.2.1,(aK v9.2.2.2.2.2.2.2.1 zE).2.2.2.2.1,bK (aK v9.2.2.2.2.2.2.2.1 zE).2.2.2.2.2 (aK (aK v9.2.2.2.2.2.2.2.1 zE).2.2.2.2.2 [])),v9.2.2.2.2.2.2.2.2))))))
      fun v10 =>
      cnd (ilt 0 (aA x (toN v5.2.1) zN).2.2.2)
       (grd (inb (w64 (aJ (aA x (toN v5.2.1) zN).2.2.2 1)) (ofN (toN (aA x (toN v5.2.1) zN).2.2.2)))
        (v10 (aA v5.1 (lF 0 (toN (w64 (aJ (aA x (toN v5.2.1) zN).2.2.2 1)))) [])))
       (v10 ([]:Y_)))))
    (v3 (v5.2.2.1,v5.2.2.2.1,v5.2.2.2.2.1,v5.2.2.2.2.2.1,v5.2.2.2.2.2.2.1,v5.2.2.2.2.2.2.2.1,bK v5.2.2.2.2.2.2.2.2.1 ((aK v5.2.2.2.2.2.2.2.2.1 zE).1,(aK v5.2.2.2.2.2.2.2.2.1 zE).2.1,(aK v5.2.2.2.2.2.2.2.2.1 zE).2.2.1,(aK v5.2.2.2.2.2.2.2.2.1 zE).2.2.2.1,(aK v5.2.2.2.2.2.2.2.2.1 zE).2.2.2.2.1,bK (aK v5.2.2.2.2.2.2.2.2.1 zE).2.2.2.2.2 (aK (aK v5.2.2.2.2.2.2.2.2.1 zE).2.2.2.2.2 [])),v5.2.2.2.2.2.2.2.2.2))) N (([]:List Y_),0,([]:Y_),([]:Y_),0,false,0,([]:List D4),([]:List D1),([]:List D3)))
def SJ:List PK:=[.k (.v (.slice Y5) [])]
def SK:List Kd:=[.v (.slice Y5) [0]]
def q94(N:Nat) (x:List D4):Option (List D4) :=
 cnd (ine (len x) 0)
  (grd (cW (aF (len ([]:List D4)) (len x)) 56)
   (some (bR ([]:List D4) x)))
  (wV fun v0 =>
  cnd v0
   (some ([]:List D4))
   (grd (cW (aF (len ([]:List D4)) (len x)) 56)
    (some (bR ([]:List D4) x))))
def SL:List PK:=[.k (.v (.slice Y6) [])]
def SM:List Kd:=[.v (.slice Y6) [0]]
def q95(N:Nat) (x:List D3):Option (List D3) :=
 cnd (ine (len x) 0)
  (grd (cW (aF (len ([]:List D3)) (len x)) 72)
   (some (bR ([]:List D3) x)))
  (wV fun v0 =>
  cnd v0
   (some ([]:List D3))
   (grd (cW (aF (len ([]:List D3)) (len x)) 72)
    (some (bR ([]:List D3) x))))
def SN:List PK:=[.k (.v (.slice (.st Y3)) [])]
def SO:List Kd:=[.v (.slice (.st Y3)) [0]]
def q96(N:Nat) (x:List D1):Option (List D1) :=
 cnd (ine (len x) 0)
  (grd (cW (aF (len ([]:List D1)) (len x)) 88)
   (some (bR ([]:List D1) x)))
  (wV fun v0 =>
  cnd v0
   (some ([]:List D1))
   (grd (cW (aF (len ([]:List D1)) (len x)) 88)
    (some (bR ([]:List D1) x))))
def SP:List PK:=[.k (.v (.slice (.st (.slice Y4))) [])]
def SQ:List Kd:=[.v (.slice (.st (.slice Y4))) [0]]
def q97(N:Nat) (x:List (List D5)):Option (List (List D5)) :=
 cnd (ine (len x) 0)
  (grd (cW (aF (len ([]:List (List D5))) (len x)) 24)
   (some (bR ([]:List (List D5)) x)))
  (wV fun v0 =>
  cnd v0
   (some ([]:List (List D5)))
   (grd (cW (aF (len ([]:List (List D5))) (len x)) 24)
    (some (bR ([]:List (List D5)) x))))
def SR:List PK:=[.k (.v (.slice Y4) [])]
def SS:List Kd:=[.v (.slice Y4) [0]]
def q98(N:Nat) (x:List D5):Option (List D5) :=
 cnd (ine (len x) 0)
  (grd (cW (aF (len ([]:List D5)) (len x)) 40)
   (some (bR ([]:List D5) x)))
  (wV fun v0 =>
  cnd v0
   (some ([]:List D5))
   (grd (cW (aF (len ([]:List D5)) (len x)) 40)
    (some (bR ([]:List D5) x))))
def ST:List PK:=[.k (.v (.slice (.st (.slice Y4))) [])]
def SU:List Kd:=[.v (.slice (.st (.slice Y4))) [0]]
def q99(N:Nat) (x:List (List D5)):Option (List (List D5)) :=
 bnd (q97 N x) fun v0 =>
 jn (fun (v1:List (List D5)) =>
  some v1)
 fun v2 =>
 bN (fun v3 (v4:Int×List (List D5)) =>
  cnd (ilt v4.1 (len v0))
   (grd (inb v4.1 (len v4.2))
    (bnd (q98 N (aA v4.2 (toN v4.1) [])) fun v5 =>
    grd (inb v4.1 (len v4.2)) <|
    v3 (w64 (aF v4.1 1),pI v4.2 (toN v4.1) v5)))
   (v2 v4.2)) N (0,v0)
def FH:List PK:=[.k (.v (.st Y3) [])]
def FI:List Kd:=[.v (.st Y3) [6]]
def B4(N:Nat) (x:D1):Option D1 :=
 bnd (q99 N x.2.2.2.2.2) fun v0 =>
 some (x.1,x.2.1,x.2.2.1,x.2.2.2.1,x.2.2.2.2.1,v0)
def FJ:List PK:=[.k (.v Y1 [])]
def FK:List Kd:=[.v Y1 [5,6,7]]
def B5(N:Nat) (x:D6):Option D6 :=
 bnd (q94 N x.2.2.2.2.2.1) fun v0 =>
 bnd (q95 N x.2.2.2.2.2.2.2) fun v1 =>
 bnd (q96 N x.2.2.2.2.2.2.1) fun v2 =>
 jn (fun (v3:List D1) =>
  some (x.1,x.2.1,x.2.2.1,x.2.2.2.1,x.2.2.2.2.1,v0,v3,v1))
 fun v4 =>
 bN (fun v5 (v6:Int×List D1) =>
  cnd (ilt v6.1 (len v2))
   (grd (inb v6.1 (len v6.2))
    (bnd (B4 N (aA v6.2 (toN v6.1) zE)) fun v7 =>
    grd (inb v6.1 (len v6.2)) <|
    v5 (w64 (aF v6.1 1),pI v6.2 (toN v6.1) v7)))
   (v4 v6.2)) N (0,v2)
def FL:List PK:=[.k (.v Y1 [])]
def FM:List Kd:=[.v Y1 [5,6,7]]
def SW(N:Nat) (x:D6):Option D6 :=
 bnd (q48 N x) fun v0 =>
 cnd (ine v0 0)
  (some (([]:Y_),([]:Y_),0,false,0,([]:List D4),([]:List D1),([]:List D3)))
  (bnd (B5 N x) fun v1 =>
  some (v1.1,v1.2.1,v1.2.2.1,v1.2.2.2.1,v1.2.2.2.2.1,v1.2.2.2.2.2.1,v1.2.2.2.2.2.2.1,([]:List D3)))
def FN:List PK:=[.k (.v Y1 [])]
def FO:List Kd:=[.v (.st (.pair (.str) (.pair (.str) (.pair (.u8) (.pair (.bool) (.int .i64)))))) []]
def B6(N:Nat) (x:D6):Option (Y_×Y_×UInt8×Bool×Int) :=
 some (x.1,x.2.1,x.2.2.1,x.2.2.2.1,x.2.2.2.2.1)
def FP:List PK:=[.k (.v (.slice Y5) []),.k (.v (.slice Y5) [])]
def FQ:List Kd:=[.v (.bool) []]
def B7(N:Nat) (x:(List D4)×List D4):Option (Bool) :=
 cnd (ine (len x.1) (len x.2))
  (some false)
  (jn (fun (v0:Unit) =>
   some true)
  fun v1 =>
  bN (fun v2 (v3:Int) =>
   cnd (ilt v3 (len x.1))
    (grd (inb v3 (len x.1))
     (grd (inb v3 (len x.2))
      (cnd (bS (cZ (seq (aA x.1 (toN v3) zG).1 (aA x.2 (toN v3) zG).1) (cZ (ieq (aA x.1 (toN v3) zG).2.1 (aA x.2 (toN v3) zG).2.1) (cZ (ieq (aA x.1 (toN v3) zG).2.2.1 (aA x.2 (toN v3) zG).2.2.1) (cZ (ieq (aA x.1 (toN v3) zG).2.2.2.1 (aA x.2 (toN v3) zG).2.2.2.1) (cZ (ieq (aA x.1 (toN v3) zG).2.2.2.2.1 (aA x.2 (toN v3) zG).2.2.2.2.1) (cZ (ieq (n8 (aA x.1 (toN v3) zG).2.2.2.2.2.1) (n8 (aA x.2 (toN v3) zG).2.2.2.2.2.1)) (nA (aA x.1 (toN v3) zG).2.2.2.2.2.2 (aA x.2 (toN v3) zG).2.2.2.2.2.2))))))))
       (some false)
       (v2 (w64 (aF v3 1))))))
    (v1 ())) N 0)
def FR:List PK:=[.k (.v (.slice Y4) []),.k (.v (.slice Y4) [])]
def aaFS:List Kd:=[.v (.bool) []]
def B8(N:Nat) (x:(List D5)×List D5):Option (Bool) :=
 cnd (ine (len x.1) (len x.2))
  (some false)
  (jn (fun (v0:Unit) =>
   some true)
  fun v1 =>
  bN (fun v2 (v3:Int) =>
   cnd (ilt v3 (len x.1))
    (grd (inb v3 (len x.1))
     (grd (inb v3 (len x.2))
      (cnd (bS (cZ (seq (aA x.1 (toN v3) zU).1 (aA x.2 (toN v3) zU).1) (cZ (cZ (ieq (n8 (aA x.1 (toN v3) zU).2.1.1) (n8 (aA x.2 (toN v3) zU).2.1.1)) (cZ (nA (aA x.1 (toN v3) zU).2.1.2.1 (aA x.2 (toN v3) zU).2.1.2.1) (nA (aA x.1 (toN v3) zU).2.1.2.2 (aA x.2 (toN v3) zU).2.1.2.2))) (seq (aA x.1 (toN v3) zU).2.2 (aA x.2 (toN v3) zU).2.2))))
       (some false)
       (v2 (w64 (aF v3 1))))))
    (v1 ())) N 0)
def wL:List PK:=[.k (.v (.st (.slice Y4)) []),.k (.v (.st (.slice Y4)) [])]
def wM:List Kd:=[.v (.bool) []]
def KC(N:Nat) (x:(List D5)×List D5):Option (Bool) :=
 bnd (B8 N x) fun v0 =>
 some v0
def FT:List PK:=[.k (.v (.slice (.st (.slice Y4))) []),.k (.v (.slice (.st (.slice Y4))) []),.fn 163]
def FU:List Kd:=[.v (.bool) []]
def O4(N:Nat) (x:(List (List D5))×List (List D5)):Option (Bool) :=
 cnd (ine (len x.1) (len x.2))
  (some false)
  (jn (fun (v0:Unit) =>
   some true)
  fun v1 =>
  bN (fun v2 (v3:Int) =>
   cnd (ilt v3 (len x.1))
    (grd (inb v3 (len x.1))
     (grd (inb v3 (len x.2))
      (bnd (KC N (aA x.1 (toN v3) [],aA x.2 (toN v3) [])) fun v4 =>
      cnd (bS v4)
       (some false)
       (v2 (w64 (aF v3 1))))))
    (v1 ())) N 0)
def FV:List PK:=[.k (.v (.slice (.st (.slice Y4))) []),.k (.v (.slice (.st (.slice Y4))) [])]
def FW:List Kd:=[.v (.bool) []]
def B9(N:Nat) (x:(List (List D5))×List (List D5)):Option (Bool) :=
 bnd (O4 N x) fun v0 =>
 some v0
def wN:List PK:=[.k (.v (.st Y3) []),.k (.v (.st Y3) [])]
def wO:List Kd:=[.v (.bool) []]
def SX(N:Nat) (x:D1×Int×(Int×Int)×Y_×UInt8×Y_×List (List D5)):Option (Bool) :=
 cnd (ieq x.1.1 x.2.1)
  (cnd (cZ (ieq x.1.2.1.1 x.2.2.1.1) (ieq x.1.2.1.2 x.2.2.1.2))
   (cnd (seq x.1.2.2.1 x.2.2.2.1)
    (cnd (ieq (n8 x.1.2.2.2.1) (n8 x.2.2.2.2.1))
     (cnd (seq x.1.2.2.2.2.1 x.2.2.2.2.2.1)
      (bnd (B9 N (x.1.2.2.2.2.2,x.2.2.2.2.2.2)) fun v0 =>
      some v0)
      (some false))
     (some false))
    (some false))
   (some false))
  (some false)
def FX:List PK:=[.k (.v (.slice (.st Y3)) []),.k (.v (.slice (.st Y3)) []),.fn 56]
def FY:List Kd:=[.v (.bool) []]
def C0(N:Nat) (x:(List D1)×List D1):Option (Bool) :=
 cnd (ine (len x.1) (len x.2))
  (some false)
  (jn (fun (v0:Unit) =>
   some true)
  fun v1 =>
  bN (fun v2 (v3:Int) =>
   cnd (ilt v3 (len x.1))
    (grd (inb v3 (len x.1))
     (grd (inb v3 (len x.2))
      (bnd (SX N (aA x.1 (toN v3) zE,aA x.2 (toN v3) zE)) fun v4 =>
      cnd (bS v4)
       (some false)
       (v2 (w64 (aF v3 1))))))
    (v1 ())) N 0)
def FZ:List PK:=[.k (.v (.slice Y6) []),.k (.v (.slice Y6) [])]
def GA:List Kd:=[.v (.bool) []]
def O5(N:Nat) (x:(List D3)×List D3):Option (Bool) :=
 cnd (ine (len x.1) (len x.2))
  (some false)
  (jn (fun (v0:Unit) =>
   some true)
  fun v1 =>
  bN (fun v2 (v3:Int) =>
   cnd (ilt v3 (len x.1))
    (grd (inb v3 (len x.1))
     (grd (inb v3 (len x.2))
      (cnd (bS (cZ (ieq (aA x.1 (toN v3) zC).1 (aA x.2 (toN v3) zC).1) (cZ (ieq (aA x.1 (toN v3) zC).2.1 (aA x.2 (toN v3) zC).2.1) (cZ (ieq (aA x.1 (toN v3) zC).2.2.1 (aA x.2 (toN v3) zC).2.2.1) (cZ (ieq (aA x.1 (toN v3) zC).2.2.2.1 (aA x.2 (toN v3) zC).2.2.2.1) (cZ (seq (aA x.1 (toN v3) zC).2.2.2.2.1 (aA x.2 (toN v3) zC).2.2.2.2.1) (cZ (seq (aA x.1 (toN v3) zC).2.2.2.2.2.1 (aA x.2 (toN v3) zC).2.2.2.2.2.1) (cZ (nA (aA x.1 (toN v3) zC).2.2.2.2.2.2.1 (aA x.2 (toN v3) zC).2.2.2.2.2.2.1) (nA (aA x.1 (toN v3) zC).2.2.2.2.2.2.2 (aA x.2 (toN v3) zC).2.2.2.2.2.2.2)))))))))
       (some false)
       (v2 (w64 (aF v3 1))))))
    (v1 ())) N 0)
def GB:List PK:=[.k (.v Y1 []),.k (.v Y1 [])]
def GC:List Kd:=[.v (.bool) []]
def KD(N:Nat) (x:D6×Y_×Y_×UInt8×Bool×Int×(List D4)×(List D1)×List D3):Option (Bool) :=
 bnd (B6 N x.1) fun v0 =>
 bnd (B6 N x.2) fun v1 =>
 cnd (cZ (seq v0.1 v1.1) (cZ (seq v0.2.1 v1.2.1) (cZ (ieq (n8 v0.2.2.1) (n8 v1.2.2.1)) (cZ (nA v0.2.2.2.1 v1.2.2.2.1) (ieq v0.2.2.2.2 v1.2.2.2.2)))))
  (bnd (B7 N (x.1.2.2.2.2.2.1,x.2.2.2.2.2.2.1)) fun v2 =>
  cnd v2
   (bnd (C0 N (x.1.2.2.2.2.2.2.1,x.2.2.2.2.2.2.2.1)) fun v3 =>
   cnd v3
    (bnd (O5 N (x.1.2.2.2.2.2.2.2,x.2.2.2.2.2.2.2.2)) fun v4 =>
    some v4)
    (some false))
   (some false))
  (some false)
def iY:List PK:=[.k (.v Y1 []),.k (.v (.u8) [])]
def iZ:List Kd:=[.v (.bool) []]
def bY(N:Nat) (x:D6×UInt8):Option (Bool) :=
 bnd (lR N ()) fun v0 =>
 cnd (bS v0)
  (some false)
  (bnd (jF N x.1) fun v1 =>
  bnd (q55 N v1) fun v2 =>
  cnd (ine v2.2 0)
   (some (ieq (len v2.1) 0))
   (bnd (q67 N v2.1) fun v3 =>
   jn (fun (v4:List D2) =>
    bnd (q93 N v4) fun v5 =>
    cnd (ieq v5.2.2 0)
     (bnd (SW N v1) fun v6 =>
     bnd (KD N (v5.1,v6)) fun v7 =>
     some v7)
     (some false))
   fun v8 =>
   bN (fun v9 (v10:Int×List D2) =>
    cnd (ilt v10.1 (len v2.1))
     (grd (inb v10.1 (len v2.1))
      (cnd (ilt 0 (len (aA v2.1 (toN v10.1) zN).2.2.1))
       (grd (ine (len (aA v2.1 (toN v10.1) zN).2.2.1) 0)
        (grd (in2 (rQ (w64 (aF (w64 (n8 x.2)) v10.1)) (len (aA v2.1 (toN v10.1) zN).2.2.1)) (len (aA v2.1 (toN v10.1) zN).2.2.1))
         (grd (in2 (rQ (w64 (aF (w64 (n8 x.2)) v10.1)) (len (aA v2.1 (toN v10.1) zN).2.2.1)) (len (aA v2.1 (toN v10.1) zN).2.2.1))
          (bnd (q69 N ([iW (toN (rQ (w64 (aF (w64 (n8 x.2)) v10.1)) (len (aA v2.1 (toN v10.1) zN).2.2.1))) (aA v2.1 (toN v10.1) zN).2.2.1,cJ (toN (rQ (w64 (aF (w64 (n8 x.2)) v10.1)) (len (aA v2.1 (toN v10.1) zN).2.2.1))) (aA v2.1 (toN v10.1) zN).2.2.1]:List (List D7))) fun v11 =>
          grd (inb v10.1 (len v10.2)) <|
          v9 (w64 (aF v10.1 1),pI v10.2 (toN v10.1) ((aA v10.2 (toN v10.1) zN).1,(aA v10.2 (toN v10.1) zN).2.1,v11,(aA v10.2 (toN v10.1) zN).2.2.2))))))
       (v9 (w64 (aF v10.1 1),v10.2))))
     (v8 v10.2)) N (0,v3)))
def aD7(N:Nat) (x:UInt8):Option (Bool) :=
 cnd (ile (n8 97) (n8 x))
  (cnd (ile (n8 x) (n8 122))
   (some true)
   (cnd (ile (n8 65) (n8 x))
    (some (ile (n8 x) (n8 90)))
    (some false)))
  (cnd (ile (n8 65) (n8 x))
   (some (ile (n8 x) (n8 90)))
   (some false))
def aAT(N:Nat) (x:UInt8):Option (Bool) :=
 cnd (ile (n8 48) (n8 x))
  (some (ile (n8 x) (n8 57)))
  (some false)
def aMQ(N:Nat) (x:Unit):Option Y_ :=
 some ([32,33,34,35,36,37,38,39,40,41,42,43,44,45,46,47,48,49,50,51,52,53,54,55,56,57,58,59,60,61,62,63,64,65,66,67,68,69,70,71,72,73,74,75,76,77,78,79,80,81,82,83,84,85,86,87,88,89,90,91,92,93,94,95,96,97,98,99,100,101,102,103,104,105,106,107,108,109,110,111,112,113,114,115,116,117,118,119,120,121,122,123,124,125,126,194,161,194,162,194,163,194,164,194,165,194,166,194,167,194,169,194,171,194,174,194,176,194,183,194,187,194,189,194,191,195,128,195,129,195,130,195,131,195,132,195,133,195,134,195,135,195,136,195,137,195,138,195,139,195,140,195,141,195,142,195,143,195,145,195,146,195,147,195,148,195,149,195,150,195,152,195,153,195,154,195,155,195,156,195,159,195,160,195,161,195,162,195,163,195,164,195,165,195,166,195,167,195,168,195,169,195,170,195,171,195,172,195,173,195,174,195,175,195,177,195,178,195,179,195,180,195,181,195,182,195,184,195,185,195,186,195,187,195,188,197,146,197,147,226,128,148,226,128,152,226,128,153,226,128,156,226,128,157,226,128,162,226,128,166,226,132,162,226,153,170]:Y_)
def aGG(N:Nat) (x:Int):Option (Int) :=
 jn (fun (v0:Unit) =>
  jn (fun (v1:Unit) =>
   some (-1))
  fun v2 =>
  bnd (aMQ N ()) fun v3 =>
  bN (fun v4 (v5:Int×Y_×Int) =>
   cnd (nlt (toN v5.2.2) (kQ v5.2.1))
    (cnd (ieq (tL v5.2.1 (toN v5.2.2)) x)
     (some v5.1)
     (v4 (w64 (aF v5.1 1),v5.2.1,ofN (lF (toN v5.2.2) (tM v5.2.1 (toN v5.2.2))))))
    (v2 ())) N (0,v3,ofN 0))
 fun v6 =>
 cnd (ile 32 x)
  (cnd (ile x 126)
   (some (w64 (wr .i32 (aJ x 32))))
   (v6 ()))
  (v6 ())
def aMR(N:Nat) (x:UInt8):Option (Bool) :=
 cnd (ile (n8 1) (n8 x))
  (some (ile (n8 x) (n8 7)))
  (some false)
def yW(N:Nat) (x:UInt8):Option Y_ :=
 bnd (aMR N x) fun v0 =>
 cnd (bS v0)
  (some ([]:Y_))
  (grd (inb (n8 (b8 (aJ (n8 x) (n8 1)))) (len ([([50,51,46,57,55,54]:Y_),([50,52]:Y_),([50,53]:Y_),([50,57,46,57,55]:Y_),([51,48]:Y_),([53,48]:Y_),([53,57,46,57,52]:Y_)]:List Y_)))
   (some (aA ([([50,51,46,57,55,54]:Y_),([50,52]:Y_),([50,53]:Y_),([50,57,46,57,55]:Y_),([51,48]:Y_),([53,48]:Y_),([53,57,46,57,52]:Y_)]:List Y_) (toN (n8 (b8 (aJ (n8 x) (n8 1))))) [])))
def aMS(N:Nat) (x:Unit):Option (List Y_) :=
 some ([([68,73,65,76,79,71,85,69]:Y_),([83,79,85,78,68]:Y_),([84,73,84,76,69]:Y_),([77,85,83,73,67]:Y_)]:List Y_)
def aD8(N:Nat) (x:UInt8):Option (Bool) :=
 cnd (ieq (n8 x) (n8 9))
  (some true)
  (cnd (ieq (n8 x) (n8 10))
   (some true)
   (cnd (ieq (n8 x) (n8 13))
    (some true)
    (some (ieq (n8 x) (n8 32)))))
def aAU(N:Nat) (x:UInt8):Option (Int) :=
 bnd (aAT N x) fun v0 =>
 cnd v0
  (some (w64 (n8 (b8 (aJ (n8 x) (n8 48))))))
  (jn (fun (v1:Bool) =>
   cnd v1
    (some (w64 (aF (w64 (n8 (b8 (aJ (n8 x) (n8 97))))) 10)))
    (cnd (ile (n8 65) (n8 x))
     (cnd (ile (n8 x) (n8 70))
      (some (w64 (aF (w64 (n8 (b8 (aJ (n8 x) (n8 65))))) 10)))
      (some (-1)))
     (some (-1))))
  fun v2 =>
  cnd (ile (n8 97) (n8 x))
   (v2 (ile (n8 x) (n8 102)))
   (v2 false))
def KE(N:Nat) (x:Y_×Int×Int):Option (Int) :=
 cnd (seq x.1 ([]:Y_))
  (some (-1))
  (cnd (ilt x.2.2 (len x.1))
   (some (-1))
   (jn (fun (v0:Int) =>
    some v0)
   fun v1 =>
   bN (fun v2 (v3:Int×Int) =>
    cnd (ilt v3.2 (len x.1))
     (grd (inb v3.2 (len x.1))
      (bnd (aAU N (aA x.1 (toN v3.2) 0)) fun v4 =>
      cnd (ilt v4 0)
       (some (-1))
       (cnd (ile x.2.1 v4)
        (some (-1))
        (v2 (w64 (aF (w64 (aDA v3.1 x.2.1)) v4),w64 (aF v3.2 1))))))
     (v1 v3.1)) N (0,0)))
def aD9(N:Nat) (x:List Int):Option Y_ :=
 jn (fun (v0:Y_) =>
  some v0)
 fun v1 =>
 bN (fun v2 (v3:Y_×Int) =>
  cnd (ilt v3.2 (len x))
   (grd (inb v3.2 (len x))
    (bnd (aGG N (aA x (toN v3.2) 0)) fun v4 =>
    cnd (ilt v4 0)
     (some ([]:Y_))
     (grd (gQ (aF (len v3.1) (len (enc (aA x (toN v3.2) 0)))))
      (v2 (bR v3.1 (enc (aA x (toN v3.2) 0)),w64 (aF v3.2 1))))))
   (v1 v3.1)) N (([]:Y_),0)
def aEA(N:Nat) (x:UInt8):Option Y_ :=
 cnd (ilt (n8 x) (n8 1))
  (some ([]:Y_))
  (cnd (ilt (n8 4) (n8 x))
   (some ([]:Y_))
   (bnd (aMS N ()) fun v0 =>
   grd (inb (n8 (b8 (aJ (n8 x) (n8 1)))) (len v0)) <|
   some (aA v0 (toN (n8 (b8 (aJ (n8 x) (n8 1))))) [])))
end
end Go.Mo
end

section
set_option linter.unusedVariables false
namespace Go.Mo
open Go Go.W Go.Proofs Go.RowKit
theorem aCI:(Tryz.prog.info? 131).map (·.size)=some 2:=by kernel_rfl
theorem aGH:liesAt Tryz.prog Tryz.prog.depth 131 (2 / Tryz.prog.cellsOf 131) 0 131 1=true:=by kernel_rfl
theorem cellsByte:Tryz.prog.cellsOf 5=1:=by kernel_rfl
theorem aEB:Tryz.prog.underlying 128=some (.pointer 131):=by kernel_rfl
theorem aGI:Tryz.prog.underlying 240=some .unsafePointer:=by kernel_rfl
theorem aCJ:Tryz.prog.underlying 204=some (.pointer 5):=by kernel_rfl
theorem aM3:Tryz.prog.underlying 129=some (.slice 5):=by kernel_rfl
theorem aMT:Tryz.prog.follows .mixedOrders=true:=by kernel_rfl
theorem fNe:Tryz.prog.funcs[206]?=some Tryz.f206:=by kernel_rfl
set_option maxHeartbeats 1000000 in
set_option maxRecDepth 100000 in
theorem aAV(b:Nat) (w:World) (h0:w.cell? ⟨b,0,none⟩=some (.pointer (some ⟨b,0,none⟩))) :
  Calls Tryz.prog 146 #[.pointer (some ⟨b,0,none⟩)] w fun e w'=>e=.returned (.tuple #[])∧w'=w:=by
 obtain⟨j,hj,_⟩:=aNO.1 aCI
 go_enter Tryz.func146,Tryz.ntmps146
 go_wp2
 rw[Lib.run_neq_ptr_same w _ aEB hj]
 go_wp2
 go_end0
 exact⟨rfl,rfl⟩
set_option maxHeartbeats 1000000 in
set_option maxRecDepth 100000 in
theorem O6(b:Nat) (w:World) (h0:w.cell? ⟨b,0,none⟩=some (.pointer none)) (hsh:w.shape? b=some (131,2)) (hfz:w.frozen? ⟨b,0,none⟩=false) :
  Calls Tryz.prog 146 #[.pointer (some ⟨b,0,none⟩)] w fun e w'=>e=.returned (.tuple #[])∧w'=w.setCell ⟨b,0,none⟩ (.pointer (some ⟨b,0,none⟩)):=by
 obtain⟨j,hj,hjs⟩:=aNO.1 aCI
 go_enter Tryz.func146,Tryz.ntmps146
 go_wp2
 rw[Lib.run_to_unsafe w ⟨b,0,none⟩ aEB aGI hj (by rw[hjs]; decide) hsh (Nat.zero_lt_succ 1)];simp only[Result.andThen];rw[Oper.upon_value]
 go_wp2
 rw[run_callFunc_extern fNe (by kernel_rfl) (by kernel_rfl) (by kernel_rfl) (e:=Extern.AbiNoEscape.same) (by kernel_rfl)];rw[Lib.run_noEscape];simp only[Result.andThen];rw[Oper.upon_value]
 go_wp2
 rw[Lib.run_from_unsafe w ⟨b,0,none⟩ aGI aEB hj hsh aGH];simp only[Result.andThen];rw[Oper.upon_value]
 go_wp2
 go_end0
 exact⟨rfl,rfl⟩
theorem aMU:aDX Tryz.prog 146 131:=by
 intro w b p v hb hp;refine⟨by
  unfold callFunc;simp only[program,aP0,Sem.run,aOS,show Tryz.prog.funcs[146]?=some Tryz.f146 from by kernel_rfl];rfl,?_⟩
 have c0:w.cell? ⟨b,0,none⟩=some p:=by rw[Lib.cell_of_heap hb]; rfl
 rcases hp with hp|hp
 ·subst hp;refine(O6 b w c0 (by simp[World.shape?,hb]) (Lib.frozen_of_heap hb 0)).mono ?_;rintro e w' ⟨rfl,rfl⟩;refine⟨rfl,rfl,rfl,rfl,by simp[World.setCell],fun b' hb'=>?_,.pointer (some ⟨b,0,none⟩),?_,.inr rfl⟩
  ·simp[World.setCell,aNV,Ne.symm hb']
  ·simp[World.setCell,aNV,hb]
 ·subst hp;refine(aAV b w c0).mono ?_;rintro e w' ⟨rfl,rfl⟩;exact⟨rfl,rfl,rfl,rfl,rfl,fun _ _=>rfl,_,hb,.inr rfl⟩
section
variable (b:Nat) (p:Value) (w:World)
set_option maxHeartbeats 2000000 in
set_option maxRecDepth 100000 in
theorem aAW(l:Y_) (h0:l≠[]) (g cap:Nat) (cur:Array Value) (fz:Nat×Nat) (hbk:w.heap[b]?=some (.cells #[p,.slice (some ⟨g,0,none⟩) l.length cap] 131 (0,0))) (hg:w.heap[g]?=some (.cells cur 5 fz)) (hnc:l.length≤cap) (hcm:cap≤maxLen) (hcs:cap≤cur.size) (htake:cur.toList.take l.length=l.map fun b=>Value.int .u8 (b.toNat:Int)) :
  Calls Tryz.prog 82 #[.pointer (some ⟨b,0,none⟩)] w fun e w'=>e=.returned (.string ⟨l.toArray⟩)∧w'=w.drew.freeze ⟨g,0,none⟩ l.length:=by
 have hl0:l.length≠0:=by simpa using h0
 have c1:w.drew.cell? ⟨b,1,none⟩=some (.slice (some ⟨g,0,none⟩) l.length cap):=by
  have:w.drew.heap[b]?=some (.cells #[p,.slice (some ⟨g,0,none⟩) l.length cap] 131 (0,0)):=hbk
  rw[Lib.cell_of_heap this]; rfl
 have hSD:(Builtin.unsafeSliceData_ #[129] 204 #[.slice (some ⟨g,0,none⟩) l.length cap]).run Tryz.prog w.drew=.ok (.pointer (some ⟨g,0,none⟩)) w.drew :=
  Lib.run_unsafeSliceData_row _ _ _ _ _ _ (by omega)
 have hUS:(Builtin.unsafeString_ #[204,3] 9 #[.pointer (some ⟨g,0,none⟩),.int .i64 l.length]).run Tryz.prog w.drew=.ok (.string ⟨l.toArray⟩) (w.drew.freeze ⟨g,0,none⟩ l.length):=by
  refine Lib.run_unsafeString_row w.drew 204 3 9 5 aCJ cellsByte g cur.size (by have hg':w.drew.heap[g]?=some (.cells cur 5 fz):=hg; simp[World.shape?,hg']) l h0 (by omega) (by unfold maxLen at hcm; omega) ?_;intro j x hx
  have hg':w.drew.heap[g]?=some (.cells cur 5 fz):=hg
  rw[add_lit,iG hg',aPY]
  have hj:j<l.length:=(aNC.1 hx).1
  have:=congrArg (·[j]?) htake
  simp only[aOH,hj,if_true,aOU,hx,aPD] at this
  simpa using this
 go_enter Tryz.func82,Tryz.ntmps82
 go_wp2
 go_region
 all_goals (go_wp2; go_ret; exact⟨rfl,rfl⟩)
theorem GD(W:World) (q:Option Addr):(Builtin.unsafeString_ #[204,3] 9 #[.pointer q,.int .i64 0]).run Tryz.prog W=.ok (.string .empty) W:=Lib.run_unsafeString_none W _ _ _ q
set_option maxHeartbeats 2000000 in
set_option maxRecDepth 100000 in
theorem aEC(hbk:w.heap[b]?=some (.cells #[p,.slice none 0 0] 131 (0,0))) :
  Calls Tryz.prog 82 #[.pointer (some ⟨b,0,none⟩)] w fun e w'=>e=.returned (.string ⟨#[]⟩)∧w'=w.drew:=by
 have hUS:=GD
 have c1:w.drew.cell? ⟨b,1,none⟩=some (.slice none 0 0):=by
  have:w.drew.heap[b]?=some (.cells #[p,.slice none 0 0] 131 (0,0)):=hbk
  rw[Lib.cell_of_heap this]; rfl
 have hSD:(Builtin.unsafeSliceData_ #[129] 204 #[.slice none 0 0]).run Tryz.prog w.drew=.ok (.pointer none) w.drew:=rfl
 go_enter Tryz.func82,Tryz.ntmps82
 go_wp2
 go_region
 all_goals (go_wp2; go_ret; exact⟨rfl,rfl⟩)
set_option maxHeartbeats 2000000 in
set_option maxRecDepth 100000 in
theorem C1(g:Nat) (cur:Array Value) (fz:Nat×Nat) (hbk:w.heap[b]?=some (.cells #[p,.slice (some ⟨g,0,none⟩) 0 0] 131 (0,0))) (hg:w.heap[g]?=some (.cells cur 5 fz)) :
  Calls Tryz.prog 82 #[.pointer (some ⟨b,0,none⟩)] w fun e w'=>e=.returned (.string ⟨#[]⟩)∧∃d o,w'=World.alloc { w with drawn:=d } o:=by
 have hUS:=GD
 have hlt:b<w.heap.size:=(aM9.1 hbk).1
 have c1:w.drew.cell? ⟨b,1,none⟩=some (.slice (some ⟨g,0,none⟩) 0 0):=by
  have:w.drew.heap[b]?=some (.cells #[p,.slice (some ⟨g,0,none⟩) 0 0] 131 (0,0)):=hbk
  rw[Lib.cell_of_heap this]; rfl
 have hSD:(Builtin.unsafeSliceData_ #[129] 204 #[.slice (some ⟨g,0,none⟩) 0 0]).run Tryz.prog w.drew=.ok (.pointer (some ⟨w.drew.heap.size,0,none⟩)) (w.drew.alloc (.view ⟨g,0,none⟩ 5)) :=
  Lib.run_unsafeSliceData_zero w.drew _ _ 5 aCJ ⟨g,0,none⟩ 0 (5,cur.size) (by have hg':w.drew.heap[g]?=some (.cells cur 5 fz):=hg; simp[World.shape?,hg'])
 have c2:(w.drew.alloc (.view ⟨g,0,none⟩ 5)).cell? ⟨b,1,none⟩=some (.slice (some ⟨g,0,none⟩) 0 0):=by
  have:(w.drew.alloc (.view ⟨g,0,none⟩ 5)).heap[b]?=_:=(Lib.alloc_old w.drew _ b hlt).trans hbk
  rw[Lib.cell_of_heap this]; rfl
 have c3:(w.alloc (.view ⟨g,0,none⟩ 5)).drew.cell? ⟨b,1,none⟩=some (.slice (some ⟨g,0,none⟩) 0 0):=c2
 have c0:w.cell? ⟨b,1,none⟩=some (.slice (some ⟨g,0,none⟩) 0 0):=c1
 go_enter Tryz.func82,Tryz.ntmps82
 go_wp2
 go_region
 all_goals (go_wp2; go_ret; exact⟨rfl,w.drawn+1,.view ⟨g,0,none⟩ 5,rfl⟩)
set_option maxHeartbeats 2000000 in
set_option maxRecDepth 100000 in
theorem aAX(g cap:Nat) (hc0:cap≠0) (hbk:w.heap[b]?=some (.cells #[p,.slice (some ⟨g,0,none⟩) 0 cap] 131 (0,0))) :
  Calls Tryz.prog 82 #[.pointer (some ⟨b,0,none⟩)] w fun e w'=>e=.returned (.string ⟨#[]⟩)∧w'=w.drew:=by
 have hUS:=GD
 have c1:w.drew.cell? ⟨b,1,none⟩=some (.slice (some ⟨g,0,none⟩) 0 cap):=by
  have:w.drew.heap[b]?=some (.cells #[p,.slice (some ⟨g,0,none⟩) 0 cap] 131 (0,0)):=hbk
  rw[Lib.cell_of_heap this]; rfl
 have hSD:(Builtin.unsafeSliceData_ #[129] 204 #[.slice (some ⟨g,0,none⟩) 0 cap]).run Tryz.prog w.drew=.ok (.pointer (some ⟨g,0,none⟩)) w.drew :=
  Lib.run_unsafeSliceData_row _ _ _ _ _ _ hc0
 clear hc0
 go_enter Tryz.func82,Tryz.ntmps82
 go_wp2
 go_region
 all_goals (go_wp2; go_ret; exact⟨rfl,rfl⟩)
end
theorem aGJ:aGA Tryz.prog 82 131:=by
 intro w b p A c xs hb hcm hpre;refine⟨by
  unfold callFunc;simp only[program,aP0,Sem.run,aOS,show Tryz.prog.funcs[82]?=some Tryz.f82 from by kernel_rfl];rfl,?_⟩
 have same:∀(A:Option Addr) (w':World),w'=w.drew→DJ w w' A:=fun A w' e=>by
  subst e;exact⟨rfl,rfl,rfl,aP6 _,fun _ _ _=>rfl,fun ad _ cs e fz h=>⟨fz,h⟩⟩
 rcases hpre with⟨rfl,rfl,rfl⟩|⟨g,cur,fz,rfl,h1,h2,h3,h4,h5⟩
 ·exact(aEC b p w hb).mono fun e w' ⟨he,hw⟩=>⟨he,same _ _ hw⟩
 ·by_cases hx:xs=[]
  ·subst hx
   by_cases hc:c=0
   ·subst hc;refine(C1 b p w g cur fz hb h1).mono fun e w' ⟨he,d,o,hw⟩=>⟨he,?_⟩
    subst hw
    have old:∀b',b'<w.heap.size→(World.alloc { w with drawn:=d } o).heap[b']?=w.heap[b']?:=fun b' hb'=>Below.heap_alloc { w with drawn:=d } o b' hb'
    exact⟨rfl,rfl,rfl,by simp[World.alloc],fun b' hb' _=>old b' hb',fun ad _ cs e fz h=>⟨fz,by rw[old _ (aM9.1 h).1]; exact h⟩⟩
   ·exact(aAX b p w g c hc hb).mono fun e w' ⟨he,hw⟩=>⟨he,same _ _ hw⟩
  ·refine(aAW b p w xs hx g c cur fz hb h1 h3 hcm h4 h5).mono fun e w' ⟨he,hw⟩=>⟨he,?_⟩
   subst hw
   have hne:xs.length≠0:=by simpa using hx
   unfold World.freeze;rw[if_neg hne];refine⟨rfl,rfl,rfl,by simp,fun b' _ hb'=>?_,fun ad had cs e fz' h=>?_⟩
   ·have hgb:g≠b':=fun e=>hb' _ rfl e.symm
    show(w.heap.modify g _)[b']?=w.heap[b']?;rw[aNV,if_neg hgb]
   ·injection had with had;subst had
    have h:w.heap[g]?=some (.cells cs e fz'):=h
    obtain⟨lo,hi⟩:=fz';refine⟨if lo==hi then(0,0+xs.length) else(min lo 0,max hi (0+xs.length)),?_⟩;show(w.heap.modify g _)[g]?=_;rw[aNV,if_pos rfl,h];rfl
end Go.Mo
end

section
set_option linter.unusedVariables false
namespace Go.Mo
open Go Go.W Go.Proofs Go.Shelf Go.RowKit
set_option maxRecDepth 100000
def aMV:Ren:=⟨fun n=>match n with | 196=>193 | 259=>242|n=>n,fun n=>match n with | 46=>265 | 53=>146 | 119=>261 | 138=>263 | 139=>264|n=>n,fun n=>match n with | 3=>3 | 4=>4|n=>n⟩
theorem aGK:Lays.n196 Tryz.prog aMV:={ mixed:=by kernel_rfl,f196:=by kernel_rfl,f259:=by kernel_rfl,t0:=by kernel_rfl,a0:=fun _=>by kernel_rfl,z0:=fun _=>by kernel_rfl,v0:=fun _=>by kernel_rfl,t3:=by kernel_rfl,a3:=fun _=>by kernel_rfl,z3:=fun _=>by kernel_rfl,v3:=fun _=>by kernel_rfl,t4:=by kernel_rfl,a4:=fun _=>by kernel_rfl,z4:=fun _=>by kernel_rfl,v4:=fun _=>by kernel_rfl,t5:=by kernel_rfl,a5:=fun _=>by kernel_rfl,z5:=fun _=>by kernel_rfl,v5:=fun _=>by kernel_rfl,t9:=by kernel_rfl,a9:=fun _=>by kernel_rfl,z9:=fun _=>by kernel_rfl,v9:=fun _=>by kernel_rfl,t12:=by kernel_rfl,a12:=fun _=>by kernel_rfl,z12:=fun _=>by kernel_rfl,v12:=fun _=>by kernel_rfl,t46:=by kernel_rfl,a46:=fun _=>by kernel_rfl,z46:=fun _=>by kernel_rfl,v46:=fun _=>by kernel_rfl,t53:=by kernel_rfl,a53:=fun _=>by kernel_rfl,z53:=fun _=>by kernel_rfl,v53:=fun _=>by kernel_rfl,t119:=by kernel_rfl,a119:=fun _=>by kernel_rfl,z119:=fun _=>by kernel_rfl,t138:=by kernel_rfl,a138:=fun _=>by kernel_rfl,z138:=fun _=>by kernel_rfl,v138:=fun _=>by kernel_rfl,t139:=by kernel_rfl,a139:=fun _=>by kernel_rfl,z139:=fun _=>by kernel_rfl,v139:=fun _=>by kernel_rfl,g3:=by kernel_rfl,g4:=by kernel_rfl }
theorem C2:((List.range 256).all fun c=>Nat.beq ((gl3.getD c 0).toNat) (Lib.firstT c)&&Nat.beq gl3.length 256)=true:=by kernel_rfl
theorem aAY:((List.range 16).all fun c=>Nat.beq ((gl4.getD c (0,0)).1.toNat) (Lib.accLo c)&&Nat.beq ((gl4.getD c (0,0)).2.toNat) (Lib.accHi c)&&Nat.beq gl4.length 16)=true:=by kernel_rfl
theorem BU{K:Kn}:∀ {xs:List (UInt8×UInt8)}{vs:List Value},cO (aR K (.st (.pair .u8 .u8))) xs vs→∀i x,xs[i]?=some x→vs[2*i]?=some (.int .u8 (n8 x.1))∧vs[2*i+1]?=some (.int .u8 (n8 x.2))
 | [],vs,h,i,x,hx=>by simp at hx
 |y::xs,vs,⟨c1,c2,e,h1,h2⟩,i,x,hx=>by
  obtain⟨d1,d2,e1,e2,e3⟩:=h1
  have e2:d1=[.int .u8 (n8 y.1)]:=e2
  have e3:d2=[.int .u8 (n8 y.2)]:=e3
  subst e2;subst e3;subst e1;subst e
  cases i with
  |zero=>simp at hx; subst hx; exact⟨rfl,rfl⟩
  |succ i =>
   have:=BU h2 i x (by simpa using hx)
   rw[show 2*(i+1)=2*i+1+1 by omega]
   simpa using this
theorem aGL{K:Kn}{w:World}(hg:fD E K) (hk:KOk K w):Lib.Utf8Tabs 3 4 w:=by
 have cell:∀ {b o:Nat} {v:Value},K b o=some v→v.oneCell'=true→w.cell? ⟨b,o,none⟩=some v:=fun {b o v} h hv=>by
  obtain⟨cs,e,fz,h1,h2⟩:=hk b o v h;rw[iG h1];exact h2.1 hv
 constructor
 ·obtain⟨cs,⟨_,r2⟩,r3,_⟩:=hg.1 3 _ _ (show lkG E.gl 3=some ⟨.arr 256 .u8,gl3⟩ from by kernel_rfl)
  have hcs:=lA r2
  intro c hc
  have ht:=aO6.1 C2 c (List.mem_range.2 hc)
  simp only[aOY] at ht
  have ht1:=aNP ht.1
  have ht2:=aNP ht.2
  have hlt:c<gl3.length:=by rw[ht2]; exact hc
  refine cell (r3 c _ ?_) rfl;rw[hcs,aOU,aNH hlt]
  have:gl3.getD c 0=gl3[c]:=by simp[hlt]
  rw[this] at ht1;simp[ht1]
 ·obtain⟨cs,⟨_,r2⟩,r3,_⟩:=hg.1 4 _ _ (show lkG E.gl 4=some ⟨.arr 16 (.st (.pair .u8 .u8)),gl4⟩ from by kernel_rfl);intro c hc
  have ht:=aO6.1 aAY c (List.mem_range.2 hc)
  simp only[aOY] at ht
  have ht1:=aNP ht.1.1
  have ht2:=aNP ht.1.2
  have ht3:=aNP ht.2
  have hlt:c<gl4.length:=by rw[ht3]; exact hc
  obtain⟨q1,q2⟩:=BU r2 c _ (aNH hlt)
  have:gl4.getD c (0,0)=gl4[c]:=by simp[hlt]
  rw[this] at ht1 ht2;refine⟨cell (r3 _ _ (by rw[q1]; unfold n8; rw[ht1])) rfl,cell (r3 _ _ (by rw[q2]; unfold n8; rw[ht2])) rfl⟩
theorem khV(N:Nat):aH E ⟨193,[.k (.v .str [])],[.v .bool []],gR N⟩:=by
 intro x r h w K H γ args hEnt;obtain⟨hgd,h⟩:=aN (show grd (gQ (len x)) (some (Lib.validD x))=some r from h);injection h with h;subst h
 have hgd:(x.length:Int)≤9223372036854775807:=of_decide_eq_true hgd
 right
 have hs:args.size=1:=hEnt.size
 have s0:=(hEnt.slots 0 0 (.val (.one (.v .str x))) rfl).2
 have s0:args.getD 0 undef=.string (bst x):=by simpa [aV,bU,aC,aR] using s0
 have ha:args=#[.string (bst x)]:=by
  apply Array.ext
  ·simpa using hs
  ·intro i h1 h3;simp at h3;subst h3
   have:args.getD 0 undef=args[0]:=by simp[Array.getD,hs]
   rw[←this,s0];rfl
 subst ha
 have hsz:(bst x).size=x.length:=cL x
 refine⟨by
  unfold callFunc;simp only[program,aP0,Sem.run,aOS,show E.P.funcs[193]?=some Tryz.f193 from by kernel_rfl];rfl,?_⟩
 have hT:=aGL hEnt.glob hEnt.hp.kok
 refine(Any.utf8_ValidString aGK (bst x) w (by rw[hsz]; omega) hT).mono fun e w' he=>?_
 obtain⟨rfl,hb⟩:=he;intro tk _;refine⟨γ,obs (W.start [.k (.v .str [])] x),K,[],[],?_,⟨rfl,rfl⟩,fun j=>by simp,fun i o ho=>?_,fun γ2 _=>rfl⟩
 ·have hn:∀j,obs (W.start [.k (.v .str [])] x) j=none:=fun j=>rfl
  refine⟨hb.os,hb.tape,hb.output,hb.size,fun b hlt _=>⟨hb.block b hlt,fun _=>rfl⟩,Kn.le.refl K,fun b o v hv=>?_,fun j o g hj=>(by rw[hn] at hj; cases hj),fun j o g hj=>(by rw[hn] at hj; cases hj),fun i j p q g g' hi=>(by rw[hn] at hi; cases hi)⟩;obtain⟨cs,ee,fz,h1,h2⟩:=hEnt.hp.kok b o v hv;exact⟨cs,ee,fz,by rw[hb.block b (aM9.1 h1).1]; exact h1,h2⟩
 ·have ho:([]:List Ob)[i]?=some o:=ho
  simp at ho
end Go.Mo
end

section
set_option linter.all false
namespace Go.Mo
open Go Go.W Go.Proofs Go.Shelf Go.RowKit
set_option maxRecDepth 100000
def aMW:Ren:=⟨fun n=>match n with | 143=>180 | 144=>201 | 217=>230 | 219=>232 | 224=>263 | 225=>262 | 266=>261 | 267=>264 | 314=>284|n=>n,fun n=>match n with | 46=>265 | 51=>274 | 146=>282 | 22=>226 | 23=>255 | 24=>216 | 25=>217 | 27=>223 | 28=>196 | 31=>92 | 32=>219 | 33=>157 | 37=>129 | 39=>218 | 40=>331 | 41=>249 | 42=>90 | 47=>277 | 48=>334 | 52=>291 | 53=>146 | 54=>245 | 55=>224 | 63=>293 | 64=>266 | 65=>242 | 66=>203 | 69=>52 | 70=>128 | 71=>130 | 72=>131 | 73=>268 | 74=>132 | 75=>133 | 76=>134 | 77=>135 | 78=>296 | 80=>137 | 81=>136 | 83=>243 | 84=>142 | 85=>280 | 86=>281 | 94=>403 | 103=>165 | 104=>59 | 105=>269 | 106=>270 | 108=>330 | 111=>276 | 114=>271 | 115=>285 | 116=>286 | 117=>287 | 118=>288 | 119=>261 | 122=>284 | 123=>289 | 124=>290 | 127=>204 | 128=>292 | 131=>126 | 136=>260 | 137=>262 | 138=>263 | 139=>264 | 143=>335 | 144=>336 | 145=>337 | 151=>283 | 164=>240 | 165=>241 | 166=>299 | 167=>302 | 168=>305 | 169=>306 | 170=>307 | 171=>244 | 172=>246 | 173=>247 | 174=>248 | 175=>303 | 176=>304 | 209=>328 | 210=>329 | 211=>272 | 212=>273 | 213=>275 | 214=>327 | 232=>300 | 233=>301 | 238=>378 | 239=>379 | 240=>380 | 241=>381 | 242=>382 | 243=>383 | 244=>384 | 245=>385 | 246=>386 | 247=>387 | 248=>388 | 249=>389|n=>n,fun n=>match n with | 1=>6 | 15=>9 | 16=>10 | 17=>5 | 18=>7 | 19=>8|n=>n⟩
theorem aGM:Lays.n144 Tryz.prog aMW:={ mixed:=by kernel_rfl,f143:=by kernel_rfl,f144:=by kernel_rfl,f217:=by kernel_rfl,f219:=by kernel_rfl,f224:=by kernel_rfl,f225:=by kernel_rfl,f266:=by kernel_rfl,f267:=by kernel_rfl,f314:=by kernel_rfl,t3:=by kernel_rfl,a3:=fun _=>by kernel_rfl,z3:=fun _=>by kernel_rfl,v3:=fun _=>by kernel_rfl,t4:=by kernel_rfl,a4:=fun _=>by kernel_rfl,z4:=fun _=>by kernel_rfl,v4:=fun _=>by kernel_rfl,t5:=by kernel_rfl,a5:=fun _=>by kernel_rfl,z5:=fun _=>by kernel_rfl,v5:=fun _=>by kernel_rfl,t9:=by kernel_rfl,a9:=fun _=>by kernel_rfl,z9:=fun _=>by kernel_rfl,v9:=fun _=>by kernel_rfl,t46:=by kernel_rfl,a46:=fun _=>by kernel_rfl,z46:=fun _=>by kernel_rfl,v46:=fun _=>by kernel_rfl,t51:=by kernel_rfl,a51:=fun _=>by kernel_rfl,z51:=fun _=>by kernel_rfl,v51:=fun _=>by kernel_rfl,t146:=by kernel_rfl,a146:=fun _=>by kernel_rfl,z146:=fun _=>by kernel_rfl,v146:=fun _=>by kernel_rfl,g1:=by kernel_rfl }
theorem SY(N:Nat):aH E ⟨201,[.k (.v .str []),.k (.v .str [])],[.v .bool []],gS N⟩ :=
 aAM (fn:=Tryz.f201) _ (show E.P.funcs[201]?=some Tryz.f201 from by kernel_rfl) (by kernel_rfl) (by kernel_rfl) fun x r h w K hG hk=>by
  obtain⟨hb,h⟩:=aN h;injection h with h;subst h
  have hb:x.1.length<4294967281:=of_decide_eq_true hb
  obtain⟨m,hm⟩:=hG.2.1 6 (by kernel_rfl);obtain⟨cs,e,fz,h1,h2⟩:=hk _ _ _ hm;exact Any.strings_Contains aGM (bst x.1) (bst x.2) m w (by rw[cL]; exact hb) (by
   show w.cell? ⟨6,0,none⟩=_;rw[iG h1];exact h2.1 rfl)
def aGN:Ren:=⟨fun n=>match n with | 138=>176 | 143=>180 | 154=>207 | 165=>247 | 166=>79 | 169=>82 | 195=>226 | 197=>248 | 217=>230 | 218=>227 | 219=>232 | 224=>263 | 225=>262 | 240=>146 | 241=>277 | 260=>278 | 266=>261 | 267=>264 | 276=>206 | 277=>293 | 314=>284|n=>n,fun n=>match n with | 37=>129 | 46=>265 | 51=>274 | 70=>128 | 72=>131 | 75=>133 | 76=>134 | 80=>137 | 105=>269 | 119=>261 | 127=>204 | 138=>263 | 139=>264 | 146=>282 | 164=>240 | 22=>226 | 23=>255 | 24=>216 | 25=>217 | 27=>223 | 28=>196 | 31=>92 | 32=>219 | 33=>157 | 39=>218 | 40=>331 | 41=>249 | 42=>90 | 47=>277 | 48=>334 | 52=>291 | 53=>146 | 54=>245 | 55=>224 | 63=>293 | 64=>266 | 65=>242 | 66=>203 | 69=>52 | 71=>130 | 73=>268 | 74=>132 | 77=>135 | 78=>296 | 81=>136 | 83=>243 | 84=>142 | 85=>280 | 86=>281 | 94=>403 | 103=>165 | 104=>59 | 106=>270 | 108=>330 | 111=>276 | 114=>271 | 115=>285 | 116=>286 | 117=>287 | 118=>288 | 122=>284 | 123=>289 | 124=>290 | 128=>292 | 131=>126 | 136=>260 | 137=>262 | 143=>335 | 144=>336 | 145=>337 | 151=>283 | 165=>241 | 166=>299 | 167=>302 | 168=>305 | 169=>306 | 170=>307 | 171=>244 | 172=>246 | 173=>247 | 174=>248 | 175=>303 | 176=>304 | 209=>328 | 210=>329 | 211=>272 | 212=>273 | 213=>275 | 214=>327 | 232=>300 | 233=>301 | 238=>378 | 239=>379 | 240=>380 | 241=>381 | 242=>382 | 243=>383 | 244=>384 | 245=>385 | 246=>386 | 247=>387 | 248=>388 | 249=>389|n=>n,fun n=>match n with | 1=>6 | 15=>9 | 16=>10 | 17=>5 | 18=>7 | 19=>8|n=>n⟩
theorem KF:Lays.n154 Tryz.prog aGN:={ mixed:=by kernel_rfl,f138:=by kernel_rfl,f143:=by kernel_rfl,f154:=by kernel_rfl,f165:=by kernel_rfl,f166:=by kernel_rfl,f169:=by kernel_rfl,f195:=by kernel_rfl,f197:=by kernel_rfl,f217:=by kernel_rfl,f218:=by kernel_rfl,f219:=by kernel_rfl,f224:=by kernel_rfl,f225:=by kernel_rfl,f240:=by kernel_rfl,f241:=by kernel_rfl,f260:=by kernel_rfl,f266:=by kernel_rfl,f267:=by kernel_rfl,f276:=by kernel_rfl,f277:=by kernel_rfl,f314:=by kernel_rfl,t0:=by kernel_rfl,a0:=fun _=>by kernel_rfl,z0:=fun _=>by kernel_rfl,v0:=fun _=>by kernel_rfl,t3:=by kernel_rfl,a3:=fun _=>by kernel_rfl,z3:=fun _=>by kernel_rfl,v3:=fun _=>by kernel_rfl,t4:=by kernel_rfl,a4:=fun _=>by kernel_rfl,z4:=fun _=>by kernel_rfl,v4:=fun _=>by kernel_rfl,t5:=by kernel_rfl,a5:=fun _=>by kernel_rfl,z5:=fun _=>by kernel_rfl,v5:=fun _=>by kernel_rfl,t9:=by kernel_rfl,a9:=fun _=>by kernel_rfl,z9:=fun _=>by kernel_rfl,v9:=fun _=>by kernel_rfl,t20:=by kernel_rfl,a20:=fun _=>by kernel_rfl,z20:=fun _=>by kernel_rfl,v20:=fun _=>by kernel_rfl,t21:=by kernel_rfl,a21:=fun _=>by kernel_rfl,z21:=fun _=>by kernel_rfl,v21:=fun _=>by kernel_rfl,t37:=by kernel_rfl,a37:=fun _=>by kernel_rfl,z37:=fun _=>by kernel_rfl,v37:=fun _=>by kernel_rfl,t46:=by kernel_rfl,a46:=fun _=>by kernel_rfl,z46:=fun _=>by kernel_rfl,v46:=fun _=>by kernel_rfl,t51:=by kernel_rfl,a51:=fun _=>by kernel_rfl,z51:=fun _=>by kernel_rfl,v51:=fun _=>by kernel_rfl,t70:=by kernel_rfl,a70:=fun _=>by kernel_rfl,z70:=fun _=>by kernel_rfl,v70:=fun _=>by kernel_rfl,t72:=by kernel_rfl,a72:=fun _=>by kernel_rfl,z72:=fun _=>by kernel_rfl,v72:=fun _=>by kernel_rfl,t75:=by kernel_rfl,a75:=fun _=>by kernel_rfl,z75:=fun _=>by kernel_rfl,v75:=fun _=>by kernel_rfl,t76:=by kernel_rfl,a76:=fun _=>by kernel_rfl,z76:=fun _=>by kernel_rfl,v76:=fun _=>by kernel_rfl,t105:=by kernel_rfl,a105:=fun _=>by kernel_rfl,z105:=fun _=>by kernel_rfl,v105:=fun _=>by kernel_rfl,t119:=by kernel_rfl,a119:=fun _=>by kernel_rfl,z119:=fun _=>by kernel_rfl,t127:=by kernel_rfl,a127:=fun _=>by kernel_rfl,z127:=fun _=>by kernel_rfl,v127:=fun _=>by kernel_rfl,t138:=by kernel_rfl,a138:=fun _=>by kernel_rfl,z138:=fun _=>by kernel_rfl,v138:=fun _=>by kernel_rfl,t139:=by kernel_rfl,a139:=fun _=>by kernel_rfl,z139:=fun _=>by kernel_rfl,v139:=fun _=>by kernel_rfl,t146:=by kernel_rfl,a146:=fun _=>by kernel_rfl,z146:=fun _=>by kernel_rfl,v146:=fun _=>by kernel_rfl,t164:=by kernel_rfl,a164:=fun _=>by kernel_rfl,z164:=fun _=>by kernel_rfl,v164:=fun _=>by kernel_rfl,g1:=by kernel_rfl,g3:=by kernel_rfl,g4:=by kernel_rfl }
theorem aED:Builder.Extra Tryz.prog aGN where
 sizeBuilder:=by kernel_rfl
 liesBuilder:=by kernel_rfl
 t5:=KF.t5
 a5:=KF.a5
 z5:=KF.z5
 v5:=KF.v5
 infoByte:=by kernel_rfl
 cellsByte:=by kernel_rfl
 sizeByte:=by kernel_rfl
 neB5:=by decide
theorem C3(N:Nat):aH E ⟨207,[.k (.v .str []),.k (.v .str []),.k (.v .str []),.k (.v (.int .i64) [])],[.v .str []],iL N⟩ :=
 M8 (fn:=Tryz.f207) _ (show E.P.funcs[207]?=some Tryz.f207 from by kernel_rfl) (by kernel_rfl) (by kernel_rfl) fun x r h w K hG hk=>by
  obtain⟨hb,h⟩:=aN h;obtain⟨hc,h⟩:=aN h;obtain⟨hd,h⟩:=aN h;injection h with h;subst h
  have hb:x.1.length<4294967281:=of_decide_eq_true hb
  have hc:1≤x.2.1.length:=of_decide_eq_true hc
  have hd:x.1.length+Lib.count x.1 x.2.1*x.2.2.1.length≤140737488355328:=of_decide_eq_true hd
  obtain⟨m,hm⟩:=hG.2.1 6 (by kernel_rfl);obtain⟨cs,e,fz,h1,h2⟩:=hk _ _ _ hm;refine(Any.strings_Replace KF aED (bst x.1) (bst x.2.1) (bst x.2.2.1) x.2.2.2 m w (by rw[cL]; exact hb) (by
   show w.cell? ⟨6,0,none⟩=_;rw[iG h1];exact h2.1 rfl) (by rw[cL]; exact hc) (by rw[cL,cL]; exact hd)).mono fun e w' he=>?_
  obtain⟨q1,q2⟩:=he;exact⟨q1,q2.os,q2.tape,q2.output,q2.size,q2.block⟩
def aMX:Ren:=⟨fun n=>match n with | 129=>250 | 246=>148 | 283=>208 | 284=>209 | 285=>210 | 286=>211 | 317=>249 | 318=>251 | 319=>252 | 320=>253 | 337=>279 | 338=>280|n=>n,fun n=>match n with | 37=>129 | 46=>265 | 51=>274 | 53=>146 | 171=>244 | 173=>247 | 212=>273 | 213=>275 | 232=>300 | 233=>301 | 22=>226 | 23=>255 | 24=>216 | 25=>217 | 27=>223 | 28=>196 | 31=>92 | 32=>219 | 33=>157 | 39=>218 | 40=>331 | 41=>249 | 42=>90 | 47=>277 | 48=>334 | 52=>291 | 54=>245 | 55=>224 | 63=>293 | 64=>266 | 65=>242 | 66=>203 | 69=>52 | 70=>128 | 71=>130 | 72=>131 | 73=>268 | 74=>132 | 75=>133 | 76=>134 | 77=>135 | 78=>296 | 80=>137 | 81=>136 | 83=>243 | 84=>142 | 85=>280 | 86=>281 | 94=>403 | 103=>165 | 104=>59 | 105=>269 | 106=>270 | 108=>330 | 111=>276 | 114=>271 | 115=>285 | 116=>286 | 117=>287 | 118=>288 | 119=>261 | 122=>284 | 123=>289 | 124=>290 | 127=>204 | 128=>292 | 131=>126 | 136=>260 | 137=>262 | 138=>263 | 139=>264 | 143=>335 | 144=>336 | 145=>337 | 146=>282 | 151=>283 | 164=>240 | 165=>241 | 166=>299 | 167=>302 | 168=>305 | 169=>306 | 170=>307 | 172=>246 | 174=>248 | 175=>303 | 176=>304 | 209=>328 | 210=>329 | 211=>272 | 214=>327 | 238=>378 | 239=>379 | 240=>380 | 241=>381 | 242=>382 | 243=>383 | 244=>384 | 245=>385 | 246=>386 | 247=>387 | 248=>388 | 249=>389|n=>n,fun n=>match n with | 17=>5 | 18=>7 | 19=>8 | 1=>6 | 15=>9 | 16=>10|n=>n⟩
theorem aGO:LaysM.n246 Tryz.prog aMX:={ mixed:=by kernel_rfl,f129:=by kernel_rfl,f246:=by kernel_rfl,f283:=by kernel_rfl,f284:=by kernel_rfl,f285:=by kernel_rfl,f286:=by kernel_rfl,f317:=by kernel_rfl,f318:=by kernel_rfl,f319:=by kernel_rfl,f320:=by kernel_rfl,f337:=by kernel_rfl,f338:=by kernel_rfl,t0:=by kernel_rfl,a0:=fun _=>by kernel_rfl,z0:=fun _=>by kernel_rfl,v0:=fun _=>by kernel_rfl,t2:=by kernel_rfl,a2:=fun _=>by kernel_rfl,z2:=fun _=>by kernel_rfl,v2:=fun _=>by kernel_rfl,t3:=by kernel_rfl,a3:=fun _=>by kernel_rfl,z3:=fun _=>by kernel_rfl,v3:=fun _=>by kernel_rfl,t4:=by kernel_rfl,a4:=fun _=>by kernel_rfl,z4:=fun _=>by kernel_rfl,v4:=fun _=>by kernel_rfl,t5:=by kernel_rfl,a5:=fun _=>by kernel_rfl,z5:=fun _=>by kernel_rfl,v5:=fun _=>by kernel_rfl,t9:=by kernel_rfl,a9:=fun _=>by kernel_rfl,z9:=fun _=>by kernel_rfl,v9:=fun _=>by kernel_rfl,t20:=by kernel_rfl,a20:=fun _=>by kernel_rfl,z20:=fun _=>by kernel_rfl,v20:=fun _=>by kernel_rfl,t37:=by kernel_rfl,a37:=fun _=>by kernel_rfl,z37:=fun _=>by kernel_rfl,v37:=fun _=>by kernel_rfl,t46:=by kernel_rfl,a46:=fun _=>by kernel_rfl,z46:=fun _=>by kernel_rfl,v46:=fun _=>by kernel_rfl,t51:=by kernel_rfl,a51:=fun _=>by kernel_rfl,z51:=fun _=>by kernel_rfl,v51:=fun _=>by kernel_rfl,t53:=by kernel_rfl,a53:=fun _=>by kernel_rfl,z53:=fun _=>by kernel_rfl,v53:=fun _=>by kernel_rfl,t171:=by kernel_rfl,a171:=fun _=>by kernel_rfl,z171:=fun _=>by kernel_rfl,v171:=fun _=>by kernel_rfl,t173:=by kernel_rfl,a173:=fun _=>by kernel_rfl,z173:=fun _=>by kernel_rfl,v173:=fun _=>by kernel_rfl,t212:=by kernel_rfl,a212:=fun _=>by kernel_rfl,z212:=fun _=>by kernel_rfl,v212:=fun _=>by kernel_rfl,t213:=by kernel_rfl,a213:=fun _=>by kernel_rfl,z213:=fun _=>by kernel_rfl,t232:=by kernel_rfl,a232:=fun _=>by kernel_rfl,z232:=fun _=>by kernel_rfl,v232:=fun _=>by kernel_rfl,t233:=by kernel_rfl,a233:=fun _=>by kernel_rfl,z233:=fun _=>by kernel_rfl,v233:=fun _=>by kernel_rfl,g17:=by kernel_rfl,g18:=by kernel_rfl,g19:=by kernel_rfl,i0:=by kernel_rfl,i2:=by kernel_rfl,i3:=by kernel_rfl,i4:=by kernel_rfl,i5:=by kernel_rfl,i9:=by kernel_rfl,i20:=by kernel_rfl,i37:=by kernel_rfl,i46:=by kernel_rfl,i51:=by kernel_rfl,i53:=by kernel_rfl,i171:=by kernel_rfl,i173:=by kernel_rfl,i212:=by kernel_rfl,i232:=by kernel_rfl,i233:=by kernel_rfl,m17:=by kernel_rfl,m18:=by kernel_rfl,m19:=by kernel_rfl }
theorem KG(N:Nat):aH E ⟨148,[.k (.v (.int .i64) []),.k (.v (.int .i64) [])],[.v .str []],cM N⟩ :=
 aAN (fn:=Tryz.f148) _ (show E.P.funcs[148]?=some Tryz.f148 from by kernel_rfl) (by kernel_rfl) (by kernel_rfl) fun x r h w K hG hk=>by
  obtain⟨h1,h⟩:=aN (show grd (ieq x.2 10) _=some r from h);obtain⟨h2,h⟩:=aN h;obtain⟨h3,h⟩:=aN h;injection h with h;subst h
  have e1:x.2=10:=by unfold ieq at h1; simpa using h1
  have h2:-9223372036854775808≤x.1:=of_decide_eq_true h2
  have h3:x.1≤9223372036854775807:=of_decide_eq_true h3
  obtain⟨cs,r2,r3,r4⟩:=hG.1 5 _ _ (show lkG E.gl 5=some ⟨.arr 20 (.int .u64),gl5⟩ from by kernel_rfl)
  have htab:Lib.TabIs E.P w "internal/strconv.uint64pow10" .u64 Lib.pow10Tab:=by
   have:=aDZ (P:=E.P) (name:= "internal/strconv.uint64pow10") hk r2 r3 r4 (by kernel_rfl)
   rwa [show(gl5:List Int)=Lib.pow10Tab by kernel_rfl] at this
  rw[e1];refine(Any.internal_strconv_FormatInt_10 aGO x.1 h2 h3 w htab).mono fun e w' he=>?_
  obtain⟨q1,k,os,q2⟩:=he;subst q2;exact⟨by rw[q1,A5 h2 h3]; rfl,rfl,rfl,rfl,Lib.size_grow w k os,fun b hb=>Lib.heap_grow_old w k os b hb⟩
def aGP:Ren:=⟨fun n=>match n with | 129=>250 | 171=>310 | 174=>256 | 205=>309 | 243=>316 | 245=>283 | 246=>148 | 247=>282 | 279=>295 | 280=>296 | 281=>297 | 282=>298 | 283=>208 | 284=>209 | 285=>210 | 286=>211 | 287=>294 | 316=>308 | 317=>249 | 318=>251 | 319=>252 | 320=>253 | 321=>306 | 322=>307 | 337=>279 | 338=>280|n=>n,fun n=>match n with | 37=>129 | 46=>265 | 51=>274 | 53=>146 | 75=>133 | 80=>137 | 85=>280 | 127=>204 | 143=>335 | 145=>337 | 167=>302 | 168=>305 | 171=>244 | 173=>247 | 175=>303 | 210=>329 | 212=>273 | 213=>275 | 232=>300 | 233=>301 | 22=>226 | 23=>255 | 24=>216 | 25=>217 | 27=>223 | 28=>196 | 31=>92 | 32=>219 | 33=>157 | 39=>218 | 40=>331 | 41=>249 | 42=>90 | 47=>277 | 48=>334 | 52=>291 | 54=>245 | 55=>224 | 63=>293 | 64=>266 | 65=>242 | 66=>203 | 69=>52 | 70=>128 | 71=>130 | 72=>131 | 73=>268 | 74=>132 | 76=>134 | 77=>135 | 78=>296 | 81=>136 | 83=>243 | 84=>142 | 86=>281 | 94=>403 | 103=>165 | 104=>59 | 105=>269 | 106=>270 | 108=>330 | 111=>276 | 114=>271 | 115=>285 | 116=>286 | 117=>287 | 118=>288 | 119=>261 | 122=>284 | 123=>289 | 124=>290 | 128=>292 | 131=>126 | 136=>260 | 137=>262 | 138=>263 | 139=>264 | 144=>336 | 146=>282 | 151=>283 | 164=>240 | 165=>241 | 166=>299 | 169=>306 | 170=>307 | 172=>246 | 174=>248 | 176=>304 | 209=>328 | 211=>272 | 214=>327 | 238=>378 | 239=>379 | 240=>380 | 241=>381 | 242=>382 | 243=>383 | 244=>384 | 245=>385 | 246=>386 | 247=>387 | 248=>388 | 249=>389|n=>n,fun n=>match n with | 15=>9 | 16=>10 | 17=>5 | 18=>7 | 19=>8 | 1=>6|n=>n⟩
theorem O7:LaysC.n174 Tryz.prog aGP:={ mixed:=by kernel_rfl,f129:=by kernel_rfl,f171:=by kernel_rfl,f174:=by kernel_rfl,f205:=by kernel_rfl,f243:=by kernel_rfl,f245:=by kernel_rfl,f246:=by kernel_rfl,f247:=by kernel_rfl,f279:=by kernel_rfl,f280:=by kernel_rfl,f281:=by kernel_rfl,f282:=by kernel_rfl,f283:=by kernel_rfl,f284:=by kernel_rfl,f285:=by kernel_rfl,f286:=by kernel_rfl,f287:=by kernel_rfl,f316:=by kernel_rfl,f317:=by kernel_rfl,f318:=by kernel_rfl,f319:=by kernel_rfl,f320:=by kernel_rfl,f321:=by kernel_rfl,f322:=by kernel_rfl,f337:=by kernel_rfl,f338:=by kernel_rfl,t0:=by kernel_rfl,a0:=fun _=>by kernel_rfl,z0:=fun _=>by kernel_rfl,v0:=fun _=>by kernel_rfl,t2:=by kernel_rfl,a2:=fun _=>by kernel_rfl,z2:=fun _=>by kernel_rfl,v2:=fun _=>by kernel_rfl,t3:=by kernel_rfl,a3:=fun _=>by kernel_rfl,z3:=fun _=>by kernel_rfl,v3:=fun _=>by kernel_rfl,t4:=by kernel_rfl,a4:=fun _=>by kernel_rfl,z4:=fun _=>by kernel_rfl,v4:=fun _=>by kernel_rfl,t5:=by kernel_rfl,a5:=fun _=>by kernel_rfl,z5:=fun _=>by kernel_rfl,v5:=fun _=>by kernel_rfl,t9:=by kernel_rfl,a9:=fun _=>by kernel_rfl,z9:=fun _=>by kernel_rfl,v9:=fun _=>by kernel_rfl,t20:=by kernel_rfl,a20:=fun _=>by kernel_rfl,z20:=fun _=>by kernel_rfl,v20:=fun _=>by kernel_rfl,t21:=by kernel_rfl,a21:=fun _=>by kernel_rfl,z21:=fun _=>by kernel_rfl,v21:=fun _=>by kernel_rfl,t37:=by kernel_rfl,a37:=fun _=>by kernel_rfl,z37:=fun _=>by kernel_rfl,v37:=fun _=>by kernel_rfl,t46:=by kernel_rfl,a46:=fun _=>by kernel_rfl,z46:=fun _=>by kernel_rfl,v46:=fun _=>by kernel_rfl,t51:=by kernel_rfl,a51:=fun _=>by kernel_rfl,z51:=fun _=>by kernel_rfl,v51:=fun _=>by kernel_rfl,t53:=by kernel_rfl,a53:=fun _=>by kernel_rfl,z53:=fun _=>by kernel_rfl,v53:=fun _=>by kernel_rfl,t75:=by kernel_rfl,a75:=fun _=>by kernel_rfl,z75:=fun _=>by kernel_rfl,v75:=fun _=>by kernel_rfl,t85:=by kernel_rfl,a85:=fun _=>by kernel_rfl,z85:=fun _=>by kernel_rfl,v85:=fun _=>by kernel_rfl,t127:=by kernel_rfl,a127:=fun _=>by kernel_rfl,z127:=fun _=>by kernel_rfl,v127:=fun _=>by kernel_rfl,t143:=by kernel_rfl,a143:=fun _=>by kernel_rfl,z143:=fun _=>by kernel_rfl,v143:=fun _=>by kernel_rfl,t145:=by kernel_rfl,a145:=fun _=>by kernel_rfl,z145:=fun _=>by kernel_rfl,v145:=fun _=>by kernel_rfl,t167:=by kernel_rfl,a167:=fun _=>by kernel_rfl,z167:=fun _=>by kernel_rfl,v167:=fun _=>by kernel_rfl,t168:=by kernel_rfl,a168:=fun _=>by kernel_rfl,z168:=fun _=>by kernel_rfl,v168:=fun _=>by kernel_rfl,t171:=by kernel_rfl,a171:=fun _=>by kernel_rfl,z171:=fun _=>by kernel_rfl,v171:=fun _=>by kernel_rfl,t173:=by kernel_rfl,a173:=fun _=>by kernel_rfl,z173:=fun _=>by kernel_rfl,v173:=fun _=>by kernel_rfl,t175:=by kernel_rfl,a175:=fun _=>by kernel_rfl,z175:=fun _=>by kernel_rfl,v175:=fun _=>by kernel_rfl,t210:=by kernel_rfl,a210:=fun _=>by kernel_rfl,z210:=fun _=>by kernel_rfl,v210:=fun _=>by kernel_rfl,t212:=by kernel_rfl,a212:=fun _=>by kernel_rfl,z212:=fun _=>by kernel_rfl,v212:=fun _=>by kernel_rfl,t213:=by kernel_rfl,a213:=fun _=>by kernel_rfl,z213:=fun _=>by kernel_rfl,t232:=by kernel_rfl,a232:=fun _=>by kernel_rfl,z232:=fun _=>by kernel_rfl,v232:=fun _=>by kernel_rfl,t233:=by kernel_rfl,a233:=fun _=>by kernel_rfl,z233:=fun _=>by kernel_rfl,v233:=fun _=>by kernel_rfl,g15:=by kernel_rfl,g16:=by kernel_rfl,g17:=by kernel_rfl,g18:=by kernel_rfl,g19:=by kernel_rfl,t80:=by kernel_rfl,a80:=fun _=>by kernel_rfl,z80:=fun _=>by kernel_rfl,v80:=fun _=>by kernel_rfl,i0:=by kernel_rfl,i2:=by kernel_rfl,i3:=by kernel_rfl,i4:=by kernel_rfl,i5:=by kernel_rfl,i9:=by kernel_rfl,i20:=by kernel_rfl,i21:=by kernel_rfl,i37:=by kernel_rfl,i46:=by kernel_rfl,i51:=by kernel_rfl,i53:=by kernel_rfl,i75:=by kernel_rfl,i80:=by kernel_rfl,i85:=by kernel_rfl,i127:=by kernel_rfl,i143:=by kernel_rfl,i145:=by kernel_rfl,i167:=by kernel_rfl,i168:=by kernel_rfl,i171:=by kernel_rfl,i173:=by kernel_rfl,i175:=by kernel_rfl,i210:=by kernel_rfl,i212:=by kernel_rfl,i232:=by kernel_rfl,i233:=by kernel_rfl,m15:=by kernel_rfl,m16:=by kernel_rfl,m17:=by kernel_rfl,m18:=by kernel_rfl,m19:=by kernel_rfl,c0:=by kernel_rfl,c2:=by kernel_rfl,c3:=by kernel_rfl,c4:=by kernel_rfl,c5:=by kernel_rfl,c9:=by kernel_rfl,c20:=by kernel_rfl,c21:=by kernel_rfl,c37:=by kernel_rfl,c46:=by kernel_rfl,c51:=by kernel_rfl,c53:=by kernel_rfl,c75:=by kernel_rfl,c80:=by kernel_rfl,c85:=by kernel_rfl,c127:=by kernel_rfl,c143:=by kernel_rfl,c145:=by kernel_rfl,c167:=by kernel_rfl,c168:=by kernel_rfl,c171:=by kernel_rfl,c173:=by kernel_rfl,c175:=by kernel_rfl,c210:=by kernel_rfl,c212:=by kernel_rfl,c213:=by kernel_rfl,c232:=by kernel_rfl,c233:=by kernel_rfl }
theorem SZ(N:Nat):aH E ⟨256,[.k (.v .str []),.k (.v (.int .i64) []),.k (.v (.int .i64) [])],[.v (.int .i64) [],.v .nif []],gT N⟩ :=
 aDY (fn:=Tryz.f256) _ (show E.P.funcs[256]?=some Tryz.f256 from by kernel_rfl) (by kernel_rfl) (by kernel_rfl) fun x r h w K hG hk=>by
  obtain⟨h1,h⟩:=aN (show grd (ieq x.2.1 10) _=some r from h);obtain⟨h2,h⟩:=aN h;obtain⟨h3,h⟩:=aN h;injection h with h;subst h
  have e1:x.2.1=10:=by unfold ieq at h1; simpa using h1
  have e2:x.2.2=64:=by unfold ieq at h2; simpa using h2
  have h3:x.1.length≤281474976710656:=of_decide_eq_true h3
  have hsz:(bst x.1).size≤281474976710656:=by rw[cL]; exact h3
  have hdl:(bst x.1).data.toList=x.1:=by simp[bst]
  have err:∀g,jT g E.ie=true→∃v,w.cell? ⟨g,0,none⟩=some v∧(v=.nilIface∨∃u y,v=.iface u y):=fun g hg=>by
   obtain⟨v,hv,hi⟩:=hG.2.2 g hg;obtain⟨cs,e,fz,q1,q2⟩:=hk _ _ _ hv;refine⟨v,?_,hi⟩;rw[iG q1];exact q2.1 (by rcases hi with rfl|⟨u,y,rfl⟩<;>rfl)
  rw[e1,e2];unfold vY;rcases hv:Lib.parseIntB 64 x.1 with v|_|_
  ·refine(Any.strconv_ParseInt_10_at64_ok O7 (bst x.1) (by omega) v (by rw[hdl]; exact hv) w).mono fun e w' he=>?_
   obtain⟨q1,q2⟩:=he;refine⟨.nilIface,q1,fun _=>rfl,fun h=>(by cases h),?_⟩;rcases q2 with rfl|⟨t,rfl⟩
   ·exact⟨rfl,rfl,rfl,aP6 _,fun _ _=>rfl⟩
   ·have:=Lib.bytesWorld_below w (aGP.t 5) t
    exact⟨this.os,this.tape,this.output,this.size,this.block⟩
  ·obtain⟨v,c1,c2⟩:=err 9 (by kernel_rfl);refine(Any.strconv_ParseInt_10_at64_syntax O7 (bst x.1) hsz (by rw[hdl]; exact hv) v w c1 c2).mono fun e w' he=>?_
   obtain⟨M,q1,_,_,q2⟩:=he;exact⟨_,q1,fun h=>(by cases h),fun _=>⟨_,_,rfl⟩,q2.os,q2.tape,q2.output,q2.size,q2.block⟩
  ·obtain⟨v,c1,c2⟩:=err 10 (by kernel_rfl);refine(Any.strconv_ParseInt_10_at64_range O7 (bst x.1) hsz (by rw[hdl]; exact hv) v w c1 c2).mono fun e w' he=>?_
   obtain⟨M,q1,_,_,q2⟩:=he;rw[hdl] at q1;exact⟨_,q1,fun h=>(by cases h),fun _=>⟨_,_,rfl⟩,q2.os,q2.tape,q2.output,q2.size,q2.block⟩
end Go.Mo
end

section
namespace Go.Mo
open Go Go.W Go.Proofs
set_option maxRecDepth 100000
theorem aGQ:aDH E.P 293:=aGD (show E.P.funcs[293]?=some Tryz.f293 from by kernel_rfl) (by kernel_rfl) (by kernel_rfl) (by kernel_rfl) (show Extern.find Tryz.f293=some (Extern.BytealgMakeNoZero.makeNoZero #[3] #[129]) from by kernel_rfl) (by kernel_rfl)
theorem aL:EnvOk E:=⟨chk,mixed,fun z h=>(by injection h with h; subst h; exact aGQ),fun z t h=>(by injection h with h; injection h with h1 h2; subst h1; subst h2; exact aGJ)⟩
theorem O8:EnvOk (E.wop ops):=⟨ZI,mixed,fun z h=>(by injection h with h; subst h; exact aGQ),fun z t h=>(by injection h with h; injection h with h1 h2; subst h1; subst h2; exact aGJ)⟩
theorem pN(N:Nat):aH E ⟨193,fE,fF,utf8_ValidString N⟩:=khV N
theorem iT(N:Nat):aH E ⟨146,cP,cQ,cF N⟩:=W.EB (show aDX E.P 146 131 from aMU) N
theorem pO(N:Nat):aH E ⟨201,fG,fH,strings_Contains N⟩:=SY N
theorem mW(N:Nat):aH E ⟨148,eC,eD,cG N⟩:=KG N
theorem qX(N:Nat):aH E ⟨207,fT,fU,strings_Replace N⟩:=C3 N
theorem pP(N:Nat):aH E ⟨256,fI,fJ,cH N⟩:=SZ N
end Go.Mo
end

section
namespace Go.Mo
open Go Go.W Go.Proofs
noncomputable section
set_option maxRecDepth 100000
def aGR:Ann:=(.sq .lf (.sq .lf (.jn ⟨[],[],[],[]⟩ (.sq .lf (.lp ⟨[1,9],[],[.s 5,.o 5],[.v (.int .i64) [],.i]⟩ .lf)) .lf)))
theorem aGS(N:Nat):aM E [] N Tryz.f243 aGR NN NO=q11 N:=by kernel_rfl
theorem aGT(N:Nat):aM E [⟨243,NN,NO,q11 N⟩] N Tryz.f194 .lf NP NQ=q12 N:=by kernel_rfl
def aGU:Ann:=(.sq .lf (.sq .lf (.jn ⟨[],[],[],[]⟩ (.sq .lf (.lp ⟨[9],[],[.o 7],[.i]⟩ .lf)) .lf)))
theorem aGV(N:Nat):aM E [⟨193,fE,fF,utf8_ValidString N⟩,⟨194,NP,NQ,q12 N⟩] N Tryz.f134 aGU nZ oA=q13 N:=by kernel_rfl
def aGW:Ann:=(.sq .lf (.sq .lf (.jn ⟨[],[],[],[]⟩ (.sq .lf (.lp ⟨[0,24],[],[.s 25],[.v (.int .i64) []]⟩ (.sq .lf (.sq .lf (.jn ⟨[0,24,25],[],[],[]⟩ .lf .lf))))) .lf)))
theorem aGX(N:Nat):aM E [] N Tryz.f135 aGW uP uQ=q14 N:=by kernel_rfl
theorem aGY(N:Nat):aM E [] N Tryz.f83 .lf yS yT=q15 N:=by kernel_rfl
theorem aGZ(N:Nat):aM E [⟨83,yS,yT,q15 N⟩] N Tryz.f195 .lf NR NS=q16 N:=by kernel_rfl
theorem aG0(N:Nat):aM E [⟨83,yS,yT,q15 N⟩] N Tryz.f196 .lf NT NU=q17 N:=by kernel_rfl
theorem aG1(N:Nat):aM E [⟨195,NR,NS,q16 N⟩,⟨196,NT,NU,q17 N⟩] N Tryz.f136 .lf NV NW=q18 N:=by kernel_rfl
def aG2:Ann:=(.sq .lf (.jn ⟨[1],[2],[],[]⟩ .lf .lf))
theorem aG3(N:Nat):aM E [⟨134,nZ,oA,q13 N⟩,⟨135,uP,uQ,q14 N⟩,⟨136,NV,NW,q18 N⟩] N Tryz.f74 aG2 NX NY=q19 N:=by kernel_rfl
theorem aG4(N:Nat):aM E [] N Tryz.f197 .lf NZ OA=q20 N:=by kernel_rfl
theorem aG5(N:Nat):aM E [⟨135,uP,uQ,q14 N⟩,⟨197,NZ,OA,q20 N⟩] N Tryz.f137 .lf ED EE=q21 N:=by kernel_rfl
def aG6:Ann:=(.sq .lf (.sq .lf (.jn ⟨[],[],[],[]⟩ (.sq .lf (.lp ⟨[0,9,10],[],[.s 11],[.v (.int .i64) []]⟩ (.sq .lf (.sq .lf (.sq (.sq .lf (.sq .lf (.jn ⟨[0,3,4,9,10,11],[14],[],[]⟩ .lf .lf))) .lf))))) .lf)))
theorem aG7(N:Nat):aM E [⟨137,ED,EE,q21 N⟩] N Tryz.f75 aG6 OB OC=q22 N:=by kernel_rfl
theorem aG8(N:Nat):aM E [] N Tryz.f198 .lf EF EG=q23 N:=by kernel_rfl
def aG9:Ann:=(.sq .lf (.sq .lf (.jn ⟨[4],[2],[],[]⟩ (.sq .lf (.lp ⟨[1,4,11,12],[2],[.s 13],[.v (.int .i64) []]⟩ .lf)) .lf)))
theorem aHA(N:Nat):aM E [⟨198,EF,EG,q23 N⟩] N Tryz.f138 aG9 OD OE=q24 N:=by kernel_rfl
theorem aHB(N:Nat):aM E [] N Tryz.f139 .lf OF OG=q25 N:=by kernel_rfl
theorem aHC(N:Nat):aM E [] N Tryz.f85 .lf EH EI=q26 N:=by kernel_rfl
theorem aHD(N:Nat):aM E [⟨85,EH,EI,q26 N⟩] N Tryz.f38 .lf EJ EK=q27 N:=by kernel_rfl
theorem aHE(N:Nat):aM E [] N Tryz.f244 .lf OH OI=q28 N:=by kernel_rfl
theorem aHF(N:Nat):aM E [] N Tryz.f245 .lf OJ OK=q29 N:=by kernel_rfl
def aHG:Ann:=(.sq .lf (.sq .lf (.jn ⟨[],[],[],[]⟩ (.sq .lf (.lp ⟨[1,10,11],[2],[.s 12],[.v (.int .i64) []]⟩ .lf)) .lf)))
theorem aHH(N:Nat):aM E [⟨134,nZ,oA,q13 N⟩,⟨244,OH,OI,q28 N⟩,⟨245,OJ,OK,q29 N⟩] N Tryz.f199 aHG OL OM=q30 N:=by kernel_rfl
theorem aHI(N:Nat):aM E [⟨146,cP,cQ,cF N⟩] N Tryz.f79 .lf EL EM=q31 N:=by kernel_rfl
def aHJ:Ann:=(.sq .lf (.sq .lf (.jn ⟨[3],[],[.o 5],[.b 131 Y7 [1]]⟩ (.sq .lf (.lp ⟨[3,7,8],[],[.s 9,.o 5],[.v (.int .i64) [],.b 131 Y7 [1]]⟩ .lf)) .lf)))
theorem aHK(N:Nat):aM E [⟨79,EL,EM,q31 N⟩] N Tryz.f200 aHJ ON OO=q32 N:=by kernel_rfl
def aHL:Ann:=(.sq .lf (.jn ⟨[],[],[.s 2],[.v (.int .i64) []]⟩ (.sq .lf (.lp ⟨[4],[],[.s 2,.o 4],[.v (.int .i64) [],.i]⟩ .lf)) .lf))
theorem aHM(N:Nat):aM E [] N Tryz.f226 aHL OP OQ=q33 N:=by kernel_rfl
theorem aHN(N:Nat):aM E [⟨134,nZ,oA,q13 N⟩,⟨226,OP,OQ,q33 N⟩] N Tryz.f246 .lf OR OS=q34 N:=by kernel_rfl
def aHO:Ann:=(.sq .lf (.sq .lf (.jn ⟨[],[],[.s 3],[.v (.int .i64) []]⟩ (.sq .lf (.lp ⟨[8,9],[],[.s 3,.s 10],[.v (.int .i64) [],.v (.int .i64) []]⟩ .lf)) .lf)))
theorem aHP(N:Nat):aM E [⟨246,OR,OS,q34 N⟩] N Tryz.f202 aHO EN EO=q35 N:=by kernel_rfl
theorem aHQ(N:Nat):aM E [⟨199,OL,OM,q30 N⟩,⟨200,ON,OO,q32 N⟩,⟨201,fG,fH,strings_Contains N⟩,⟨202,EN,EO,q35 N⟩] N Tryz.f140 .lf OT OU=q36 N:=by kernel_rfl
def aHR:Ann:=(.sq .lf (.sq .lf (.jn ⟨[],[],[.s 3],[.v (.slice (.int .i64)) [0]]⟩ (.sq .lf (.lp ⟨[7,8],[],[.s 3,.s 9],[.v (.slice (.int .i64)) [0],.v (.int .i64) []]⟩ .lf)) .lf)))
theorem aHS(N:Nat):aM E [⟨202,EN,EO,q35 N⟩] N Tryz.f142 aHR EP EQ=q37 N:=by kernel_rfl
theorem aHT(N:Nat):aM E [⟨198,EF,EG,q23 N⟩,⟨137,ED,EE,q21 N⟩] N Tryz.f203 .lf OV OW=q38 N:=by kernel_rfl
def aHU:Ann:=(.sq .lf (.sq .lf (.sq .lf (.jn ⟨[1,2],[2],[.s 6],[.v (.int .i64) []]⟩ .lf (.sq .lf (.jn ⟨[],[],[.s 7],[.v (.slice (.st (.pair (.int .i64) (.pair (.int .i64) (.int .i64))))) [0]]⟩ (.sq .lf (.lp ⟨[2,6,32,33],[2],[.s 7,.s 34],[.v (.slice (.st (.pair (.int .i64) (.pair (.int .i64) (.int .i64))))) [0],.v (.int .i64) []]⟩ .lf)) .lf))))))
theorem aHV(N:Nat):aM E [⟨203,OV,OW,q38 N⟩] N Tryz.f141 aHU OX OY=q39 N:=by kernel_rfl
def aHW:Ann:=(.sq .lf (.sq .lf (.sq (.sq .lf (.sq .lf (.sq .lf (.sq .lf (.sq .lf (.sq .lf (.jn ⟨[2,5],[12,2],[.s 42],[.v (.bool) []]⟩ .lf .lf))))))) (.jn ⟨[2,5],[12,2],[],[]⟩ (.sq .lf (.lp ⟨[2,5,64,65],[12,2],[.s 66],[.v (.int .i64) []]⟩ .lf)) .lf))))
theorem aHX(N:Nat):aM E [⟨138,OD,OE,q24 N⟩,⟨139,OF,OG,q25 N⟩,⟨38,EJ,EK,q27 N⟩,⟨135,uP,uQ,q14 N⟩,⟨140,OT,OU,q36 N⟩,⟨142,EP,EQ,q37 N⟩,⟨141,OX,OY,q39 N⟩] N Tryz.f76 aHW OZ PA=q40 N:=by kernel_rfl
theorem aHY(N:Nat):aM E [] N Tryz.f204 .lf PB PC=q41 N:=by kernel_rfl
theorem aHZ(N:Nat):aM E [⟨204,PB,PC,q41 N⟩] N Tryz.f144 .lf PD PE=q42 N:=by kernel_rfl
def aH0:Ann:=(.sq .lf (.sq .lf (.jn ⟨[3],[],[],[]⟩ (.sq .lf (.lp ⟨[3,6,7],[],[.s 8],[.v (.int .i64) []]⟩ .lf)) .lf)))
theorem aH1(N:Nat):aM E [] N Tryz.f143 aH0 PF PG=q43 N:=by kernel_rfl
theorem aH2(N:Nat):aM E [⟨144,PD,PE,q42 N⟩,⟨143,PF,PG,q43 N⟩] N Tryz.f77 .lf PH PI=q44 N:=by kernel_rfl
def aH3:Ann:=(.sq .lf (.sq .lf (.jn ⟨[],[],[.s 3],[.v (.int .i64) []]⟩ (.sq .lf (.lp ⟨[12,13],[12],[.s 3,.s 14],[.v (.int .i64) [],.v (.int .i64) []]⟩ .lf)) .lf)))
theorem aH4(N:Nat):aM E [⟨142,EP,EQ,q37 N⟩] N Tryz.f205 aH3 PJ PL=q45 N:=by kernel_rfl
theorem aH5(N:Nat):aM E [⟨205,PJ,PL,q45 N⟩] N Tryz.f145 .lf PM PN=q46 N:=by kernel_rfl
def aH6:Ann:=(.sq .lf (.sq .lf (.jn ⟨[],[],[.o 1],[.m (.int .i64) (.int .i64)]⟩ (.sq .lf (.lp ⟨[1,2,15,16],[3],[.s 17,.o 1],[.v (.int .i64) [],.m (.int .i64) (.int .i64)]⟩ (.sq .lf (.sq .lf (.sq (.sq .lf (.sq .lf (.jn ⟨[1,2,6,15,16,17],[1,19,3],[],[]⟩ .lf .lf))) .lf))))) .lf)))
theorem aH7(N:Nat):aM E [⟨145,PM,PN,q46 N⟩,⟨135,uP,uQ,q14 N⟩,⟨134,nZ,oA,q13 N⟩] N Tryz.f78 aH6 PO PP=q47 N:=by kernel_rfl
def aH8:Ann:=(.sq .lf (.sq .lf (.sq .lf (.sq .lf (.sq .lf (.jn ⟨[1,5],[2],[.o 20],[.m (.int .i64) (.int .i64)]⟩ (.sq .lf (.lp ⟨[1,5,28,29],[2],[.s 30,.o 20],[.v (.int .i64) [],.m (.int .i64) (.int .i64)]⟩ .lf)) .lf))))))
theorem aH9(N:Nat):aM E [⟨74,NX,NY,q19 N⟩,⟨75,OB,OC,q22 N⟩,⟨76,OZ,PA,q40 N⟩,⟨77,PH,PI,q44 N⟩,⟨78,PO,PP,q47 N⟩] N Tryz.f30 aH8 yU yV=q48 N:=by kernel_rfl
theorem aIA(N:Nat):aM E [⟨83,yS,yT,q15 N⟩] N Tryz.f34 .lf ER ES=q49 N:=by kernel_rfl
theorem aIB(N:Nat):aM E [] N Tryz.f35 .lf PQ PR=q50 N:=by kernel_rfl
theorem aIC(N:Nat):aM E [⟨148,eC,eD,cG N⟩] N Tryz.f84 .lf PS PT=q51 N:=by kernel_rfl
theorem aID(N:Nat):aM E [⟨84,PS,PT,q51 N⟩] N Tryz.f37 .lf ET EU=q52 N:=by kernel_rfl
theorem aIE(N:Nat):aM E [⟨37,ET,EU,q52 N⟩] N Tryz.f36 .lf PU PV=q53 N:=by kernel_rfl
def aIF:Ann:=(.sq .lf (.jn ⟨[0,8],[2,1],[.o 7],[.b 47 Y2 [2]]⟩ (.sq .lf (.lp ⟨[0,8,14,15],[2,1],[.s 16,.o 7],[.v (.int .i64) [],.b 47 Y2 [2]]⟩ .lf)) .lf))
theorem aIG(N:Nat):aM E [] N Tryz.f33 aIF PW PX=q54 N:=by kernel_rfl
def aIH:Ann:=(.sq .lf (.sq .lf (.sq .lf (.sq .lf (.jn ⟨[1,5],[2],[.o 11],[.b 77 (.slice Y2) [0]]⟩ (.sq .lf (.lp ⟨[1,5,40,41],[2],[.s 42,.o 11],[.v (.int .i64) [],.b 77 (.slice Y2) [0]]⟩ (.sq .lf (.sq .lf (.sq (.sq .lf (.sq .lf (.jn ⟨[1,5,7,40,41,42],[42,11,37,2],[.s 8],[.v (.str) []]⟩ .lf .lf))) .lf))))) (.jn ⟨[5],[],[.o 11],[.b 77 (.slice Y2) [0]]⟩ (.sq .lf (.lp ⟨[5,75,76],[],[.s 77,.o 11],[.v (.int .i64) [],.b 77 (.slice Y2) [0]]⟩ (.sq .lf (.sq .lf (.jn ⟨[5,75,76,77],[],[.o 11],[.b 77 (.slice Y2) [0]]⟩ (.sq .lf (.sq .lf (.sq .lf (.lp ⟨[5,75,76,77,109,110],[],[.s 111,.o 11],[.v (.int .i64) [],.b 77 (.slice Y2) [0]]⟩ (.sq .lf (.sq .lf (.jn ⟨[5,75,76,77,109,110,111],[],[.o 11],[.b 77 (.slice Y2) [0]]⟩ (.sq .lf (.sq .lf (.sq .lf (.lp ⟨[5,75,76,77,109,110,111,117,118],[],[.s 119,.o 11],[.v (.int .i64) [],.b 77 (.slice Y2) [0]]⟩ (.sq .lf (.sq .lf (.sq (.sq .lf (.sq .lf (.jn ⟨[5,14,75,76,77,109,110,111,117,118,119],[99,11,94],[.s 15],[.v (.str) []]⟩ .lf .lf))) .lf))))))) .lf))))))) .lf))))) .lf))))))
theorem aII(N:Nat):aM E [⟨30,yU,yV,q48 N⟩,⟨34,ER,ES,q49 N⟩,⟨35,PQ,PR,q50 N⟩,⟨36,PU,PV,q53 N⟩,⟨33,PW,PX,q54 N⟩,⟨37,ET,EU,q52 N⟩,⟨38,EJ,EK,q27 N⟩] N Tryz.f12 aIH EV EW=q55 N:=by kernel_rfl
def aIJ:Ann:=(.sq .lf (.sq .lf (.sq .lf (.sq .lf (.jn ⟨[5],[],[.s 6],[.v (.int .i64) []]⟩ .lf .lf)))))
theorem aIK(N:Nat):aM E [] N Tryz.f101 aIJ PY PZ=q56 N:=by kernel_rfl
theorem aIL(N:Nat):aM E [] N Tryz.f220 .lf EX EY=q57 N:=by kernel_rfl
theorem aIM(N:Nat):aM E [⟨220,EX,EY,q57 N⟩] N Tryz.f221 .lf QA QB=q58 N:=by kernel_rfl
def TT:Ann:=(.sq .lf (.sq .lf (.jn ⟨[],[],[],[]⟩ (.sq .lf (.lp ⟨[0,19],[],[.s 20],[.v (.int .i64) []]⟩ .lf)) .lf)))
theorem TV(N:Nat):aM E [⟨220,EX,EY,q57 N⟩,⟨221,QA,QB,q58 N⟩] N Tryz.f166 TT oB oC=iM N:=by kernel_rfl
def aIN:Ann:=(.sq .lf (.sq .lf (.sq .lf (.jn ⟨[],[],[],[]⟩ (.sq .lf (.lp ⟨[3,22,23],[],[.s 24,.o 19],[.v (.int .i64) [],.m (.str) (.bool)]⟩ .lf)) .lf))))
theorem aIO(N:Nat):aM E [⟨166,oB,oC,iM N⟩,⟨134,nZ,oA,q13 N⟩] N Tryz.f102 aIN QC QD=q59 N:=by kernel_rfl
def aIP:Ann:=(.sq .lf (.sq .lf (.sq (.jn ⟨[5],[7],[.s 10],[.v (.bool) []]⟩ .lf .lf) .lf)))
theorem aIQ(N:Nat):aM E [⟨134,nZ,oA,q13 N⟩] N Tryz.f103 aIP QE QF=q60 N:=by kernel_rfl
def aIR:Ann:=(.sq .lf (.sq .lf (.sq .lf (.jn ⟨[],[],[],[]⟩ (.sq .lf (.lp ⟨[0,13,14],[],[.s 15],[.v (.int .i64) []]⟩ .lf)) .lf))))
theorem aIS(N:Nat):aM E [⟨101,PY,PZ,q56 N⟩,⟨102,QC,QD,q59 N⟩,⟨103,QE,QF,q60 N⟩] N Tryz.f60 aIR EZ FA=q61 N:=by kernel_rfl
theorem aIT(N:Nat):aM E [⟨207,fT,fU,strings_Replace N⟩] N Tryz.f147 .lf QG QH=q62 N:=by kernel_rfl
def aIU:Ann:=(.sq .lf (.jn ⟨[],[],[.s 0],[.v (.str) []]⟩ (.sq .lf (.lp ⟨[5],[],[.s 0,.s 6],[.v (.str) [],.v (.int .i64) []]⟩ .lf)) .lf))
theorem aIV(N:Nat):aM E [⟨147,QG,QH,q62 N⟩] N Tryz.f80 aIU QI QJ=q63 N:=by kernel_rfl
theorem aIW(N:Nat):aM E [] N Tryz.f81 .lf QK QL=q64 N:=by kernel_rfl
def aIX:Ann:=(.sq .lf (.sq .lf (.sq .lf (.sq .lf (.jn ⟨[5],[],[.s 6,.o 9],[.v (.slice (.str)) [0],.b 131 Y7 [1]]⟩ (.sq .lf (.lp ⟨[0,5,17,18],[],[.s 6,.s 19,.o 9],[.v (.slice (.str)) [0],.v (.int .i64) [],.b 131 Y7 [1]]⟩ (.sq .lf (.sq .lf (.jn ⟨[0,5,17,18,19],[],[.s 6,.o 9],[.v (.slice (.str)) [0],.b 131 Y7 [1]]⟩ (.sq .lf (.jn ⟨[0,5,7,8,17,18,19],[22],[.s 6,.o 9],[.v (.slice (.str)) [0],.b 131 Y7 [1]]⟩ (.lp ⟨[0,5,7,8,17,18,19],[22],[.s 6,.o 9],[.v (.slice (.str)) [0],.b 131 Y7 [1]]⟩ .lf) (.sq .lf (.sq .lf (.jn ⟨[0,5,6,7,8,17,18,19],[22,26],[.o 9],[.b 131 Y7 [1]]⟩ (.sq .lf (.lp ⟨[0,5,6,7,8,17,18,19,55,56],[22,26],[.s 57,.o 9],[.v (.int .i64) [],.b 131 Y7 [1]]⟩ .lf)) .lf))))) .lf))))) (.jn ⟨[5],[],[.o 9],[.b 131 Y7 [1]]⟩ (.sq .lf (.lp ⟨[5,6],[12],[.s 11,.o 9],[.v (.int .i64) [],.b 131 Y7 [1]]⟩ .lf)) .lf))))))
theorem aIY(N:Nat):aM E [⟨60,EZ,FA,q61 N⟩,⟨79,EL,EM,q31 N⟩,⟨80,QI,QJ,q63 N⟩,⟨81,QK,QL,q64 N⟩] N Tryz.f31 aIX QM QN=q65 N:=by kernel_rfl
theorem aIZ(N:Nat):aM E [⟨12,EV,EW,q55 N⟩,⟨31,QM,QN,q65 N⟩] N Tryz.f14 .lf QO QP=q66 N:=by kernel_rfl
theorem KH(N:Nat):aM E [⟨14,QO,QP,q66 N⟩] N Tryz.f10 .lf mK mL=lR N:=by kernel_rfl
theorem C4(N:Nat):aM E [] N Tryz.f11 .lf qR qS=jF N:=by kernel_rfl
theorem aI0(N:Nat):aM E [] N Tryz.f24 .lf QQ QR=q67 N:=by kernel_rfl
theorem aI1(N:Nat):aM E [] N Tryz.f71 .lf QS QT=q68 N:=by kernel_rfl
def aI2:Ann:=(.sq .lf (.sq .lf (.jn ⟨[0],[],[.s 3],[.v (.int .i64) []]⟩ (.sq .lf (.lp ⟨[0,9,10],[],[.s 3,.s 11],[.v (.int .i64) [],.v (.int .i64) []]⟩ .lf)) (.sq .lf (.jn ⟨[],[],[.s 6],[.v (.slice (.st (.pair (.str) (.str)))) [0]]⟩ (.sq .lf (.lp ⟨[25,26],[],[.s 6,.s 27],[.v (.slice (.st (.pair (.str) (.str)))) [0],.v (.int .i64) []]⟩ .lf)) .lf)))))
theorem aI3(N:Nat):aM E [⟨71,QS,QT,q68 N⟩] N Tryz.f25 aI2 QU QV=q69 N:=by kernel_rfl
theorem aI4(N:Nat):aM E [] N Tryz.f61 .lf QW QX=q70 N:=by kernel_rfl
theorem aI5(N:Nat):aM E [] N Tryz.f104 .lf QY QZ=q71 N:=by kernel_rfl
def aI6:Ann:=(.sq .lf (.jn ⟨[],[],[],[]⟩ (.sq .lf (.lp ⟨[1,7,8],[],[.s 9],[.v (.int .i64) []]⟩ .lf)) .lf))
theorem aI7(N:Nat):aM E [] N Tryz.f105 aI6 RA RB=q72 N:=by kernel_rfl
def aI8:Ann:=(.sq .lf (.sq .lf (.sq .lf (.jn ⟨[],[],[.s 3,.s 5],[.v (.slice (.str)) [],.v (.int .i64) []]⟩ (.sq .lf (.lp ⟨[15,16],[],[.s 3,.s 4,.s 5,.s 17],[.v (.slice (.str)) [],.v (.slice (.str)) [],.v (.int .i64) [],.v (.int .i64) []]⟩ .lf)) .lf))))
theorem aI9(N:Nat):aM E [⟨104,QY,QZ,q71 N⟩,⟨105,RA,RB,q72 N⟩] N Tryz.f62 aI8 RC RD=q73 N:=by kernel_rfl
def aJA:Ann:=(.sq .lf (.jn ⟨[],[1],[],[]⟩ (.sq .lf (.lp ⟨[1,11,12],[1],[.s 13],[.v (.int .i64) []]⟩ .lf)) .lf))
theorem aJB(N:Nat):aM E [] N Tryz.f106 aJA qT qU=q74 N:=by kernel_rfl
theorem aJC(N:Nat):aM E [] N Tryz.f167 .lf RE RF=q75 N:=by kernel_rfl
def aJD:Ann:=(.sq .lf (.jn ⟨[],[],[],[]⟩ (.sq .lf (.lp ⟨[0,6,7],[],[.s 8],[.v (.int .i64) []]⟩ .lf)) .lf))
theorem aJE(N:Nat):aM E [⟨167,RE,RF,q75 N⟩,⟨34,ER,ES,q49 N⟩] N Tryz.f107 aJD RG RH=q76 N:=by kernel_rfl
theorem aJF(N:Nat):aM E [] N Tryz.f108 .lf qV qW=q77 N:=by kernel_rfl
def aJG:Ann:=(.sq .lf (.jn ⟨[0,1],[],[.o 1],[.b 160 (.st (.pair Y2 (.int .i64))) []]⟩ (.sq .lf (.lp ⟨[0,1,11,12],[],[.s 13,.o 1],[.v (.int .i64) [],.b 160 (.st (.pair Y2 (.int .i64))) []]⟩ .lf)) .lf))
theorem aJH(N:Nat):aM E [⟨108,qV,qW,q77 N⟩,⟨106,qT,qU,q74 N⟩] N Tryz.f109 aJG RI RJ=q78 N:=by kernel_rfl
theorem aJI(N:Nat):aM E [] N Tryz.f231 .lf RK RL=q79 N:=by kernel_rfl
theorem aJJ(N:Nat):aM E [⟨231,RK,RL,q79 N⟩] N Tryz.f281 .lf RM RN=q80 N:=by kernel_rfl
theorem aJK(N:Nat):aM E [⟨281,RM,RN,q80 N⟩] N Tryz.f255 .lf RO RP=q81 N:=by kernel_rfl
def aJL:Ann:=(.sq .lf (.sq .lf (.jn ⟨[0,1,2,8],[],[],[]⟩ .lf (.jn ⟨[0,1,2],[],[],[]⟩ (.sq .lf (.lp ⟨[0,1,2,8,34],[],[.s 35],[.v (.int .i64) []]⟩ .lf)) .lf))))
theorem aJM(N:Nat):aM E [⟨255,RO,RP,q81 N⟩,⟨256,fI,fJ,cH N⟩] N Tryz.f222 aJL RQ RR=q82 N:=by kernel_rfl
theorem aJN(N:Nat):aM E [⟨222,RQ,RR,q82 N⟩,⟨108,qV,qW,q77 N⟩] N Tryz.f168 .lf FB FC=q83 N:=by kernel_rfl
theorem aJO(N:Nat):aM E [⟨106,qT,qU,q74 N⟩,⟨168,FB,FC,q83 N⟩] N Tryz.f110 .lf FD FE=q84 N:=by kernel_rfl
theorem aJP(N:Nat):aM E [⟨110,FD,FE,q84 N⟩] N Tryz.f111 .lf RS RT=q85 N:=by kernel_rfl
def aJQ:Ann:=(.sq .lf (.sq .lf (.jn ⟨[0],[1],[],[]⟩ (.sq .lf (.lp ⟨[0,7,13,14],[1],[.s 15],[.v (.int .i64) []]⟩ .lf)) .lf)))
theorem aJR(N:Nat):aM E [⟨106,qT,qU,q74 N⟩,⟨108,qV,qW,q77 N⟩] N Tryz.f112 aJQ FF FG=q86 N:=by kernel_rfl
theorem aJS(N:Nat):aM E [] N Tryz.f257 .lf RU RV=q87 N:=by kernel_rfl
theorem aJT(N:Nat):aM E [⟨257,RU,RV,q87 N⟩] N Tryz.f223 .lf RW RX=q88 N:=by kernel_rfl
theorem aJU(N:Nat):aM E [⟨223,RW,RX,q88 N⟩] N Tryz.f169 .lf RY RZ=q89 N:=by kernel_rfl
theorem aJV(N:Nat):aM E [⟨106,qT,qU,q74 N⟩,⟨169,RY,RZ,q89 N⟩,⟨108,qV,qW,q77 N⟩,⟨168,FB,FC,q83 N⟩] N Tryz.f113 .lf SA SB=q90 N:=by kernel_rfl
def aJW:Ann:=(.sq .lf (.jn ⟨[],[],[],[]⟩ (.sq .lf (.lp ⟨[0,6,7],[4],[.s 8],[.v (.int .i64) []]⟩ .lf)) .lf))
theorem aJX(N:Nat):aM E [⟨85,EH,EI,q26 N⟩] N Tryz.f114 aJW SC SD=q91 N:=by kernel_rfl
def aJY:Ann:=(.sq .lf (.jn ⟨[],[1],[],[]⟩ (.sq .lf (.lp ⟨[0,9,10],[1],[.s 11],[.v (.int .i64) []]⟩ .lf)) .lf))
theorem aJZ(N:Nat):aM E [⟨112,FF,FG,q86 N⟩] N Tryz.f115 aJY SE SG=q92 N:=by kernel_rfl
def TW:Ann:=(.sq .lf (.sq .lf (.sq .lf (.jn ⟨[5],[],[.o 6,.o 13],[.d 27 Y1,.b 160 (.st (.pair Y2 (.int .i64))) []]⟩ (.sq .lf (.sq .lf (.sq .lf (.sq .lf (.sq .lf (.sq .lf (.sq (.sq .lf (.sq .lf (.sq .lf (.sq .lf (.sq .lf (.jn ⟨[0,5,10,11],[6,1,2,5,3,4,34],[.o 13],[.b 160 (.st (.pair Y2 (.int .i64))) []]⟩ .lf (.sq .lf (.cl [3,2])))))))) (.sq .lf (.sq (.cl [3]) .lf))))))))) .lf))))
theorem TX(N:Nat):aM (E.wop ops) [⟨106,qT,qU,q74 N⟩,⟨107,RG,RH,q76 N⟩,⟨108,qV,qW,q77 N⟩,⟨109,RI,RJ,q78 N⟩,⟨110,FD,FE,q84 N⟩,⟨111,RS,RT,q85 N⟩,⟨112,FF,FG,q86 N⟩,⟨113,SA,SB,q90 N⟩,⟨114,SC,SD,q91 N⟩,⟨115,SE,SG,q92 N⟩] N Tryz.f63 TW oD oE=kH N:=by kernel_rfl
def aJ0:Ann:=(.sq .lf (.sq .lf (.sq .lf (.sq .lf (.jn ⟨[2,6],[2],[.o 11],[.d 27 Y1]⟩ (.sq .lf (.lp ⟨[2,6,19,20],[2],[.s 7,.s 21,.o 11],[.v (.slice (.str)) [0],.v (.int .i64) [],.d 27 Y1]⟩ (.sq .lf (.sq .lf (.sq (.sq .lf (.sq .lf (.sq .lf (.jn ⟨[2,6,7,8,9,19,20,21],[28,17,11,18,19,22,20,21,2],[.s 10],[.v (.str) []]⟩ .lf .lf)))) .lf))))) (.sq (.sq (.cl [16,15]) .lf) .lf))))))
theorem aJ1(N:Nat):aM (E.wop ops) [⟨60,EZ,FA,q61 N⟩,⟨61,QW,QX,q70 N⟩,⟨62,RC,RD,q73 N⟩,⟨63,oD,oE,kH N⟩,⟨30,yU,yV,q48 N⟩] N Tryz.f22 aJ0 SH SI=q93 N:=by kernel_rfl
theorem aJ2(N:Nat):aM E [] N Tryz.f96 .lf SJ SK=q94 N:=by kernel_rfl
theorem aJ3(N:Nat):aM E [] N Tryz.f97 .lf SL SM=q95 N:=by kernel_rfl
theorem aJ4(N:Nat):aM E [] N Tryz.f98 .lf SN SO=q96 N:=by kernel_rfl
theorem aJ5(N:Nat):aM E [] N Tryz.f218 .lf SP SQ=q97 N:=by kernel_rfl
theorem aJ6(N:Nat):aM E [] N Tryz.f219 .lf SR SS=q98 N:=by kernel_rfl
def aJ7:Ann:=(.sq .lf (.sq .lf (.jn ⟨[3],[],[.o 4],[.r 4 (.st (.slice Y4))]⟩ (.sq .lf (.lp ⟨[3,8],[],[.s 9,.o 4],[.v (.int .i64) [],.r 4 (.st (.slice Y4))]⟩ .lf)) .lf)))
theorem aJ8(N:Nat):aM E [⟨218,SP,SQ,q97 N⟩,⟨219,SR,SS,q98 N⟩] N Tryz.f164 aJ7 ST SU=q99 N:=by kernel_rfl
theorem aEE(N:Nat):aM E [⟨164,ST,SU,q99 N⟩] N Tryz.f99 .lf FH FI=B4 N:=by kernel_rfl
def aEF:Ann:=(.sq .lf (.sq .lf (.sq .lf (.jn ⟨[1,2],[4,2,8,12],[.o 20],[.r 20 (.st Y3)]⟩ (.sq .lf (.lp ⟨[1,2,18,19],[4,2,8,12],[.s 20,.o 20],[.v (.int .i64) [],.r 20 (.st Y3)]⟩ .lf)) .lf))))
theorem aEG(N:Nat):aM E [⟨96,SJ,SK,q94 N⟩,⟨97,SL,SM,q95 N⟩,⟨98,SN,SO,q96 N⟩,⟨99,FH,FI,B4 N⟩] N Tryz.f58 aEF FJ FK=B5 N:=by kernel_rfl
theorem aEH(N:Nat):aM E [⟨30,yU,yV,q48 N⟩,⟨58,FJ,FK,B5 N⟩] N Tryz.f19 .lf FL FM=SW N:=by kernel_rfl
theorem aEI(N:Nat):aM E [] N Tryz.f53 .lf FN FO=B6 N:=by kernel_rfl
def aEJ:Ann:=(.sq .lf (.sq .lf (.jn ⟨[],[],[],[]⟩ (.sq .lf (.lp ⟨[0,1,12],[],[.s 13],[.v (.int .i64) []]⟩ .lf)) .lf)))
theorem aEK(N:Nat):aM E [] N Tryz.f54 aEJ FP FQ=B7 N:=by kernel_rfl
def aEL:Ann:=(.sq .lf (.sq .lf (.jn ⟨[],[],[],[]⟩ (.sq .lf (.lp ⟨[0,1,12],[],[.s 13],[.v (.int .i64) []]⟩ .lf)) .lf)))
theorem aEM(N:Nat):aM E [] N Tryz.f217 aEL FR aaFS=B8 N:=by kernel_rfl
theorem aEN(N:Nat):aM E [⟨217,FR,aaFS,B8 N⟩] N Tryz.f163 .lf wL wM=KC N:=by kernel_rfl
def aEO:Ann:=(.sq .lf (.sq .lf (.jn ⟨[],[],[],[]⟩ (.sq .lf (.lp ⟨[1,2,15,16],[],[.s 17],[.v (.int .i64) []]⟩ .lf)) .lf)))
theorem aEP(N:Nat):aM E [⟨163,wL,wM,KC N⟩] N Tryz.f162 aEO FT FU=O4 N:=by kernel_rfl
theorem aEQ(N:Nat):aM E [⟨162,FT,FU,O4 N⟩,⟨163,wL,wM,KC N⟩] N Tryz.f95 .lf FV FW=B9 N:=by kernel_rfl
theorem aER(N:Nat):aM E [⟨95,FV,FW,B9 N⟩] N Tryz.f56 .lf wN wO=SX N:=by kernel_rfl
def aES:Ann:=(.sq .lf (.sq .lf (.jn ⟨[],[],[],[]⟩ (.sq .lf (.lp ⟨[1,2,15,16],[],[.s 17],[.v (.int .i64) []]⟩ .lf)) .lf)))
theorem aET(N:Nat):aM E [⟨56,wN,wO,SX N⟩] N Tryz.f55 aES FX FY=C0 N:=by kernel_rfl
def aEU:Ann:=(.sq .lf (.sq .lf (.jn ⟨[],[],[],[]⟩ (.sq .lf (.lp ⟨[0,1,12],[],[.s 13],[.v (.int .i64) []]⟩ .lf)) .lf)))
theorem aEV(N:Nat):aM E [] N Tryz.f57 aEU FZ GA=O5 N:=by kernel_rfl
theorem aEW(N:Nat):aM E [⟨53,FN,FO,B6 N⟩,⟨54,FP,FQ,B7 N⟩,⟨55,FX,FY,C0 N⟩,⟨56,wN,wO,SX N⟩,⟨57,FZ,GA,O5 N⟩] N Tryz.f18 .lf GB GC=KD N:=by kernel_rfl
def qY:Ann:=(.sq .lf (.sq .lf (.sq .lf (.sq .lf (.sq .lf (.sq .lf (.jn ⟨[2,7],[2],[.o 21],[.r 21 Y2]⟩ (.sq .lf (.lp ⟨[1,2,7,31,32],[11,2],[.s 33,.o 21],[.v (.int .i64) [],.r 21 Y2]⟩ .lf)) .lf)))))))
theorem qZ(N:Nat):aM E [⟨10,mK,mL,lR N⟩,⟨11,qR,qS,jF N⟩,⟨12,EV,EW,q55 N⟩,⟨24,QQ,QR,q67 N⟩,⟨25,QU,QV,q69 N⟩,⟨22,SH,SI,q93 N⟩,⟨19,FL,FM,SW N⟩,⟨18,GB,GC,KD N⟩] N Tryz.f5 qY iY iZ=bY N:=by kernel_rfl
theorem rA(N:Nat):aH E ⟨193,fE,fF,utf8_ValidString N⟩:=pN N
theorem aJ9(N:Nat):aH E ⟨243,NN,NO,q11 N⟩:=aP aL (aGS N) trivial Tryz.func243 (by kernel_rfl)
theorem aKA(N:Nat):aH E ⟨194,NP,NQ,q12 N⟩:=aP aL (aGT N) ⟨aJ9 N,trivial⟩ Tryz.func194 (by kernel_rfl)
theorem BV(N:Nat):aH E ⟨134,nZ,oA,q13 N⟩:=aP aL (aGV N) ⟨rA N,aKA N,trivial⟩ Tryz.func134 (by kernel_rfl)
theorem WT(N:Nat):aH E ⟨135,uP,uQ,q14 N⟩:=aP aL (aGX N) trivial Tryz.func135 (by kernel_rfl)
theorem O9(N:Nat):aH E ⟨83,yS,yT,q15 N⟩:=aP aL (aGY N) trivial Tryz.func83 (by kernel_rfl)
theorem aKB(N:Nat):aH E ⟨195,NR,NS,q16 N⟩:=aP aL (aGZ N) ⟨O9 N,trivial⟩ Tryz.func195 (by kernel_rfl)
theorem aKC(N:Nat):aH E ⟨196,NT,NU,q17 N⟩:=aP aL (aG0 N) ⟨O9 N,trivial⟩ Tryz.func196 (by kernel_rfl)
theorem aKD(N:Nat):aH E ⟨136,NV,NW,q18 N⟩:=aP aL (aG1 N) ⟨aKB N,aKC N,trivial⟩ Tryz.func136 (by kernel_rfl)
theorem aKE(N:Nat):aH E ⟨74,NX,NY,q19 N⟩:=aP aL (aG3 N) ⟨BV N,WT N,aKD N,trivial⟩ Tryz.func74 (by kernel_rfl)
theorem aKF(N:Nat):aH E ⟨197,NZ,OA,q20 N⟩:=aP aL (aG4 N) trivial Tryz.func197 (by kernel_rfl)
theorem aCK(N:Nat):aH E ⟨137,ED,EE,q21 N⟩:=aP aL (aG5 N) ⟨WT N,aKF N,trivial⟩ Tryz.func137 (by kernel_rfl)
theorem aKG(N:Nat):aH E ⟨75,OB,OC,q22 N⟩:=aP aL (aG7 N) ⟨aCK N,trivial⟩ Tryz.func75 (by kernel_rfl)
theorem aCL(N:Nat):aH E ⟨198,EF,EG,q23 N⟩:=aP aL (aG8 N) trivial Tryz.func198 (by kernel_rfl)
theorem aKH(N:Nat):aH E ⟨138,OD,OE,q24 N⟩:=aP aL (aHA N) ⟨aCL N,trivial⟩ Tryz.func138 (by kernel_rfl)
theorem aKI(N:Nat):aH E ⟨139,OF,OG,q25 N⟩:=aP aL (aHB N) trivial Tryz.func139 (by kernel_rfl)
theorem aCM(N:Nat):aH E ⟨85,EH,EI,q26 N⟩:=aP aL (aHC N) trivial Tryz.func85 (by kernel_rfl)
theorem aCN(N:Nat):aH E ⟨38,EJ,EK,q27 N⟩:=aP aL (aHD N) ⟨aCM N,trivial⟩ Tryz.func38 (by kernel_rfl)
theorem aKJ(N:Nat):aH E ⟨244,OH,OI,q28 N⟩:=aP aL (aHE N) trivial Tryz.func244 (by kernel_rfl)
theorem aKK(N:Nat):aH E ⟨245,OJ,OK,q29 N⟩:=aP aL (aHF N) trivial Tryz.func245 (by kernel_rfl)
theorem aKL(N:Nat):aH E ⟨199,OL,OM,q30 N⟩:=aP aL (aHH N) ⟨BV N,aKJ N,aKK N,trivial⟩ Tryz.func199 (by kernel_rfl)
theorem jG(N:Nat):aH E ⟨146,cP,cQ,cF N⟩:=iT N
theorem aCO(N:Nat):aH E ⟨79,EL,EM,q31 N⟩:=aP aL (aHI N) ⟨jG N,trivial⟩ Tryz.func79 (by kernel_rfl)
theorem aKM(N:Nat):aH E ⟨200,ON,OO,q32 N⟩:=aP aL (aHK N) ⟨aCO N,trivial⟩ Tryz.func200 (by kernel_rfl)
theorem rB(N:Nat):aH E ⟨201,fG,fH,strings_Contains N⟩:=pO N
theorem aKN(N:Nat):aH E ⟨226,OP,OQ,q33 N⟩:=aP aL (aHM N) trivial Tryz.func226 (by kernel_rfl)
theorem aKO(N:Nat):aH E ⟨246,OR,OS,q34 N⟩:=aP aL (aHN N) ⟨BV N,aKN N,trivial⟩ Tryz.func246 (by kernel_rfl)
theorem aCP(N:Nat):aH E ⟨202,EN,EO,q35 N⟩:=aP aL (aHP N) ⟨aKO N,trivial⟩ Tryz.func202 (by kernel_rfl)
theorem aKP(N:Nat):aH E ⟨140,OT,OU,q36 N⟩:=aP aL (aHQ N) ⟨aKL N,aKM N,rB N,aCP N,trivial⟩ Tryz.func140 (by kernel_rfl)
theorem aCQ(N:Nat):aH E ⟨142,EP,EQ,q37 N⟩:=aP aL (aHS N) ⟨aCP N,trivial⟩ Tryz.func142 (by kernel_rfl)
theorem aKQ(N:Nat):aH E ⟨203,OV,OW,q38 N⟩:=aP aL (aHT N) ⟨aCL N,aCK N,trivial⟩ Tryz.func203 (by kernel_rfl)
theorem aKR(N:Nat):aH E ⟨141,OX,OY,q39 N⟩:=aP aL (aHV N) ⟨aKQ N,trivial⟩ Tryz.func141 (by kernel_rfl)
theorem aKS(N:Nat):aH E ⟨76,OZ,PA,q40 N⟩:=aP aL (aHX N) ⟨aKH N,aKI N,aCN N,WT N,aKP N,aCQ N,aKR N,trivial⟩ Tryz.func76 (by kernel_rfl)
theorem aKT(N:Nat):aH E ⟨204,PB,PC,q41 N⟩:=aP aL (aHY N) trivial Tryz.func204 (by kernel_rfl)
theorem aKU(N:Nat):aH E ⟨144,PD,PE,q42 N⟩:=aP aL (aHZ N) ⟨aKT N,trivial⟩ Tryz.func144 (by kernel_rfl)
theorem aKV(N:Nat):aH E ⟨143,PF,PG,q43 N⟩:=aP aL (aH1 N) trivial Tryz.func143 (by kernel_rfl)
theorem aKW(N:Nat):aH E ⟨77,PH,PI,q44 N⟩:=aP aL (aH2 N) ⟨aKU N,aKV N,trivial⟩ Tryz.func77 (by kernel_rfl)
theorem aKX(N:Nat):aH E ⟨205,PJ,PL,q45 N⟩:=aP aL (aH4 N) ⟨aCQ N,trivial⟩ Tryz.func205 (by kernel_rfl)
theorem aKY(N:Nat):aH E ⟨145,PM,PN,q46 N⟩:=aP aL (aH5 N) ⟨aKX N,trivial⟩ Tryz.func145 (by kernel_rfl)
theorem aKZ(N:Nat):aH E ⟨78,PO,PP,q47 N⟩:=aP aL (aH7 N) ⟨aKY N,WT N,BV N,trivial⟩ Tryz.func78 (by kernel_rfl)
theorem P0(N:Nat):aH E ⟨30,yU,yV,q48 N⟩:=aP aL (aH9 N) ⟨aKE N,aKG N,aKS N,aKW N,aKZ N,trivial⟩ Tryz.func30 (by kernel_rfl)
theorem aCR(N:Nat):aH E ⟨34,ER,ES,q49 N⟩:=aP aL (aIA N) ⟨O9 N,trivial⟩ Tryz.func34 (by kernel_rfl)
theorem aK0(N:Nat):aH E ⟨35,PQ,PR,q50 N⟩:=aP aL (aIB N) trivial Tryz.func35 (by kernel_rfl)
theorem oF(N:Nat):aH E ⟨148,eC,eD,cG N⟩:=mW N
theorem aK1(N:Nat):aH E ⟨84,PS,PT,q51 N⟩:=aP aL (aIC N) ⟨oF N,trivial⟩ Tryz.func84 (by kernel_rfl)
theorem aCS(N:Nat):aH E ⟨37,ET,EU,q52 N⟩:=aP aL (aID N) ⟨aK1 N,trivial⟩ Tryz.func37 (by kernel_rfl)
theorem aK2(N:Nat):aH E ⟨36,PU,PV,q53 N⟩:=aP aL (aIE N) ⟨aCS N,trivial⟩ Tryz.func36 (by kernel_rfl)
theorem aK3(N:Nat):aH E ⟨33,PW,PX,q54 N⟩:=aP aL (aIG N) trivial Tryz.func33 (by kernel_rfl)
theorem aCT(N:Nat):aH E ⟨12,EV,EW,q55 N⟩:=aP aL (aII N) ⟨P0 N,aCR N,aK0 N,aK2 N,aK3 N,aCS N,aCN N,trivial⟩ Tryz.func12 (by kernel_rfl)
theorem aK4(N:Nat):aH E ⟨101,PY,PZ,q56 N⟩:=aP aL (aIK N) trivial Tryz.func101 (by kernel_rfl)
theorem aCU(N:Nat):aH E ⟨220,EX,EY,q57 N⟩:=aP aL (aIL N) trivial Tryz.func220 (by kernel_rfl)
theorem aK5(N:Nat):aH E ⟨221,QA,QB,q58 N⟩:=aP aL (aIM N) ⟨aCU N,trivial⟩ Tryz.func221 (by kernel_rfl)
theorem TY(N:Nat):aH E ⟨166,oB,oC,iM N⟩:=aP aL (TV N) ⟨aCU N,aK5 N,trivial⟩ Tryz.func166 (by kernel_rfl)
theorem aK6(N:Nat):aH E ⟨102,QC,QD,q59 N⟩:=aP aL (aIO N) ⟨TY N,BV N,trivial⟩ Tryz.func102 (by kernel_rfl)
theorem aK7(N:Nat):aH E ⟨103,QE,QF,q60 N⟩:=aP aL (aIQ N) ⟨BV N,trivial⟩ Tryz.func103 (by kernel_rfl)
theorem aCV(N:Nat):aH E ⟨60,EZ,FA,q61 N⟩:=aP aL (aIS N) ⟨aK4 N,aK6 N,aK7 N,trivial⟩ Tryz.func60 (by kernel_rfl)
theorem sU(N:Nat):aH E ⟨207,fT,fU,strings_Replace N⟩:=qX N
theorem aK8(N:Nat):aH E ⟨147,QG,QH,q62 N⟩:=aP aL (aIT N) ⟨sU N,trivial⟩ Tryz.func147 (by kernel_rfl)
theorem aK9(N:Nat):aH E ⟨80,QI,QJ,q63 N⟩:=aP aL (aIV N) ⟨aK8 N,trivial⟩ Tryz.func80 (by kernel_rfl)
theorem aLA(N:Nat):aH E ⟨81,QK,QL,q64 N⟩:=aP aL (aIW N) trivial Tryz.func81 (by kernel_rfl)
theorem aLB(N:Nat):aH E ⟨31,QM,QN,q65 N⟩:=aP aL (aIY N) ⟨aCV N,aCO N,aK9 N,aLA N,trivial⟩ Tryz.func31 (by kernel_rfl)
theorem aLC(N:Nat):aH E ⟨14,QO,QP,q66 N⟩:=aP aL (aIZ N) ⟨aCT N,aLB N,trivial⟩ Tryz.func14 (by kernel_rfl)
theorem KI(N:Nat):aH E ⟨10,mK,mL,lR N⟩:=aP aL (KH N) ⟨aLC N,trivial⟩ Tryz.func10 (by kernel_rfl)
theorem C5(N:Nat):aH E ⟨11,qR,qS,jF N⟩:=aP aL (C4 N) trivial Tryz.func11 (by kernel_rfl)
theorem aLD(N:Nat):aH E ⟨24,QQ,QR,q67 N⟩:=aP aL (aI0 N) trivial Tryz.func24 (by kernel_rfl)
theorem aLE(N:Nat):aH E ⟨71,QS,QT,q68 N⟩:=aP aL (aI1 N) trivial Tryz.func71 (by kernel_rfl)
theorem aLF(N:Nat):aH E ⟨25,QU,QV,q69 N⟩:=aP aL (aI3 N) ⟨aLE N,trivial⟩ Tryz.func25 (by kernel_rfl)
theorem aLG(N:Nat):aH E ⟨61,QW,QX,q70 N⟩:=aP aL (aI4 N) trivial Tryz.func61 (by kernel_rfl)
theorem aLH(N:Nat):aH E ⟨104,QY,QZ,q71 N⟩:=aP aL (aI5 N) trivial Tryz.func104 (by kernel_rfl)
theorem aLI(N:Nat):aH E ⟨105,RA,RB,q72 N⟩:=aP aL (aI7 N) trivial Tryz.func105 (by kernel_rfl)
theorem aLJ(N:Nat):aH E ⟨62,RC,RD,q73 N⟩:=aP aL (aI9 N) ⟨aLH N,aLI N,trivial⟩ Tryz.func62 (by kernel_rfl)
theorem KJ(N:Nat):aH E ⟨106,qT,qU,q74 N⟩:=aP aL (aJB N) trivial Tryz.func106 (by kernel_rfl)
theorem aLK(N:Nat):aH E ⟨167,RE,RF,q75 N⟩:=aP aL (aJC N) trivial Tryz.func167 (by kernel_rfl)
theorem aLL(N:Nat):aH E ⟨107,RG,RH,q76 N⟩:=aP aL (aJE N) ⟨aLK N,aCR N,trivial⟩ Tryz.func107 (by kernel_rfl)
theorem KK(N:Nat):aH E ⟨108,qV,qW,q77 N⟩:=aP aL (aJF N) trivial Tryz.func108 (by kernel_rfl)
theorem aLM(N:Nat):aH E ⟨109,RI,RJ,q78 N⟩:=aP aL (aJH N) ⟨KK N,KJ N,trivial⟩ Tryz.func109 (by kernel_rfl)
theorem aLN(N:Nat):aH E ⟨231,RK,RL,q79 N⟩:=aP aL (aJI N) trivial Tryz.func231 (by kernel_rfl)
theorem aLO(N:Nat):aH E ⟨281,RM,RN,q80 N⟩:=aP aL (aJJ N) ⟨aLN N,trivial⟩ Tryz.func281 (by kernel_rfl)
theorem aLP(N:Nat):aH E ⟨255,RO,RP,q81 N⟩:=aP aL (aJK N) ⟨aLO N,trivial⟩ Tryz.func255 (by kernel_rfl)
theorem rC(N:Nat):aH E ⟨256,fI,fJ,cH N⟩:=pP N
theorem aLQ(N:Nat):aH E ⟨222,RQ,RR,q82 N⟩:=aP aL (aJM N) ⟨aLP N,rC N,trivial⟩ Tryz.func222 (by kernel_rfl)
theorem aCW(N:Nat):aH E ⟨168,FB,FC,q83 N⟩:=aP aL (aJN N) ⟨aLQ N,KK N,trivial⟩ Tryz.func168 (by kernel_rfl)
theorem aCX(N:Nat):aH E ⟨110,FD,FE,q84 N⟩:=aP aL (aJO N) ⟨KJ N,aCW N,trivial⟩ Tryz.func110 (by kernel_rfl)
theorem aLR(N:Nat):aH E ⟨111,RS,RT,q85 N⟩:=aP aL (aJP N) ⟨aCX N,trivial⟩ Tryz.func111 (by kernel_rfl)
theorem aCY(N:Nat):aH E ⟨112,FF,FG,q86 N⟩:=aP aL (aJR N) ⟨KJ N,KK N,trivial⟩ Tryz.func112 (by kernel_rfl)
theorem aLS(N:Nat):aH E ⟨257,RU,RV,q87 N⟩:=aP aL (aJS N) trivial Tryz.func257 (by kernel_rfl)
theorem aLT(N:Nat):aH E ⟨223,RW,RX,q88 N⟩:=aP aL (aJT N) ⟨aLS N,trivial⟩ Tryz.func223 (by kernel_rfl)
theorem aLU(N:Nat):aH E ⟨169,RY,RZ,q89 N⟩:=aP aL (aJU N) ⟨aLT N,trivial⟩ Tryz.func169 (by kernel_rfl)
theorem aLV(N:Nat):aH E ⟨113,SA,SB,q90 N⟩:=aP aL (aJV N) ⟨KJ N,aLU N,KK N,aCW N,trivial⟩ Tryz.func113 (by kernel_rfl)
theorem aLW(N:Nat):aH E ⟨114,SC,SD,q91 N⟩:=aP aL (aJX N) ⟨aCM N,trivial⟩ Tryz.func114 (by kernel_rfl)
theorem aLX(N:Nat):aH E ⟨115,SE,SG,q92 N⟩:=aP aL (aJZ N) ⟨aCY N,trivial⟩ Tryz.func115 (by kernel_rfl)
theorem TZ(N:Nat):aH E ⟨63,oD,oE,kH N⟩:=M9 aL O8 (TX N) ⟨KJ N,aLL N,KK N,aLM N,aCX N,aLR N,aCY N,aLV N,aLW N,aLX N,trivial⟩ Tryz.func63 (by kernel_rfl)
theorem aLY(N:Nat):aH E ⟨22,SH,SI,q93 N⟩:=M9 aL O8 (aJ1 N) ⟨aCV N,aLG N,aLJ N,TZ N,P0 N,trivial⟩ Tryz.func22 (by kernel_rfl)
theorem aLZ(N:Nat):aH E ⟨96,SJ,SK,q94 N⟩:=aP aL (aJ2 N) trivial Tryz.func96 (by kernel_rfl)
theorem aL0(N:Nat):aH E ⟨97,SL,SM,q95 N⟩:=aP aL (aJ3 N) trivial Tryz.func97 (by kernel_rfl)
theorem aL1(N:Nat):aH E ⟨98,SN,SO,q96 N⟩:=aP aL (aJ4 N) trivial Tryz.func98 (by kernel_rfl)
theorem aL2(N:Nat):aH E ⟨218,SP,SQ,q97 N⟩:=aP aL (aJ5 N) trivial Tryz.func218 (by kernel_rfl)
theorem aL3(N:Nat):aH E ⟨219,SR,SS,q98 N⟩:=aP aL (aJ6 N) trivial Tryz.func219 (by kernel_rfl)
theorem aL4(N:Nat):aH E ⟨164,ST,SU,q99 N⟩:=aP aL (aJ8 N) ⟨aL2 N,aL3 N,trivial⟩ Tryz.func164 (by kernel_rfl)
theorem aEX(N:Nat):aH E ⟨99,FH,FI,B4 N⟩:=aP aL (aEE N) ⟨aL4 N,trivial⟩ Tryz.func99 (by kernel_rfl)
theorem aEY(N:Nat):aH E ⟨58,FJ,FK,B5 N⟩:=aP aL (aEG N) ⟨aLZ N,aL0 N,aL1 N,aEX N,trivial⟩ Tryz.func58 (by kernel_rfl)
theorem aEZ(N:Nat):aH E ⟨19,FL,FM,SW N⟩:=aP aL (aEH N) ⟨P0 N,aEY N,trivial⟩ Tryz.func19 (by kernel_rfl)
theorem aE0(N:Nat):aH E ⟨53,FN,FO,B6 N⟩:=aP aL (aEI N) trivial Tryz.func53 (by kernel_rfl)
theorem aE1(N:Nat):aH E ⟨54,FP,FQ,B7 N⟩:=aP aL (aEK N) trivial Tryz.func54 (by kernel_rfl)
theorem aE2(N:Nat):aH E ⟨217,FR,aaFS,B8 N⟩:=aP aL (aEM N) trivial Tryz.func217 (by kernel_rfl)
theorem P1(N:Nat):aH E ⟨163,wL,wM,KC N⟩:=aP aL (aEN N) ⟨aE2 N,trivial⟩ Tryz.func163 (by kernel_rfl)
theorem aE3(N:Nat):aH E ⟨162,FT,FU,O4 N⟩:=aP aL (aEP N) ⟨P1 N,trivial⟩ Tryz.func162 (by kernel_rfl)
theorem aE4(N:Nat):aH E ⟨95,FV,FW,B9 N⟩:=aP aL (aEQ N) ⟨aE3 N,P1 N,trivial⟩ Tryz.func95 (by kernel_rfl)
theorem P2(N:Nat):aH E ⟨56,wN,wO,SX N⟩:=aP aL (aER N) ⟨aE4 N,trivial⟩ Tryz.func56 (by kernel_rfl)
theorem aE5(N:Nat):aH E ⟨55,FX,FY,C0 N⟩:=aP aL (aET N) ⟨P2 N,trivial⟩ Tryz.func55 (by kernel_rfl)
theorem aE6(N:Nat):aH E ⟨57,FZ,GA,O5 N⟩:=aP aL (aEV N) trivial Tryz.func57 (by kernel_rfl)
theorem aE7(N:Nat):aH E ⟨18,GB,GC,KD N⟩:=aP aL (aEW N) ⟨aE0 N,aE1 N,aE5 N,P2 N,aE6 N,trivial⟩ Tryz.func18 (by kernel_rfl)
theorem rD(N:Nat):aH E ⟨5,iY,iZ,bY N⟩:=aP aL (qZ N) ⟨KI N,C5 N,aCT N,aLD N,aLF N,aLY N,aEZ N,aE7 N,trivial⟩ Tryz.func5 (by kernel_rfl)
end
end Go.Mo
end

section
end
