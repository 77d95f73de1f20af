/-
  Texts put together, in build order: WRa WRb WRc WRd WRe WE WM WB WV WS WH WXa WXb WXc WXd WK XA.
-/
import Derived.Test.YtpblmlldkpkomaaGreatDoorProg
import Derived.WalkKit
import Derived.WalkSpells
import Derived.LoopTactic
import Derived.Below
import Derived.Lib.Hide
import Derived.Lib.LazyBuf
import Derived.Lib.ConvBytes
import Derived.Laws.BytesArg
import Derived.Laws.LoneSync
import Derived.Defers
import Derived.Tactics
import Derived.Tactics2
import Derived.Test.YtpblmlldkpkomaaGreatDoorYeC
import Derived.Laws.Rows
import Derived.Deep.WholeRow
import Derived.Laws.Pointers
import Derived.RegionTactic
import Derived.RegionCalls
import Derived.KernelRfl
import GoSem.PinnedTables
import Derived.Test.YtpblmlldkpkomaaGreatDoorChecked
import Derived.Lib.UnsafeStr
import Derived.Lib.Builder
import Derived.Lib.Walk
import Derived.Laws.Externs
import Derived.OrdersHeld
import Derived.Shelf.Unicode.ValidAny
import Derived.Shelf.Strings.Search3
import Derived.Shelf.Strings.Replace
import Derived.Shelf.Strings.SlTrimAscii
import Derived.Shelf.Strconv.Itoa3
import Derived.Lib.AppendIntMem
import Derived.Shelf.Strconv.ParseIntPublic10
import Derived.Lib.Replace
import Derived.Lib.CountLaws
import Derived.Lib.IndexMore
set_option linter.all false

section
set_option linter.all false
namespace Go.Mo
open Go Go.W Go.Proofs Go.RowKit
theorem aBG(x:UInt8):flatB x=x∨(flatB x=32∧x≠32):=by
 unfold flatB
 by_cases h1:x=9
 ·subst h1; exact .inr (by decide)
 by_cases h2:x=10
 ·subst h2; exact .inr (by decide)
 by_cases h3:x=13
 ·subst h3; exact .inr (by decide)
 left
 have e1:(x==9)=false:=by simpa using h1
 have e2:(x==10)=false:=by simpa using h2
 have e3:(x==13)=false:=by simpa using h3
 rw[e1,e2,e3];rfl
def SE(B n:Nat) (bs:Y_) (v:Value) (wr:World):Prop:=∃c cap,v=.slice (some ⟨c,0,none⟩) n cap∧B≤c∧c<wr.heap.size∧(∀j,j<n→wr.cell? ⟨c,j,none⟩=some (.int .u8 ((bs.getD j 0).toNat:Nat)))∧(∀j,j<n→wr.frozen? ⟨c,j,none⟩=false)
def aWF(w:World) (n:Nat) (l:Y_) (v i:Value) (wr:World):Prop:=∃k:Nat,k≤l.length∧i=.int .i64 k∧Below w.heap.size w wr∧((v=.slice none 0 0∧(l.take k).map flatB=l.take k)∨SE w.heap.size n ((l.take k).map flatB++l.drop k) v wr)
theorem SG(l:Y_) (f:UInt8→UInt8) (k:Nat) (h:k<l.length):(l.take (k+1)).map f++l.drop (k+1)=((l.take k).map f++l.drop k).set k (f l[k]):=by
 have h1:((l.take k).map f).length=k:=by simp; omega
 rw[aWY h,aW8 h,aZD,aYK,aXQ _ _ (by omega),h1,aZX];rfl
theorem aBH(l:Y_) (f:UInt8→UInt8) (k:Nat) (h:k<l.length) (he:f l[k]=l[k]):(l.take (k+1)).map f++l.drop (k+1)=(l.take k).map f++l.drop k:=by
 rw[aWY h,aW8 h,aZD,aYK];simp[he]
theorem aEK(l:Y_) (f:UInt8→UInt8) (k:Nat) (h:k<l.length) (hp:(l.take k).map f=l.take k) (he:f l[k]=l[k]):(l.take (k+1)).map f=l.take (k+1):=by
 rw[aWY h,aZD,hp];simp[he]
theorem aIV(l:Y_) (f:UInt8→UInt8) (k:Nat) (hp:(l.take k).map f=l.take k):(l.take k).map f++l.drop k=l:=by
 rw[hp,aXO]
theorem U5{B n k:Nat}{bs:Y_}{c cap:Nat}{wr:World}(y:UInt8) (hk:k<bs.length) (h:SE B n bs (.slice (some ⟨c,0,none⟩) n cap) wr):SE B n (bs.set k y) (.slice (some ⟨c,0,none⟩) n cap) (wr.setCell ⟨c,k,none⟩ (.int .u8 (y.toNat:Nat))):=by
 obtain⟨c',cap',e,h1,h2,h3,h4⟩:=h;simp only[Value.slice.injEq,Option.some.injEq,Addr.mk.injEq,and_true,true_and] at e;obtain⟨rfl,rfl⟩:=e;refine⟨c,cap,rfl,h1,by simpa [World.setCell] using h2,fun j hj=>?_,fun j hj=>by rw[aXR]; exact h4 j hj⟩
 by_cases e:j=k
 ·subst e;rw[World.cell?_setCell_same _ _ _ (h3 j hj)];simp[List.getD,hk]
 ·rw[aW9 _ _ _ _ (by simp<;>omega),h3 j hj];simp[List.getD,Ne.symm e]
theorem aIW{B:Nat}(s:ByteArray) (wr:World) (hB:B≤wr.heap.size):SE B s.size s.data.toList (.slice (some ⟨wr.heap.size,0,none⟩) s.size (grownCap wr s.size 0 5)) (Lib.bytesWorld wr 5 s):=by
 refine⟨_,_,rfl,hB,by rw[Lib.bytesWorld_size]; omega,fun j hj=>Lib.bytesWorld_cell wr 5 s j hj,fun j hj=>?_⟩
 have h1:=Lib.bytesWorld_at_new wr 5 s
 have h2:s.size≤(Lib.bytesCells wr 5 s).size:=by
  unfold Lib.bytesCells;rw[Array.size_append,Array.size_map];exact Nat.le_add_right _ _
 unfold World.frozen?;simp only[h1];generalize (Lib.bytesCells wr 5 s).size=z at h2
 have:¬z≤j:=by omega
 simp[this]
theorem aBI{B:Nat}{w wr:World}(s:ByteArray) (h:Below B w wr) (hB:B≤wr.heap.size):Below B w (Lib.bytesWorld wr 5 s) :=
 h.trans ⟨rfl,rfl,rfl,by rw[Lib.bytesWorld_size]; omega,fun k hk=>Lib.bytesWorld_at_old wr 5 s k (by omega)⟩
theorem aEL(l:Y_):strOfNums (l.map fun x=>(x.toNat:Int))=⟨l.toArray⟩:=by
 unfold strOfNums;rw[List.map_map]
 have:((fun n:Int=>UInt8.ofNat n.toNat) ∘ fun x:UInt8=>(x.toNat:Int))=id:=by funext x; simp
 rw[this,List.map_id]
set_option maxHeartbeats 4000000 in
set_option maxRecDepth 1000000 in
theorem aMT(b:Nat) (s:ByteArray) (w:World) (hb:b<w.heap.size) (hs:s.size≤4294967281) (htab:∀x:UInt8,w.cell? ⟨b,x.toNat,none⟩=some (.int .u8 (flatB x).toNat)) :
  Calls Tryz.prog 371 #[.pointer (some ⟨b,0,none⟩),.string s] w fun e w'=>e=.returned (.string ⟨(s.data.toList.map flatB).toArray⟩)∧Below w.heap.size w w':=by
 have HT:=Lib.hid htab
 clear htab
 have HB:=Lib.hid hb
 go_enter Tryz.func371,Tryz.ntmps371
 go_wp2
 go_loopw [5,6] (fun v i wr=>aWF w s.size s.data.toList v i wr) (fun _ i _=>s.size-(intOf i).toNat)
 case atStart=>exact⟨0,aZ1 _,rfl,Below.refl _ _,.inl ⟨rfl,rfl⟩⟩
 case round =>
  obtain⟨k,hk,rfl,hbel,hor⟩:=hrel
  have hn:s.data.toList.length=s.size:=(Lib.size_eq s).symm
  have HNl:=Lib.hid hn
  clear hn
  have hkl:k≤s.size:=by have:=HNl.out; omega
  have hBw:=hbel.size
  by_cases hlt:k<s.size
  ·have hlk:k<s.data.toList.length:=by have:=HNl.out; omega
   have ht:=HT.out (s[k]'hlt)
   have hc1:wr.cell? ⟨b,(s[k]'hlt).toNat,none⟩=some (.int .u8 (flatB (s[k]'hlt)).toNat):=(hbel.cell (p:=⟨b,(s[k]'hlt).toNat,none⟩) HB.out).trans ht
   clear ht
   have hx:((s[k]'hlt).toNat:Int)<256:=by have:=(s[k]'hlt).toNat_lt; omega
   have hget:s.data.toList[k]'hlk=s[k]'hlt:=rfl
   have HG:=Lib.hid hget
   clear hget
   rcases aBG (s[k]'hlt) with hd|⟨hd,hne⟩
   ·
    rw[hd] at hc1
    have HD:=Lib.hid hd
    clear hd
    rcases hor with⟨rfl,hpre⟩|hbuf
    ·have HP:=Lib.hid hpre
     clear hpre
     go_wp2
     go_roundw
     case rel=>exact⟨k+1,hlk,by go_num,hbel,.inl ⟨rfl,aEK _ _ k hlk HP.out (by rw[HG.out]; exact HD.out)⟩⟩
     case measure=>simp[intOf]; omega
    ·have HP:=Lib.hid hbuf
     clear hbuf
     go_wp2
     go_roundw
     case rel=>exact⟨k+1,hlk,by go_num,hbel,.inr (by rw[aBH _ _ k hlk (by rw[HG.out]; exact HD.out)]; exact HP.out)⟩
     case measure=>simp[intOf]; omega
   ·rw[hd] at hc1
    have hc1:wr.cell? ⟨b,(s[k]'hlt).toNat,none⟩=some (.int .u8 32):=hc1
    have HD:=Lib.hid hd
    clear hd
    have hne':((32:Int) != ((s[k]'hlt).toNat:Int))=true:=by
     simp only[bne_iff_ne,ne_eq];intro e;exact hne (UInt8.toNat_inj.1 (by show _=32; omega))
    have HN:=Lib.hid hne
    clear hne
    rcases hor with⟨rfl,hpre⟩|hbuf
    ·have HP:=Lib.hid hpre
     clear hpre
     have hnl:=fun w=>run_eql_slice_nil (P:=Tryz.prog) w 129 5 none 0 0 Tryz.underlying129
     have hcv:=Lib.run_convert_string_bytes (P:=Tryz.prog) wr 9 129 5 s Tryz.underlying9 Tryz.underlying129 Tryz.underlying5
     have hc2:(Lib.bytesWorld wr 5 s).cell? ⟨b,(s[k]'hlt).toNat,none⟩=some (.int .u8 32):=(Lib.bytesWorld_old wr 5 s _ (by show b<wr.heap.size; have:=HB.out; omega)).trans hc1
     have hbn:=aIW (B:=w.heap.size) s wr hBw
     have hc3:=Lib.bytesWorld_cell wr 5 s k hlt
     have hc4:(Lib.bytesWorld wr 5 s).frozen? ⟨wr.heap.size,k,none⟩=false:=by
      obtain⟨c,cap,e,_,_,_,h4⟩:=hbn;simp only[Value.slice.injEq,Option.some.injEq,Addr.mk.injEq,and_true,true_and] at e;obtain⟨⟨rfl,_⟩,_⟩:=e;exact h4 k hlt
     have hbb:=aBI s hbel hBw
     have HBn:=Lib.hid hbn
     clear hbn
     go_wp2
     go_roundw
     case rel =>
      refine⟨k+1,hlk,by go_num,hbb.setCell (by exact hBw) _,.inr ?_⟩
      have h1:=SG s.data.toList flatB k hlk
      rw[aIV _ _ k HP.out,HG.out,HD.out] at h1;rw[h1];exact U5 32 hlk HBn.out
     case measure=>simp[intOf]; omega
    ·obtain⟨c,cap,rfl,q1,q2,q3,q4⟩:=hbuf
     have hnl:=fun w=>run_eql_slice_nil (P:=Tryz.prog) w 129 5 (some ⟨c,0,none⟩) s.size cap Tryz.underlying129
     have hc3:=q3 k hlt
     have hc4:=q4 k hlt
     have hQ:SE w.heap.size s.size ((s.data.toList.take k).map flatB++s.data.toList.drop k) (.slice (some ⟨c,0,none⟩) s.size cap) wr:=⟨c,cap,rfl,q1,q2,q3,q4⟩
     have HQ:=Lib.hid hQ
     clear hQ q3 q4
     go_wp2
     go_roundw
     case rel =>
      refine⟨k+1,hlk,by go_num,hbel.setCell (by exact q1) _,.inr ?_⟩
      have h1:=SG s.data.toList flatB k hlk
      rw[HG.out,HD.out] at h1;rw[h1];exact U5 32 (by simp; omega) HQ.out
     case measure=>simp[intOf]; omega
  ·rcases hor with⟨rfl,hpre⟩|hbuf
   ·have HP:=Lib.hid hpre
    clear hpre
    have hnl:=fun w=>run_eql_slice_nil (P:=Tryz.prog) w 129 5 none 0 0 Tryz.underlying129
    go_wp2
    go_ret
    refine⟨?_,hbel⟩
    have h1:=HP.out
    rw[aXG (by have:=HNl.out; omega)] at h1;rw[h1,Lib.mk_data];rfl
   ·obtain⟨c,cap,rfl,q1,q2,q3,q4⟩:=hbuf
    have hnl:=fun w=>run_eql_slice_nil (P:=Tryz.prog) w 129 5 (some ⟨c,0,none⟩) s.size cap Tryz.underlying129
    have h0:(s.data.toList.take k).map flatB++s.data.toList.drop k=s.data.toList.map flatB:=by
     rw[aXG (by have:=HNl.out; omega),aXH (by have:=HNl.out; omega),aY5]
    rw[h0] at q3
    clear h0
    have hcv:=run_convert_bytes_arg (P:=Tryz.prog) wr 129 5 Tryz.underlying129 Tryz.underlying5 c 0 s.size cap ((s.data.toList.map flatB).map fun x=>(x.toNat:Int)) (by rw[aZC,aZC]; exact HNl.out) (fun i hi=>by
     have h1:i<s.data.toList.length:=by have:=HNl.out; omega
     rw[aZS,q3 i hi]
     have h2:i<(s.data.toList.map flatB).length:=by simpa using h1
     rw[aW4,aW4,aYO (f:=fun x:UInt8=>(x.toNat:Int)),aXB h2];rfl) 9 Tryz.underlying9
    have hstr:strOfNums ((s.data.toList.map flatB).map fun x=>(x.toNat:Int))=⟨(s.data.toList.map flatB).toArray⟩:=by
     exact aEL _
    rw[hstr] at hcv
    clear hstr
    have HC:=Lib.hid q3
    clear q3
    go_wp2
    go_ret
    exact⟨rfl,hbel⟩
theorem aEM(b:UInt8):flatB b=cond (b==9) 32 (cond (b==10) 32 (cond (b==13) 32 b)):=by
 unfold flatB aQ;cases (b==9)<;>cases (b==10)<;>cases (b==13)<;>rfl
def aEN(B k:Nat) (wr:World):Prop:=∃cur:Array Value,wr.heap[B]?=some (.cells cur 346 (0,0))∧cur.size=256∧∀j,j<k→cur[j]?=some (.int .u8 (j:Nat))
def yG(k:Nat) (x:UInt8):UInt8:=match k with
 | 0=>flatB x
 | 1=>cond (x==10) 32 (cond (x==13) 32 x)
 | 2=>cond (x==13) 32 x
 |_=>x
def qW(B k:Nat) (wr:World):Prop:=∃cur:Array Value,wr.heap[B]?=some (.cells cur 346 (0,0))∧cur.size=256∧∀x:UInt8,cur[x.toNat]?=some (.int .u8 ((yG k x).toNat:Nat))
def vZ(w:World) (g:Nat):Prop:=∀j v,#[Value.string ⟨#[9]⟩,.string ⟨#[32]⟩,.string ⟨#[10]⟩,.string ⟨#[32]⟩,.string ⟨#[13]⟩,.string ⟨#[32]⟩][j]?=some v→w.cell? ⟨g,j,none⟩=some v
theorem aBJ{B k j:Nat}{wr:World}(h:aEN B k wr) (hj:j<256):(∃v,wr.cell? ⟨B,j,none⟩=some v)∧wr.frozen? ⟨B,j,none⟩=false:=by
 obtain⟨cur,h1,h2,_⟩:=h;refine⟨⟨cur[j]'(by omega),?_⟩,?_⟩
 ·simp[World.cell?,h1,h2,hj]
 ·simp[World.frozen?,h1]
theorem aEO{B k:Nat}{wr:World}(h:aEN B k wr) (hk:k<256):aEN B (k+1) (wr.setCell ⟨B,k,none⟩ (.int .u8 (k:Nat))):=by
 obtain⟨cur,h1,h2,h3⟩:=h;refine⟨cur.setIfInBounds k (.int .u8 (k:Nat)),heap_setCell_same wr B k cur 346 _ h1,by simpa using h2,fun j hj=>?_⟩;rw[Array.getElem?_setIfInBounds]
 by_cases e:k=j
 ·subst e;rw[if_pos rfl,if_pos (by omega)]
 ·rw[if_neg e];exact h3 j (by omega)
theorem aMU{B:Nat}{wr:World}(h:aEN B 256 wr):qW B 3 wr:=by
 obtain⟨cur,h1,h2,h3⟩:=h;exact⟨cur,h1,h2,fun x=>h3 x.toNat x.toNat_lt⟩
theorem yH{B k j:Nat}{wr:World}(h:qW B k wr) (hj:j<256):(∃v,wr.cell? ⟨B,j,none⟩=some v)∧wr.frozen? ⟨B,j,none⟩=false:=by
 obtain⟨cur,h1,h2,_⟩:=h;refine⟨⟨cur[j]'(by omega),?_⟩,?_⟩
 ·simp[World.cell?,h1,h2,hj]
 ·simp[World.frozen?,h1]
theorem DT{B k:Nat}{wr:World}(b y:UInt8) (h:qW B (k+1) wr) (ht:∀x,yG k x=if x=b then y else yG (k+1) x):qW B k (wr.setCell ⟨B,b.toNat,none⟩ (.int .u8 (y.toNat:Nat))):=by
 obtain⟨cur,h1,h2,h3⟩:=h;refine⟨cur.setIfInBounds b.toNat (.int .u8 (y.toNat:Nat)),heap_setCell_same wr B b.toNat cur 346 _ h1,by simpa using h2,fun x=>?_⟩;rw[Array.getElem?_setIfInBounds,ht x]
 by_cases e:x=b
 ·subst e;rw[if_pos rfl,if_pos (by rw[h2]; exact x.toNat_lt),if_pos rfl]
 ·rw[if_neg (fun k=>e (UInt8.toNat_inj.1 k.symm)),if_neg e];exact h3 x
theorem tk2:∀x,yG 2 x=if x=13 then 32 else yG 3 x:=fun x=>by
 by_cases e:x=13
 ·subst e; rfl
 ·have e':(x==13)=false:=by simpa using e
  rw[if_neg e];simp[yG,e']
theorem tk1:∀x,yG 1 x=if x=10 then 32 else yG 2 x:=fun x=>by
 by_cases e:x=10
 ·subst e; rfl
 ·have e':(x==10)=false:=by simpa using e
  rw[if_neg e];simp[yG,e']
theorem tk0:∀x,yG 0 x=if x=9 then 32 else yG 1 x:=fun x=>by
 by_cases e:x=9
 ·subst e; rfl
 ·have e':(x==9)=false:=by simpa using e
  rw[if_neg e];simp[yG,aEM,e']
set_option maxHeartbeats 4000000 in
set_option maxRecDepth 1000000 in
theorem aBK(b g cap:Nat) (w:World) (hb:b<w.heap.size) (hg:g<w.heap.size) (hold:w.cell? ⟨b,4,none⟩=some (.slice (some ⟨g,0,none⟩) 6 cap)) (h6:vZ w g) :
  Calls Tryz.prog 314 #[.pointer (some ⟨b,0,none⟩)] w fun e w'=>e=.returned (.iface 347 (.pointer (some ⟨w.heap.size,0,none⟩)))∧Below w.heap.size w w'∧qW w.heap.size 0 w':=by
 have c0:=h6 0 (.string ⟨#[9]⟩) rfl
 have c1:=h6 1 (.string ⟨#[32]⟩) rfl
 have c2:=h6 2 (.string ⟨#[10]⟩) rfl
 have c3:=h6 3 (.string ⟨#[32]⟩) rfl
 have c4:=h6 4 (.string ⟨#[13]⟩) rfl
 have c5:=h6 5 (.string ⟨#[32]⟩) rfl
 have hsc:=run_storeCells_new (P:=Tryz.prog) w 346 Tryz.zeroCells346 Tryz.zeroCells346 (by kernel_rfl) rfl (by kernel_rfl)
 go_enter Tryz.func314,Tryz.ntmps314
 go_wp2
 go_loop [4,5] (fun a i=>∃k:Nat,k≤3∧i=.int .i64 ((2*k:Nat):Int)∧a=.bool true) (fun _ i=>6-(intOf i).toNat)
 case atStart=>exact⟨0,by omega,rfl,rfl⟩
 case round =>
  obtain⟨k,hk,rfl,rfl⟩:=hrel
  by_cases hlt:k<3
  ·obtain rfl|rfl|rfl:k=0∨k=1∨k=2:=by omega
   all_goals
    go_wp2
    go_round
    case rel=>first|exact⟨1,by omega,rfl,rfl⟩|exact⟨2,by omega,rfl,rfl⟩|exact⟨3,by omega,rfl,rfl⟩
    case measure=>simp[intOf]
  ·obtain rfl:k=3:=by omega
   go_wp2
   go_loopw [61] (fun i wr=>∃k:Nat,k≤256∧i=.int .i64 (k:Nat)∧Below w.heap.size w wr∧aEN w.heap.size k wr) (fun i _=>256-(intOf i).toNat)
   case atStart=>exact⟨0,by omega,rfl,(Below.refl _ _).alloc (aZ0 _) _,⟨_,heap_alloc_new w _,Tryz.zeroCells346_size,fun j hj=>absurd hj (aY6 _)⟩⟩
   case round =>
    obtain⟨k,hk,rfl,hbel,htab⟩:=hrel
    by_cases hlt:k<256
    ·obtain⟨⟨v,hc⟩,hf⟩:=aBJ htab hlt
     have HT:=Lib.hid htab
     clear htab
     go_wp2
     go_roundw
     case rel=>exact⟨k+1,by omega,by go_num,hbel.setCell (by exact aZ0 _) _,aEO HT.out hlt⟩
     case measure=>simp[intOf]; omega
    ·have hT3:qW w.heap.size 3 wr:=by
      have h256:k=256:=by omega
      rw[h256] at htab;exact aMU htab
     clear htab
     have HT:=Lib.hid hT3
     clear hT3
     go_wp2
     obtain⟨wo,rfl⟩:∃wo:World,wo=wr:=⟨_,rfl⟩
     go_loopw [8] (fun i wr=>∃m:Nat,m≤3∧i=.int .i64 (2*(m:Nat)-2:Int)∧Below w.heap.size w wr∧qW w.heap.size m wr) (fun i _=>(intOf i+2).toNat)
     case atStart=>exact⟨3,by omega,rfl,hbel,HT.out⟩
     case round =>
      obtain⟨m,hm,rfl,hbel2,htab2⟩:=hrel
      have d0:wr.cell? ⟨g,0,none⟩=some (.string ⟨#[9]⟩):=(hbel2.cell (p:=⟨g,0,none⟩) hg).trans c0
      have d1:wr.cell? ⟨g,1,none⟩=some (.string ⟨#[32]⟩):=(hbel2.cell (p:=⟨g,1,none⟩) hg).trans c1
      have d2:wr.cell? ⟨g,2,none⟩=some (.string ⟨#[10]⟩):=(hbel2.cell (p:=⟨g,2,none⟩) hg).trans c2
      have d3:wr.cell? ⟨g,3,none⟩=some (.string ⟨#[32]⟩):=(hbel2.cell (p:=⟨g,3,none⟩) hg).trans c3
      have d4:wr.cell? ⟨g,4,none⟩=some (.string ⟨#[13]⟩):=(hbel2.cell (p:=⟨g,4,none⟩) hg).trans c4
      have d5:wr.cell? ⟨g,5,none⟩=some (.string ⟨#[32]⟩):=(hbel2.cell (p:=⟨g,5,none⟩) hg).trans c5
      have k13:∀h,((⟨#[13]⟩:ByteArray)[0]'h)=13:=fun _=>rfl
      have k10:∀h,((⟨#[10]⟩:ByteArray)[0]'h)=10:=fun _=>rfl
      have k9:∀h,((⟨#[9]⟩:ByteArray)[0]'h)=9:=fun _=>rfl
      have k32:∀h,((⟨#[32]⟩:ByteArray)[0]'h)=32:=fun _=>rfl
      obtain rfl|rfl|rfl|rfl:m=3∨m=2∨m=1∨m=0:=by omega
      ·obtain⟨⟨v,hc⟩,hf⟩:=yH (j:=13) htab2 (by omega)
       have HT2:=Lib.hid htab2
       clear htab2
       go_wp2
       go_roundw
       case rel=>exact⟨2,by omega,rfl,hbel2.setCell (by exact aZ0 _) _,DT 13 32 HT2.out tk2⟩
       case measure=>simp[intOf]
      ·obtain⟨⟨v,hc⟩,hf⟩:=yH (j:=10) htab2 (by omega)
       have HT2:=Lib.hid htab2
       clear htab2
       go_wp2
       go_roundw
       case rel=>exact⟨1,by omega,rfl,hbel2.setCell (by exact aZ0 _) _,DT 10 32 HT2.out tk1⟩
       case measure=>simp[intOf]
      ·obtain⟨⟨v,hc⟩,hf⟩:=yH (j:=9) htab2 (by omega)
       have HT2:=Lib.hid htab2
       clear htab2
       go_wp2
       go_roundw
       case rel=>exact⟨0,by omega,rfl,hbel2.setCell (by exact aZ0 _) _,DT 9 32 HT2.out tk0⟩
       case measure=>simp[intOf]
      ·have HT2:=Lib.hid htab2
       clear htab2
       go_wp2
       go_ret
       exact⟨rfl,hbel2,HT2.out⟩
theorem DU(w:World):(callFunc 329 #[]).run Tryz.prog w=.ok (.value (.tuple #[])) w:=run_call_mark0 Tryz.func329 (by kernel_rfl) (by kernel_rfl) (by kernel_rfl) .disable (by kernel_rfl) w
theorem IA(w:World):(callFunc 331 #[]).run Tryz.prog w=.ok (.value (.tuple #[])) w:=run_call_mark0 Tryz.func331 (by kernel_rfl) (by kernel_rfl) (by kernel_rfl) .enable (by kernel_rfl) w
theorem YN(a:Addr) (w:World):(callFunc 332 #[.pointer (some a)]).run Tryz.prog w=.ok (.value (.tuple #[])) w:=run_call_marked Tryz.func332 (by kernel_rfl) (by kernel_rfl) (by kernel_rfl) .acquire (by kernel_rfl) a w
theorem YO(a:Addr) (w:World):(callFunc 334 #[.pointer (some a)]).run Tryz.prog w=.ok (.value (.tuple #[])) w:=run_call_marked Tryz.func334 (by kernel_rfl) (by kernel_rfl) (by kernel_rfl) .releaseMerge (by kernel_rfl) a w
set_option maxHeartbeats 2000000 in
set_option maxRecDepth 1000000 in
theorem DV(a:Addr) (x:Value) (u:FrameMode) (w:World) (hc:w.cell? a=some x) (hz:w.frozen? a=false) :
  CallsD Tryz.prog 320 #[.pointer (some a),.bool true] u w fun e u' w'=>u'=u∧(e=.returned (.tuple #[])∧w'=w.drew.setCell a (.int .u32 1)):=by
 have hc':w.drew.cell? a=some x:=by go_simp
 have hz':w.drew.frozen? a=false:=by go_simp
 have hst:=run_call_store (P:=Tryz.prog) Tryz.func325 (by kernel_rfl) (by kernel_rfl) (by kernel_rfl) (by kernel_rfl) (k:=.u32) (y:=1) hc' hz'
 go_enter_d Tryz.func320,Tryz.ntmps320
 go_wp2
 go_region_calls
 all_goals (go_end0; exact⟨rfl,rfl⟩)
set_option maxHeartbeats 2000000 in
set_option maxRecDepth 1000000 in
theorem AJ(a:Addr) (u:FrameMode) (w:World) (hc:w.cell? a=some (.int .i32 1)) (hz:w.frozen? a=false) :
  CallsD Tryz.prog 319 #[.pointer (some a)] u w fun e u' w'=>u'=u∧(e=.returned (.tuple #[])∧w'=w.setCell a (.int .i32 0)):=by
 have hd:=DU
 have he:=IA
 have hr:=YO
 have hadd:=run_call_add (P:=Tryz.prog) Tryz.func335 (by kernel_rfl) (by kernel_rfl) (by kernel_rfl) .i32 (by kernel_rfl) (y:=-1) (s:=0) hc hz (by simp[go_sem]; rfl)
 have hcv:=run_convert_to_unsafe (P:=Tryz.prog) (src:=366) (dst:=240) Tryz.underlying366 Tryz.underlying240 (by kernel_rfl) hc
 go_enter_d Tryz.func319,Tryz.ntmps319
 go_wp2
 go_end0
 go_wp2
 go_end0
 exact⟨rfl,rfl⟩
set_option maxHeartbeats 2000000 in
set_option maxRecDepth 1000000 in
theorem aBL(a:Addr) (w:World) (hc:w.cell? a=some (.int .i32 0)) (hz:w.frozen? a=false) :
  Calls Tryz.prog 318 #[.pointer (some a)] w fun e w'=>e=.returned (.tuple #[])∧w'=w.setCell a (.int .i32 1):=by
 have hd:=DU
 have he:=IA
 have ha:=YN
 have hcas:=run_call_cas_hit (P:=Tryz.prog) Tryz.func330 (by kernel_rfl) (by kernel_rfl) (by kernel_rfl) .i32 (by kernel_rfl) (y:=1) hc hz
 have hc':(w.setCell a (.int .i32 1)).cell? a=some (.int .i32 1):=World.cell?_setCell_same w a _ hc
 have hcv:=run_convert_to_unsafe (P:=Tryz.prog) (src:=366) (dst:=240) Tryz.underlying366 Tryz.underlying240 (by kernel_rfl) hc'
 go_enter Tryz.func318,Tryz.ntmps318
 go_wp2
 first|go_end0|(simp only[Exit.inBlock,Exit.then]; refine bodyPost_ret (results_none rfl _ _ _) rfl ?_)|refine bodyPost_ret (results_none rfl _ _ _) rfl ?_
 go_wp2
 go_end0
 exact⟨rfl,rfl⟩
theorem qW.of_block{B k:Nat}{w w':World}(h:qW B k w) (hh:w'.heap[B]?=w.heap[B]?):qW B k w':=by
 obtain⟨cur,h1,h2,h3⟩:=h;exact⟨cur,hh.trans h1,h2,h3⟩
theorem qW.other{B k:Nat}{w:World}(h:qW B k w){a:Addr}(ha:B≠a.block) (u:Value):qW B k (w.setCell a u) :=
 h.of_block (Below.heap_setCell _ _ _ _ ha)
theorem vZ.other{g:Nat}{w:World}(h:vZ w g){a:Addr}(ha:a.block≠g) (u:Value):vZ (w.setCell a u) g:=fun j v hj =>
 (aW9 w a ⟨g,j,none⟩ u (fun e=>ha (by rw[e]))).trans (h j v hj)
def ifa(c:Nat):Value:=.iface 347 (.pointer (some ⟨c,0,none⟩))
set_option maxHeartbeats 2000000 in
set_option maxRecDepth 1000000 in
theorem aEP(b g cap:Nat) (x3:Value) (w:World) (hb:b<w.heap.size) (hg:g<w.heap.size) (hold:w.cell? ⟨b,4,none⟩=some (.slice (some ⟨g,0,none⟩) 6 cap)) (h3:w.cell? ⟨b,3,none⟩=some x3)
  (f3:w.frozen? ⟨b,3,none⟩=false) (f4:w.frozen? ⟨b,4,none⟩=false) (h6:vZ w g) :
  Calls Tryz.prog 303 #[.pointer (some ⟨b,0,none⟩)] w fun e w'=>e=.returned (.tuple #[])∧∃w1,Below w.heap.size w w1∧qW w.heap.size 0 w1∧w'=(w1.setCell ⟨b,3,none⟩ (ifa w.heap.size)).setCell ⟨b,4,none⟩ (.slice none 0 0):=by
 have HB:=Lib.hid (aBK b g cap w hb hg hold h6)
 go_enter Tryz.func303,Tryz.ntmps303
 go_wp2_with fail
 refine HB.out.mono ?_;rintro e w1 ⟨rfl,hbel,htab⟩
 have c3:w1.cell? ⟨b,3,none⟩=some x3:=(hbel.cell (p:=⟨b,3,none⟩) hb).trans h3
 have c4:w1.cell? ⟨b,4,none⟩=some (.slice (some ⟨g,0,none⟩) 6 cap):=(hbel.cell (p:=⟨b,4,none⟩) hb).trans hold
 have z3:w1.frozen? ⟨b,3,none⟩=false:=(hbel.frozen (p:=⟨b,3,none⟩) hb).trans f3
 have z4:w1.frozen? ⟨b,4,none⟩=false:=(hbel.frozen (p:=⟨b,4,none⟩) hb).trans f4
 have d4:(w1.setCell ⟨b,3,none⟩ (.iface 347 (.pointer (some ⟨w.heap.size,0,none⟩)))).cell? ⟨b,4,none⟩=some (.slice (some ⟨g,0,none⟩) 6 cap):=(aW9 _ _ _ _ (by simp)).trans c4
 have HT:=Lib.hid htab
 clear htab
 go_wp2
 go_end0
 exact⟨rfl,w1,hbel,HT.out,rfl⟩
def aEQ(b c:Nat) (w w':World):Prop:=Below b w w'∧w'.cell? ⟨b,3,none⟩=some (ifa c)∧qW c 0 w'∧c<w'.heap.size∧w'.frozen? ⟨b,3,none⟩=false
theorem aER{b:Nat}{w w1:World}{v x:Value}(hb:b<w.heap.size) (h:Below w.heap.size (w.setCell ⟨b,1,none⟩ v) w1) (ht:qW w.heap.size 0 w1) (h3:w1.cell? ⟨b,3,none⟩=some x) (hz:∀o,w1.frozen? ⟨b,o,none⟩=false) :
  aEQ b w.heap.size w ((((w1.setCell ⟨b,3,none⟩ (ifa w.heap.size)).setCell ⟨b,4,none⟩ (.slice none 0 0)).drew.setCell ⟨b,0,none⟩ (.int .u32 1)).setCell ⟨b,1,none⟩ (.int .i32 0)):=by
 have hne:w.heap.size≠b:=by omega
 refine⟨?_,?_,?_,?_,?_⟩
 ·exact((((((Below.refl b w).setCell (p:=⟨b,1,none⟩) (aZ0 _) v).trans (h.mono (Nat.le_of_lt hb))).setCell (p:=⟨b,3,none⟩) (aZ0 _) _).setCell (p:=⟨b,4,none⟩) (aZ0 _) _).drew.setCell (p:=⟨b,0,none⟩) (aZ0 _) _).setCell (p:=⟨b,1,none⟩) (aZ0 _) _
 ·rw[aW9 _ ⟨b,1,none⟩ ⟨b,3,none⟩ _ (by simp),aW9 _ ⟨b,0,none⟩ ⟨b,3,none⟩ _ (by simp),World.cell?_drew,aW9 _ ⟨b,4,none⟩ ⟨b,3,none⟩ _ (by simp)];exact World.cell?_setCell_same _ _ _ h3
 ·exact(qW.of_block (w:=((w1.setCell ⟨b,3,none⟩ (ifa w.heap.size)).setCell ⟨b,4,none⟩ (.slice none 0 0))) ((ht.other (by exact hne) _).other (by exact hne) _) rfl |>.other (by exact hne) _).other (by exact hne) _
 ·obtain⟨cur,q1,_⟩:=ht
  have:=(aW3.1 q1).1
  simpa [World.setCell,World.drew] using this
 ·simp only[aXR,World.frozen?_drew];exact hz 3
set_option maxRecDepth 1000000 in
set_option maxHeartbeats 4000000 in
theorem aES(b g cap:Nat) (x3:Value) (w:World) (hb:b<w.heap.size) (hg:g<w.heap.size) (hgb:g≠b) (hold:w.cell? ⟨b,4,none⟩=some (.slice (some ⟨g,0,none⟩) 6 cap)) (h3:w.cell? ⟨b,3,none⟩=some x3)
  (h0:w.cell? ⟨b,0,none⟩=some (.int .u32 0)) (h1:w.cell? ⟨b,1,none⟩=some (.int .i32 0)) (hz:∀o,w.frozen? ⟨b,o,none⟩=false) (h6:vZ w g) :
  Calls Tryz.prog 313 #[.pointer (some ⟨b,0,none⟩),.func (.func 303) #[.pointer (some ⟨b,0,none⟩)] #[]] w fun e w'=>e=.returned (.tuple #[])∧aEQ b w.heap.size w w':=by
 have HL:=Lib.hid (aBL ⟨b,1,none⟩ w h1 (hz 1))
 have hl:=run_call_load (P:=Tryz.prog) Tryz.func317 (by kernel_rfl) (by kernel_rfl) (by kernel_rfl) .u32 (by kernel_rfl) (w:=w.setCell ⟨b,1,none⟩ (.int .i32 1)) (a:=⟨b,0,none⟩) (x:=0) ((aW9 _ ⟨b,1,none⟩ ⟨b,0,none⟩ _ (by simp)).trans h0)
 have hnot:∀(x:Bool) (w:World),(Op.unary .not (.bool x)).run Tryz.prog w=.ok (.bool (!x)) w:=fun _ _=>rfl
 have hs:(w.setCell ⟨b,1,none⟩ (.int .i32 1)).heap.size=w.heap.size:=by simp[World.setCell]
 have HO:=Lib.hid (aEP b g cap x3 (w.setCell ⟨b,1,none⟩ (.int .i32 1)) (by rw[hs]; exact hb) (by rw[hs]; exact hg) ((aW9 _ ⟨b,1,none⟩ ⟨b,4,none⟩ _ (by simp)).trans hold) ((aW9 _ ⟨b,1,none⟩ ⟨b,3,none⟩ _ (by simp)).trans h3)
  (by rw[aXR]; exact hz 3) (by rw[aXR]; exact hz 4) (h6.other (by exact fun e=>hgb e.symm) _))
 rw[hs] at HO
 have HS:=Lib.hid hs
 have H0:=Lib.hid h0
 have H1:=Lib.hid h1
 have H3:=Lib.hid h3
 have H4:=Lib.hid hold
 have HZ:=Lib.hid hz
 clear hs h0 h1 h3 hold hz h6
 go_enter_defers Tryz.func313,Tryz.ntmps313
 go_wp2_with (go_at_call 318; refine HL.out.mono ?_; rintro e w' ⟨rfl,rfl⟩)
 go_wp2_with (first|(go_at_call 303; refine HO.out.mono ?_; rintro e w' ⟨rfl,w1,hbel,htab,rfl⟩; have HB1:=Lib.hid hbel; have HT:=Lib.hid htab; clear hbel htab)|(go_at_call 312; go_in))
 have hsz:w.heap.size≤w1.heap.size:=by
  have h1:=HB1.out.size
  have h2:=HS.out
  omega
 have hw1:∀o v,o≠1→w.cell? ⟨b,o,none⟩=some v→w1.cell? ⟨b,o,none⟩=some v:=fun o v ho hv =>
  (HB1.out.cell (p:=⟨b,o,none⟩) hb).trans ((aW9 _ ⟨b,1,none⟩ ⟨b,o,none⟩ _ (by simp<;>omega)).trans hv)
 have hw11:w1.cell? ⟨b,1,none⟩=some (.int .i32 1):=(HB1.out.cell (p:=⟨b,1,none⟩) hb).trans (World.cell?_setCell_same w ⟨b,1,none⟩ _ H1.out)
 have hzz:∀o,w1.frozen? ⟨b,o,none⟩=false:=fun o=>(HB1.out.frozen (p:=⟨b,o,none⟩) hb).trans ((aXR _ _ _ _).trans (HZ.out o))
 refine leaves_cons (f:=320) (args:=#[.pointer (some ⟨b,0,none⟩),.bool true]) (by simp) (by simp[go_sem]) ?_;refine(DV ⟨b,0,none⟩ (.int .u32 0) .returning _ ?_ (by simp[hzz])).mono ?_
 ·exact(aW9 _ ⟨b,4,none⟩ ⟨b,0,none⟩ _ (by simp)).trans ((aW9 _ ⟨b,3,none⟩ ⟨b,0,none⟩ _ (by simp)).trans (hw1 0 _ (by decide) H0.out))
 rintro e u' w'' ⟨rfl,rfl,rfl⟩;refine leaves_cons (f:=319) (args:=#[.pointer (some ⟨b,1,none⟩)]) (by simp[settle]) (by simp[go_sem]) ?_;refine(AJ ⟨b,1,none⟩ _ _ ?_ (by simp[hzz])).mono ?_
 ·refine(aW9 _ ⟨b,0,none⟩ ⟨b,1,none⟩ _ (by simp)).trans ?_;rw[World.cell?_drew];exact(aW9 _ ⟨b,4,none⟩ ⟨b,1,none⟩ _ (by simp)).trans ((aW9 _ ⟨b,3,none⟩ ⟨b,1,none⟩ _ (by simp)).trans hw11)
 rintro e u' w'' ⟨rfl,rfl,rfl⟩;simp[Leaves,settle,results,Tryz.results313];exact aER hb HB1.out HT.out (hw1 3 _ (by decide) H3.out) hzz
set_option maxRecDepth 1000000 in
set_option maxHeartbeats 4000000 in
theorem aMV(b g cap:Nat) (x3:Value) (w:World) (hb:b<w.heap.size) (hg:g<w.heap.size) (hgb:g≠b) (hold:w.cell? ⟨b,4,none⟩=some (.slice (some ⟨g,0,none⟩) 6 cap)) (h3:w.cell? ⟨b,3,none⟩=some x3)
  (h0:w.cell? ⟨b,0,none⟩=some (.int .u32 0)) (h1:w.cell? ⟨b,1,none⟩=some (.int .i32 0)) (hz:∀o,w.frozen? ⟨b,o,none⟩=false) (h6:vZ w g) :
  Calls Tryz.prog 302 #[.pointer (some ⟨b,0,none⟩),.func (.func 303) #[.pointer (some ⟨b,0,none⟩)] #[]] w fun e w'=>e=.returned (.tuple #[])∧aEQ b w.heap.size w w':=by
 have HS:=Lib.hid (aES b g cap x3 w hb hg hgb hold h3 h0 h1 hz h6)
 have hl:=run_call_load (P:=Tryz.prog) Tryz.func317 (by kernel_rfl) (by kernel_rfl) (by kernel_rfl) .u32 (by kernel_rfl) h0
 have hnot:∀(x:Bool) (w:World),(Op.unary .not (.bool x)).run Tryz.prog w=.ok (.bool (!x)) w:=fun _ _=>rfl
 clear hold h3 h0 h1 hz h6
 go_enter Tryz.func302,Tryz.ntmps302
 go_wp2_with (first|(go_at_call 313; refine HS.out.mono ?_; rintro e w' ⟨rfl,hbu⟩)|(go_at_call 312; go_in))
 go_end0
 exact⟨rfl,hbu⟩
theorem YP(a:Addr) (w:World):(method 504 347 (.pointer (some a)) "Replace").run Tryz.prog w=.ok (371,.pointer (some a)) w:=by kernel_rfl
set_option maxRecDepth 1000000 in
set_option maxHeartbeats 4000000 in
theorem KS(b g cap:Nat) (x3:Value) (s:ByteArray) (w:World) (hsz:s.size≤4294967281) (hb:b<w.heap.size) (hg:g<w.heap.size) (hgb:g≠b) (hold:w.cell? ⟨b,4,none⟩=some (.slice (some ⟨g,0,none⟩) 6 cap)) (h3:w.cell? ⟨b,3,none⟩=some x3)
  (h0:w.cell? ⟨b,0,none⟩=some (.int .u32 0)) (h1:w.cell? ⟨b,1,none⟩=some (.int .i32 0)) (hz:∀o,w.frozen? ⟨b,o,none⟩=false) (h6:vZ w g) :
  Calls Tryz.prog 291 #[.pointer (some ⟨b,0,none⟩),.string s] w fun e w'=>e=.returned (.string ⟨(s.data.toList.map flatB).toArray⟩)∧Below b w w':=by
 have HS:=Lib.hid (aMV b g cap x3 w hb hg hgb hold h3 h0 h1 hz h6)
 have hmf:∀(fn:Fn) (first cap:Array Value) (w:World),(Instr.makeFunc fn first cap).run Tryz.prog w=.ok (.func fn first cap) w:=fun _ _ _ _=>rfl
 clear hold h3 h0 h1 hz h6
 go_enter Tryz.func291,Tryz.ntmps291
 go_wp2_with fail
 refine HS.out.mono ?_;rintro e w1 ⟨rfl,hbel,hi,htab,hc,hf⟩
 replace hi:w1.cell? ⟨b,3,none⟩=some (.iface 347 (.pointer (some ⟨w.heap.size,0,none⟩))):=hi
 have HR:=Lib.hid (aMT w.heap.size s w1 hc hsz (fun x=>by
  obtain⟨cur,q1,q2,q3⟩:=htab
  have:=q3 x
  simp only[World.cell?,q1]
  simpa [yG] using this))
 have HT:=Lib.hid htab
 clear htab
 have hm:=YP ⟨w.heap.size,0,none⟩ w1
 go_wp2_with (go_at_call 371; refine HR.out.mono ?_; rintro e w' ⟨rfl,hb2⟩)
 go_ret
 exact⟨rfl,hbel.trans (hb2.mono (by have:=hbel.size; omega))⟩
def six:List Value:=[.string ⟨#[9]⟩,.string ⟨#[32]⟩,.string ⟨#[10]⟩,.string ⟨#[32]⟩,.string ⟨#[13]⟩,.string ⟨#[32]⟩]
def aK7(w:World) (b:Nat) (w':World):Prop:=∃g cap,w.heap.size≤b∧b<w'.heap.size∧g<w'.heap.size∧g≠b∧Below w.heap.size w w'∧w'.cell? ⟨b,4,none⟩=some (.slice (some ⟨g,0,none⟩) 6 cap)∧w'.cell? ⟨b,3,none⟩=some .nilIface ∧
 w'.cell? ⟨b,0,none⟩=some (.int .u32 0)∧w'.cell? ⟨b,1,none⟩=some (.int .i32 0)∧(∀o,w'.frozen? ⟨b,o,none⟩=false)∧vZ w' g
def aWG(w:World) (e:Ending) (w':World):Prop:=∃b,e=.returned (.pointer (some ⟨b,0,none⟩))∧aK7 w b w'
theorem aPY:(Tryz.prog.info? 9).map (fun i=>(i.zero,i.size,i.bytes))=some (some (.string .empty),1,16):=by kernel_rfl
theorem aMW{w w1:World}{v:Value}(h:w1.ownsRow w.heap.size 9 1 v 6 six) (hg:w.grownBy w1 none):aK7 w w1.heap.size (w1.alloc (.cells #[.int .u32 0,.int .i32 0,.int .u32 0,.nilIface,v] 323)):=by
 rcases h.2 with⟨_,h0⟩|⟨g,cap,cur,rfl,q1,q2,q3,q4,q5,q6⟩
 ·cases h0
 have hgl:=(aW3.1 q2).1
 refine⟨g,cap,hg.size,by simp,by simp; omega,by omega,?_,?_,?_,?_,?_,?_,?_⟩
 ·exact((Below.refl _ _).grown hg (aZ0 _) (fun k hk=>by cases hk)).alloc hg.size _
 ·rw[aX2 _ _ _ _ rfl]; rfl
 ·rw[aX2 _ _ _ _ rfl]; rfl
 ·rw[aX2 _ _ _ _ rfl]; rfl
 ·rw[aX2 _ _ _ _ rfl]; rfl
 ·intro o;exact World.frozen?_alloc_at _ _ _ _ rfl
 ·intro j u hj;rw[World.cell?_alloc_past _ _ _ hgl]
  have hj6:j<6:=by
   rcases Nat.lt_or_ge j 6 with h|h
   ·exact h
   ·rw[Array.getElem?_eq_none (by simpa using h)] at hj;cases hj
  have:=World.ownsRow.cellAt h j (by simpa using hj6)
  rw[this]
  have e:(#[Value.string ⟨#[9]⟩,.string ⟨#[32]⟩,.string ⟨#[10]⟩,.string ⟨#[32]⟩,.string ⟨#[13]⟩,.string ⟨#[32]⟩]:Array Value)=six.toArray:=rfl
  rw[e] at hj
  simpa using hj
set_option maxRecDepth 1000000 in
set_option maxHeartbeats 4000000 in
theorem aIX(g:Nat) (w:World) (hc:∀j u,six[j]?=some u→w.cell? ((⟨g,0,none⟩:Addr).add j)=some u):Calls Tryz.prog 290 #[.slice (some ⟨g,0,none⟩) 6 6] w (aWG w):=by
 obtain⟨i0,hi,hz0,hz1,hz2⟩:=info_parts aPY
 have HC:=Lib.hid hc
 clear hc
 go_enter Tryz.func290,Tryz.ntmps290
 go_wp2_with (first
   |(at_builtin; refine wpList_append_own _ rfl _ _ 92 rfl w.heap.size 9 i0 (.string .empty) 1 16 Tryz.underlying92 hi hz0 hz1 hz2 rfl (by decide) _ _ _ rfl (World.ownsRow_nil _ _ _ _) ⟨g,0,none⟩ 6 6 six rfl rfl ?c1 ?c2 ?c3 ?c4 ?c5 ?_)
   |go_in)
 case c1=>exact HC.out
 case c2=>intro u hu; simp[six] at hu; rcases hu with rfl|rfl|rfl|rfl|rfl|rfl<;>rfl
 case c3=>unfold maxLen; omega
 case c4=>omega
 case c5=>exact aZ0 _
 ·intro v' w1 hown hgrow _;obtain⟨g2,cap2,rfl⟩:∃g2 cap2,v'=.slice (some ⟨g2,0,none⟩) 6 cap2:=by
   rcases hown.2 with⟨_,h0⟩|⟨g2,cap2,cur,e,_⟩
   ·cases h0
   ·exact⟨g2,cap2,e⟩
  have HO:=Lib.hid hown
  have HG:=Lib.hid hgrow
  clear hown hgrow
  go_wp2
  go_ret
  exact⟨_,rfl,aMW HO.out HG.out⟩
set_option maxRecDepth 1000000 in
set_option maxHeartbeats 4000000 in
theorem aET(s:ByteArray) (w:World) (hs:s.size≤4294967281):Calls Tryz.prog 273 #[.string s] w fun e w'=>e=.returned (.string ⟨(s.data.toList.map flatB).toArray⟩)∧Below w.heap.size w w':=by
 go_enter Tryz.func273,Tryz.ntmps273
 go_wp2_with fail
 have h0:∀j u,six[j]?=some u→(w.alloc (.cells #[.string ⟨#[9]⟩,.string ⟨#[32]⟩,.string ⟨#[10]⟩,.string ⟨#[32]⟩,.string ⟨#[13]⟩,.string ⟨#[32]⟩] 9)).cell? ((⟨w.heap.size,0,none⟩:Addr).add j)=some u:=fun j u hj=>by
  have e:(⟨w.heap.size,0,none⟩:Addr).add j=⟨w.heap.size,j,none⟩:=by simp[Addr.add,eq_comm]
  rw[e,aX2 _ _ _ _ rfl]
  have:(#[Value.string ⟨#[9]⟩,.string ⟨#[32]⟩,.string ⟨#[10]⟩,.string ⟨#[32]⟩,.string ⟨#[13]⟩,.string ⟨#[32]⟩]:Array Value)=six.toArray:=rfl
  rw[this]
  simpa using hj
 have hb0:Below w.heap.size w (w.alloc (.cells #[.string ⟨#[9]⟩,.string ⟨#[32]⟩,.string ⟨#[10]⟩,.string ⟨#[32]⟩,.string ⟨#[13]⟩,.string ⟨#[32]⟩] 9)):=(Below.refl _ _).alloc (aZ0 _) _
 refine(aIX w.heap.size _ h0).mono ?_;rintro e w1 ⟨b,rfl,g,cap,p1,p2,p3,p4,p5,p6,p7,p8,p9,p10,p11⟩
 have HR:=Lib.hid (KS b g cap .nilIface s w1 hs p2 p3 p4 p6 p7 p8 p9 p10 p11)
 have hb1:Below w.heap.size w w1:=hb0.trans (p5.mono (by simp))
 have hbb:w.heap.size≤b:=aZR (by simp) p1
 clear h0 hb0 p1 p2 p3 p4 p5 p6 p7 p8 p9 p10 p11
 go_wp2_with (go_at_call 291; refine HR.out.mono ?_; rintro e w' ⟨rfl,hb2⟩)
 go_ret
 exact⟨rfl,hb1.trans (hb2.mono hbb)⟩
end Go.Mo
end

section
namespace Go.Mo
open Go Go.W Go.Proofs
abbrev zC:Int×Int×Int×Int×Y_×Y_×Bool×Bool:=((0:Int),((0:Int),((0:Int),((0:Int),([],([],(false,false)))))))
abbrev zG:Y_×Int×Int×Int×Int×UInt8×Bool:=([],((0:Int),((0:Int),((0:Int),((0:Int),((0:UInt8),false))))))
abbrev zE:Int×(Int×Int)×Y_×UInt8×Y_×List (List (Y_×(UInt8×Bool×Bool)×Y_)):=((0:Int),(((0:Int),(0:Int)),([],((0:UInt8),([],[])))))
abbrev zU:Y_×(UInt8×Bool×Bool)×Y_:=([],(((0:UInt8),(false,false)),[]))
abbrev zN:Y_×Y_×List (Y_×Y_)×Int:=([],([],([],(0:Int))))
noncomputable section
abbrev Y5:Ty:=.st (.pair (.str) (.pair (.int .i64) (.pair (.int .i64) (.pair (.int .i64) (.pair (.int .i64) (.pair (.u8) (.bool)))))))
abbrev Y4:Ty:=.st (.pair (.str) (.pair (.st (.pair (.u8) (.pair (.bool) (.bool)))) (.str)))
abbrev Y3:Ty:=.pair (.int .i64) (.pair (.st (.pair (.int .i64) (.int .i64))) (.pair (.str) (.pair (.u8) (.pair (.str) (.slice (.st (.slice Y4)))))))
abbrev Y6:Ty:=.st (.pair (.int .i64) (.pair (.int .i64) (.pair (.int .i64) (.pair (.int .i64) (.pair (.str) (.pair (.str) (.pair (.bool) (.bool))))))))
abbrev Y1:Ty:=.st (.pair (.str) (.pair (.str) (.pair (.u8) (.pair (.bool) (.pair (.int .i64) (.pair (.slice Y5) (.pair (.slice (.st Y3)) (.slice Y6))))))))
abbrev Y2:Ty:=.st (.pair (.str) (.pair (.str) (.pair (.slice (.st (.pair (.str) (.str)))) (.int .i64))))
abbrev Y7:Ty:=.st (.pair (.int .i64) (.pair (.str) (.pair (.slice (.st (.pair (.str) (.str)))) (.str))))
abbrev Y8:Ty:=.st (.pair (.int .i64) (.pair (.int .i64) (.int .i64)))
abbrev Y9:Ty:=.st (.pair (.nptr) (.slice (.u8)))
def tt:List (Option Ty):=[none,
 none,
 some (.int .i64),
 some (.int .i64),
 some (.bool),
 some (.u8),
 none,
 none,
 none,
 some (.str),
 none,
 none,
 some (.int .u64),
 none,
 none,
 some (.nptr),
 some (.nptr),
 some (.nptr),
 none,
 none,
 some (.nif),
 some (.int .i32),
 some (.u8),
 some (.slice Y5),
 some (.slice (.st Y3)),
 some (.slice Y6),
 some Y1,
 some Y1,
 none,
 none,
 some (.slice Y2),
 some (.int .i64),
 none,
 none,
 none,
 none,
 none,
 none,
 none,
 none,
 none,
 none,
 none,
 none,
 none,
 some (.slice (.st (.pair (.str) (.str)))),
 some Y2,
 some Y2,
 none,
 some (.st (.pair (.str) (.str))),
 some (.st (.pair (.str) (.str))),
 none,
 none,
 some (.slice Y8),
 none,
 none,
 none,
 some Y8,
 some Y8,
 none,
 none,
 none,
 none,
 some (.st (.pair (.int .i64) (.int .i64))),
 some (.st (.pair (.int .i64) (.int .i64))),
 some (.u8),
 some (.u8),
 some (.st (.pair (.u8) (.pair (.bool) (.bool)))),
 some (.st (.pair (.u8) (.pair (.bool) (.bool)))),
 some Y4,
 some Y4,
 some (.slice Y4),
 some (.st (.slice Y4)),
 some (.st (.slice Y4)),
 some (.slice (.st (.slice Y4))),
 some (.st Y3),
 some (.st Y3),
 some (.slice Y2),
 none,
 none,
 none,
 none,
 some (.u8),
 some Y5,
 some Y5,
 some (.arr 3 (.str)),
 none,
 none,
 some (.arr 7 (.str)),
 none,
 none,
 none,
 some (.slice (.str)),
 none,
 none,
 none,
 none,
 some (.st (.pair (.str) (.pair (.str) (.pair (.u8) (.pair (.bool) (.int .i64)))))),
 some (.st (.pair (.str) (.pair (.str) (.pair (.u8) (.pair (.bool) (.int .i64)))))),
 none,
 none,
 none,
 none,
 none,
 some Y6,
 some Y6,
 none,
 none,
 none,
 none,
 some (.nptr),
 none,
 some (.nptr),
 some (.st (.pair Y2 (.int .i64))),
 some (.st (.pair Y2 (.int .i64))),
 none,
 some (.nptr),
 some (.nptr),
 none,
 some (.slice (.slice (.st (.pair (.str) (.str))))),
 none,
 none,
 none,
 none,
 none,
 none,
 none,
 none,
 some (.nptr),
 some (.slice (.u8)),
 some Y9,
 some Y9,
 some (.nif),
 some (.nif),
 none,
 none,
 none,
 none,
 some (.nptr),
 some (.st (.pair (.str) (.pair (.int .i64) (.pair (.int .i64) (.bool))))),
 some (.st (.pair (.str) (.pair (.int .i64) (.pair (.int .i64) (.bool))))),
 none,
 none,
 none,
 none,
 none,
 some (.int .u64),
 none,
 none,
 none,
 none,
 none,
 none,
 none,
 none,
 none,
 none,
 none,
 some (.nptr),
 some (.st (.pair Y2 (.int .i64))),
 some (.st (.pair Y2 (.int .i64))),
 none,
 none,
 none,
 none,
 none,
 none,
 none,
 none,
 none,
 none,
 none,
 some (.nptr),
 some (.st (.pair (.slice Y2) (.pair (.slice (.str)) (.bool)))),
 some (.st (.pair (.slice Y2) (.pair (.slice (.str)) (.bool)))),
 some Y7,
 some Y7,
 none,
 none,
 none,
 some (.nptr),
 some (.st (.pair (.slice Y2) (.pair (.slice (.str)) (.pair (.bool) (.bool))))),
 some (.st (.pair (.slice Y2) (.pair (.slice (.str)) (.pair (.bool) (.bool))))),
 some (.st (.pair (.int .i64) (.pair (.int .i64) (.pair (.str) (.slice (.st (.pair (.str) (.str)))))))),
 some (.st (.pair (.int .i64) (.pair (.int .i64) (.pair (.str) (.slice (.st (.pair (.str) (.str)))))))),
 none,
 none,
 none,
 none,
 none,
 none,
 none,
 none,
 some (.slice Y8),
 none,
 none,
 some (.slice (.int .i64)),
 none,
 none,
 none,
 none,
 some (.arr 2 (.str)),
 some (.arr 5 (.arr 2 (.str))),
 none,
 some (.nptr),
 some (.arr 8 (.st (.pair (.str) (.pair (.int .i64) (.pair (.int .i64) (.bool)))))),
 none,
 none,
 none,
 none,
 none,
 none,
 none,
 none,
 some (.slice (.u8)),
 none,
 none,
 none,
 none,
 none,
 none,
 none,
 none,
 none,
 none,
 some (.arr 2 (.arr 2 (.str))),
 none,
 none,
 none,
 none,
 none,
 none,
 none,
 none,
 none,
 none,
 none,
 some Y8,
 some Y8,
 none,
 none,
 none,
 none,
 none,
 some (.arr 24 (.u8)),
 none,
 none,
 none,
 none,
 none,
 none,
 none,
 none,
 none,
 none,
 none,
 none,
 none,
 none,
 none,
 none,
 some (.arr 256 (.u8)),
 some (.st (.pair (.u8) (.u8))),
 some (.st (.pair (.u8) (.u8))),
 some (.arr 16 (.st (.pair (.u8) (.u8)))),
 some (.int .u64),
 none,
 none,
 none,
 none,
 none,
 none,
 none,
 some (.arr 20 (.int .u64)),
 some (.int .u32),
 some (.arr 65 (.u8)),
 none,
 none,
 some (.slice (.int .i32)),
 none,
 none,
 none,
 none,
 none,
 none,
 some (.arr 256 (.bool)),
 some (.arr 256 (.bool)),
 none,
 none,
 none,
 some (.nptr),
 none,
 none,
 none,
 none,
 none,
 none,
 some (.nptr),
 none,
 none,
 some (.arr 32 (.u8)),
 some (.arr 64 (.u8)),
 some (.int .i64),
 none,
 none,
 some (.nptr),
 none,
 none,
 none,
 none,
 none,
 none,
 none,
 none,
 some (.st (.pair (.int .i32) (.int .u32))),
 some (.st (.pair (.int .i32) (.int .u32))),
 none,
 none,
 none,
 none,
 some (.nif),
 some (.nif),
 none,
 none,
 none,
 none,
 none,
 none,
 some (.st (.pair (.str) (.pair (.str) (.nif)))),
 some (.st (.pair (.str) (.pair (.str) (.nif)))),
 none,
 none,
 some (.nptr),
 none,
 none,
 some (.nptr),
 some (.st (.str)),
 some (.st (.str)),
 some (.nptr),
 none,
 some (.nptr),
 none,
 some (.nptr),
 none,
 some (.nptr),
 none,
 some (.arr 256 (.u8)),
 some (.nptr),
 some (.arr 256 (.slice (.u8))),
 some (.st (.pair (.arr 256 (.slice (.u8))) (.slice (.str)))),
 some (.st (.pair (.arr 256 (.slice (.u8))) (.slice (.str)))),
 some (.nptr),
 some (.nptr),
 none,
 none,
 some (.nptr),
 none,
 some (.st (.pair (.nptr) (.str))),
 some (.st (.pair (.nptr) (.str))),
 some (.nptr),
 some (.slice (.nptr)),
 some (.st (.pair (.str) (.pair (.int .i64) (.pair (.str) (.pair (.nptr) (.slice (.nptr))))))),
 some (.st (.pair (.str) (.pair (.int .i64) (.pair (.str) (.pair (.nptr) (.slice (.nptr))))))),
 some (.st (.pair (.st (.pair (.str) (.pair (.int .i64) (.pair (.str) (.pair (.nptr) (.slice (.nptr))))))) (.pair (.int .i64) (.arr 256 (.u8))))),
 some (.st (.pair (.st (.pair (.str) (.pair (.int .i64) (.pair (.str) (.pair (.nptr) (.slice (.nptr))))))) (.pair (.int .i64) (.arr 256 (.u8))))),
 none,
 some (.nptr),
 none,
 some (.nptr),
 none,
 none,
 none,
 some (.arr 256 (.int .i64)),
 some (.st (.pair (.str) (.pair (.arr 256 (.int .i64)) (.slice (.int .i64))))),
 some (.st (.pair (.str) (.pair (.arr 256 (.int .i64)) (.slice (.int .i64))))),
 none,
 none,
 none,
 none,
 none,
 none,
 none,
 none,
 none,
 none,
 none,
 none,
 none,
 none,
 none,
 none,
 some (.slice (.u8)),
 some (.nptr),
 some (.nif),
 some (.nif),
 some (.nif),
 some (.nif),
 none,
 none,
 none,
 none,
 some (.st (.nif)),
 some (.st (.nif)),
 none]
def gl0:List Y_:=[[76,69,70,84],[67,69,78,84,69,82],[82,73,71,72,84]]
def gl1:List Y_:=[[119,104,105,116,101],[103,114,101,101,110],[98,108,117,101],[99,121,97,110],[114,101,100],[121,101,108,108,111,119],[109,97,103,101,110,116,97]]
def gl2:List (List Y_):=[[[38,97,109,112,59],[38]],[[38,108,116,59],[60]],[[38,103,116,59],[62]],[[38,113,117,111,116,59],[34]],[[38,97,112,111,115,59],[39]]]
def gl3:Y_:=Go.Pinned.utf8FirstZ.map fun n=>UInt8.ofNat n
def gl4:List (UInt8×UInt8):=[(128,191),(160,191),(128,159),(144,191),(128,143),(0,0),(0,0),(0,0),(0,0),(0,0),(0,0),(0,0),(0,0),(0,0),(0,0),(0,0)]
def gl5:List Int:=[1,10,100,1000,10000,100000,1000000,10000000,100000000,1000000000,10000000000,100000000000,1000000000000,10000000000000,100000000000000,1000000000000000,10000000000000000,100000000000000000,1000000000000000000,10000000000000000000]
noncomputable def E:Env:=⟨Tryz.prog,tt,[(0,⟨.arr 3 (.str),gl0⟩),(1,⟨.arr 7 (.str),gl1⟩),(2,⟨.arr 5 (.arr 2 (.str)),gl2⟩),(3,⟨.arr 256 (.u8),gl3⟩),(4,⟨.arr 16 (.st (.pair (.u8) (.u8))),gl4⟩),(5,⟨.arr 20 (.int .u64),gl5⟩)],some 293,some (82,131),[6],[9,10],[]⟩
set_option maxRecDepth 100000 in
theorem chk:qE E 0 E.ty=true:=by kernel_rfl
def ops:List Ty:=[.st Y3,.st (.slice Y4)]
set_option maxRecDepth 100000 in
theorem aAR:qE (E.wop ops) 0 E.ty=true:=by kernel_rfl
theorem mixed:E.P.follows .mixedOrders=true:=by kernel_rfl
end
end Go.Mo
end

section
namespace Go.Mo
open Go Go.W
noncomputable section
abbrev D6:=Y_×Y_
abbrev D1:=Y_×Y_×(List D6)×Int
abbrev D5:=Y_×(UInt8×Bool×Bool)×Y_
abbrev D2:=Int×(Int×Int)×Y_×UInt8×Y_×List (List D5)
abbrev D3:=Int×Int×Int×Int×Y_×Y_×Bool×Bool
abbrev D4:=Y_×Int×Int×Int×Int×UInt8×Bool
abbrev D7:=Y_×Y_×UInt8×Bool×Int×(List D4)×(List D2)×List D3
def gP:List PK:=[.k (.v (.str) [])]
def gQ:List Kd:=[.v (.bool) []]
def utf8_ValidString(N:Nat) (x:Y_):Option (Bool):=jG N x
def YQ:List PK:=[.k (.v (.str) []),.k (.v (.int .i32) [])]
def YR:List Kd:=[.v (.int .i64) []]
def q11(N:Nat) (x:Y_×Int):Option (Int) :=
 jn (fun (v0:Unit) =>
  some (-1))
 fun v1 =>
 bG (fun v2 (v3:Int×Y_×Int) =>
  cnd (nlt (toN v3.2.2) (kN v3.2.1))
   (cnd (ieq (xD v3.2.1 (toN v3.2.2)) x.2)
    (some v3.1)
    (v2 (w64 (aE v3.1 1),v3.2.1,ofN (nN (toN v3.2.2) (xE v3.2.1 (toN v3.2.2))))))
   (v1 ())) N (0,x.1,ofN 0)
def KT:List PK:=[.k (.v (.int .i32) [])]
def KU:List Kd:=[.v (.int .i64) []]
def q12(N:Nat) (x:Int):Option (Int) :=
 cnd (ile 32 x)
  (cnd (ile x 126)
   (some (w64 (wr .i32 (aJ x 32))))
   (bnd (q11 N (([32,33,34,35,36,37,38,39,40,41,42,43,44,45,46,47,48,49,50,51,52,53,54,55,56,57,58,59,60,61,62,63,64,65,66,67,68,69,70,71,72,73,74,75,76,77,78,79,80,81,82,83,84,85,86,87,88,89,90,91,92,93,94,95,96,97,98,99,100,101,102,103,104,105,106,107,108,109,110,111,112,113,114,115,116,117,118,119,120,121,122,123,124,125,126,194,161,194,162,194,163,194,164,194,165,194,166,194,167,194,169,194,171,194,174,194,176,194,183,194,187,194,189,194,191,195,128,195,129,195,130,195,131,195,132,195,133,195,134,195,135,195,136,195,137,195,138,195,139,195,140,195,141,195,142,195,143,195,145,195,146,195,147,195,148,195,149,195,150,195,152,195,153,195,154,195,155,195,156,195,159,195,160,195,161,195,162,195,163,195,164,195,165,195,166,195,167,195,168,195,169,195,170,195,171,195,172,195,173,195,174,195,175,195,177,195,178,195,179,195,180,195,181,195,182,195,184,195,185,195,186,195,187,195,188,197,146,197,147,226,128,148,226,128,152,226,128,153,226,128,156,226,128,157,226,128,162,226,128,166,226,132,162,226,153,170]:Y_),x)) fun v0 =>
   some v0))
  (bnd (q11 N (([32,33,34,35,36,37,38,39,40,41,42,43,44,45,46,47,48,49,50,51,52,53,54,55,56,57,58,59,60,61,62,63,64,65,66,67,68,69,70,71,72,73,74,75,76,77,78,79,80,81,82,83,84,85,86,87,88,89,90,91,92,93,94,95,96,97,98,99,100,101,102,103,104,105,106,107,108,109,110,111,112,113,114,115,116,117,118,119,120,121,122,123,124,125,126,194,161,194,162,194,163,194,164,194,165,194,166,194,167,194,169,194,171,194,174,194,176,194,183,194,187,194,189,194,191,195,128,195,129,195,130,195,131,195,132,195,133,195,134,195,135,195,136,195,137,195,138,195,139,195,140,195,141,195,142,195,143,195,145,195,146,195,147,195,148,195,149,195,150,195,152,195,153,195,154,195,155,195,156,195,159,195,160,195,161,195,162,195,163,195,164,195,165,195,166,195,167,195,168,195,169,195,170,195,171,195,172,195,173,195,174,195,175,195,177,195,178,195,179,195,180,195,181,195,182,195,184,195,185,195,186,195,187,195,188,197,146,197,147,226,128,148,226,128,152,226,128,153,226,128,156,226,128,157,226,128,162,226,128,166,226,132,162,226,153,170]:Y_),x)) fun v1 =>
  some v1)
def oZ:List PK:=[.k (.v (.str) [])]
def pA:List Kd:=[.v (.bool) []]
def q13(N:Nat) (x:Y_):Option (Bool) :=
 bnd (utf8_ValidString N x) fun v0 =>
 cnd (bP v0)
  (some false)
  (jn (fun (v1:Unit) =>
   some true)
  fun v2 =>
  bG (fun v3 (v4:Y_×Int) =>
   cnd (nlt (toN v4.2) (kN v4.1))
    (bnd (q12 N (xD v4.1 (toN v4.2))) fun v5 =>
    cnd (ilt v5 0)
     (some false)
     (v3 (v4.1,ofN (nN (toN v4.2) (xE v4.1 (toN v4.2))))))
    (v2 ())) N (x,ofN 0))
def yI:List PK:=[.k (.v (.str) [])]
def yJ:List Kd:=[.v (.bool) []]
def q14(N:Nat) (x:Y_):Option (Bool) :=
 cnd (ilt (len x) 1)
  (some false)
  (cnd (ilt 16 (len x))
   (some false)
   (grd (inb 0 (len x))
    (cnd (ilt (n8 (aA x (toN 0) 0)) (n8 65))
     (some false)
     (grd (inb 0 (len x))
      (cnd (ilt (n8 90) (n8 (aA x (toN 0) 0)))
       (some false)
       (jn (fun (v0:Unit) =>
        some true)
       fun v1 =>
       bG (fun v2 (v3:Int) =>
        cnd (ilt v3 (len x))
         (jn (fun (v4:Unit) =>
          v2 (w64 (aE v3 1)))
         fun v5 =>
         grd (inb v3 (len x)) <|
         cnd (ilt (n8 (aA x (toN v3) 0)) (n8 65))
          (cnd (ilt (n8 (aA x (toN v3) 0)) (n8 48))
           (cnd (ine (n8 (aA x (toN v3) 0)) (n8 95))
            (cnd (ine (n8 (aA x (toN v3) 0)) (n8 45))
             (some false)
             (v5 ()))
            (v5 ()))
           (cnd (ilt (n8 57) (n8 (aA x (toN v3) 0)))
            (cnd (ine (n8 (aA x (toN v3) 0)) (n8 95))
             (cnd (ine (n8 (aA x (toN v3) 0)) (n8 45))
              (some false)
              (v5 ()))
             (v5 ()))
            (v5 ())))
          (cnd (ilt (n8 90) (n8 (aA x (toN v3) 0)))
           (cnd (ilt (n8 (aA x (toN v3) 0)) (n8 48))
            (cnd (ine (n8 (aA x (toN v3) 0)) (n8 95))
             (cnd (ine (n8 (aA x (toN v3) 0)) (n8 45))
              (some false)
              (v5 ()))
             (v5 ()))
            (cnd (ilt (n8 57) (n8 (aA x (toN v3) 0)))
             (cnd (ine (n8 (aA x (toN v3) 0)) (n8 95))
              (cnd (ine (n8 (aA x (toN v3) 0)) (n8 45))
               (some false)
               (v5 ()))
              (v5 ()))
             (v5 ())))
           (v5 ())))
         (v1 ())) N 0))))))
def DW:List PK:=[.k (.v (.u8) [])]
def DX:List Kd:=[.v (.st (.pair (.str) (.pair (.int .i64) (.pair (.int .i64) (.bool))))) []]
def q15(N:Nat) (x:UInt8):Option (Y_×Int×Int×Bool) :=
 grd (ieq (len (aI 8 (([]:Y_),0,0,false))) (ofN 8)) <|
 cnd (ile 8 (w64 (n8 x)))
  (some (([]:Y_),0,0,false))
  (grd (inb (n8 x) (ofN 8))
   (grd (ilt (n8 x) (len ([(([]:Y_),0,0,false),(([50,51,46,57,55,54]:Y_),5005,24,false),(([50,52]:Y_),5000,24,false),(([50,53]:Y_),4800,25,false),(([50,57,46,57,55]:Y_),4004,30,true),(([51,48]:Y_),4000,30,false),(([53,48]:Y_),2400,50,false),(([53,57,46,57,52]:Y_),2002,60,true)]:List (Y_×Int×Int×Bool))))
    (some (aA ([(([]:Y_),0,0,false),(([50,51,46,57,55,54]:Y_),5005,24,false),(([50,52]:Y_),5000,24,false),(([50,53]:Y_),4800,25,false),(([50,57,46,57,55]:Y_),4004,30,true),(([51,48]:Y_),4000,30,false),(([53,48]:Y_),2400,50,false),(([53,57,46,57,52]:Y_),2002,60,true)]:List (Y_×Int×Int×Bool)) (toN (n8 x)) ([],(0,(0,false)))))))
def YS:List PK:=[.k (.v (.u8) [])]
def YT:List Kd:=[.v (.bool) []]
def q16(N:Nat) (x:UInt8):Option (Bool) :=
 bnd (q15 N x) fun v0 =>
 some (ilt 0 v0.2.1)
def YU:List PK:=[.k (.v (.u8) [])]
def YV:List Kd:=[.v (.bool) []]
def q17(N:Nat) (x:UInt8):Option (Bool) :=
 bnd (q15 N x) fun v0 =>
 some v0.2.2.2
def YW:List PK:=[.k (.v (.u8) []),.k (.v (.bool) [])]
def YX:List Kd:=[.v (.int .i64) []]
def q18(N:Nat) (x:UInt8×Bool):Option (Int) :=
 bnd (q16 N x.1) fun v0 =>
 cnd (bP v0)
  (some 13)
  (cnd x.2
   (bnd (q17 N x.1) fun v1 =>
   cnd (bP v1)
    (some 13)
    (some 0))
   (some 0))
def YY:List PK:=[.k (.v Y1 [])]
def YZ:List Kd:=[.v (.int .i64) []]
def q19(N:Nat) (x:D7):Option (Int) :=
 jn (fun (v0:Unit) =>
  bnd (q18 N (x.2.2.1,x.2.2.2.1)) fun v1 =>
  cnd (ine v1 0)
   (some v1)
   (cnd (ilt x.2.2.2.2.1 0)
    (some 2)
    (cnd (ilt 1099511627776 x.2.2.2.2.1)
     (some 2)
     (some 0))))
 fun v2 =>
 bnd (q13 N x.1) fun v3 =>
 cnd (bP v3)
  (some 10)
  (cnd (ilt 400 (len x.1))
   (some 9)
   (cnd (sne x.2.1 ([]:Y_))
    (bnd (q14 N x.2.1) fun v4 =>
    cnd (bP v4)
     (some 5)
     (v2 ()))
    (v2 ())))
def ZA:List PK:=[.k (.v (.int .i64) []),.k (.v (.int .i64) []),.k (.v (.int .i64) [])]
def ZB:List Kd:=[.v (.bool) []]
def q20(N:Nat) (x:Int×Int×Int):Option (Bool) :=
 cnd (ile x.2.1 x.1)
  (some (ile x.1 x.2.2))
  (some false)
def KV:List PK:=[.k (.v Y5 [])]
def KW:List Kd:=[.v (.int .i64) []]
def q21(N:Nat) (x:D4):Option (Int) :=
 bnd (q14 N x.1) fun v0 =>
 cnd (bP v0)
  (some 5)
  (bnd (q20 N (x.2.1,0,14)) fun v1 =>
  cnd (bP v1)
   (some 2)
   (bnd (q20 N (x.2.2.1,1,w64 (aJ 15 x.2.1))) fun v2 =>
   cnd (bP v2)
    (some 2)
    (bnd (q20 N (x.2.2.2.1,0,31)) fun v3 =>
    cnd (bP v3)
     (some 2)
     (bnd (q20 N (x.2.2.2.2.1,1,w64 (aJ 32 x.2.2.2.1))) fun v4 =>
     cnd (bP v4)
      (some 2)
      (cnd (ilt (n8 x.2.2.2.2.2.1) (n8 1))
       (some 3)
       (cnd (ilt (n8 3) (n8 x.2.2.2.2.2.1))
        (some 3)
        (some 0)))))))
def ZC:List PK:=[.k (.v (.slice Y5) [])]
def ZD:List Kd:=[.v (.int .i64) []]
def q22(N:Nat) (x:List D4):Option (Int) :=
 cnd (ilt 16 (len x))
  (some 9)
  (jn (fun (v0:Unit) =>
   some 0)
  fun v1 =>
  bG (fun v2 (v3:Int) =>
   cnd (ilt v3 (len x))
    (grd (inb v3 (len x))
     (bnd (q21 N (aA x (toN v3) zG)) fun v4 =>
     cnd (ine v4 0)
      (some v4)
      (jn (fun (v5:Unit) =>
       cnd (ilt 0 v3)
        (grd (inb (w64 (aJ v3 1)) (len x))
         (cnd (slt (aA x (toN v3) zG).1 (aA x (toN (w64 (aJ v3 1))) zG).1)
          (some 8)
          (v2 (w64 (aE v3 1)))))
        (v2 (w64 (aE v3 1))))
      fun v6 =>
      cnd (ilt 0 v3)
       (grd (inb (w64 (aJ v3 1)) (len x))
        (cnd (seq (aA x (toN v3) zG).1 (aA x (toN (w64 (aJ v3 1))) zG).1)
         (some 7)
         (v6 ())))
       (v6 ()))))
    (v1 ())) N 0)
def KX:List PK:=[]
def KY:List Kd:=[.v Y5 []]
def q23(N:Nat) (x:Unit):Option D4 :=
 some (([]:Y_),11,4,0,32,2,true)
def ZE:List PK:=[.k (.v (.slice Y5) []),.k (.v (.str) [])]
def ZF:List Kd:=[.v Y5 [],.v (.bool) []]
def q24(N:Nat) (x:(List D4)×Y_):Option (D4×Bool) :=
 cnd (seq x.2 ([]:Y_))
  (bnd (q23 N ()) fun v0 =>
  some (v0,true))
  (jn (fun (v1:Unit) =>
   some ((([]:Y_),0,0,0,0,0,false),false))
  fun v2 =>
  bG (fun v3 (v4:Int) =>
   cnd (ilt v4 (len x.1))
    (grd (inb v4 (len x.1))
     (cnd (seq (aA x.1 (toN v4) zG).1 x.2)
      (some (aA x.1 (toN v4) zG,true))
      (v3 (w64 (aE v4 1)))))
    (v2 ())) N 0)
def ZG:List PK:=[.k (.v (.st (.pair (.int .i64) (.int .i64))) [])]
def ZH:List Kd:=[.v (.bool) []]
def q25(N:Nat) (x:Int×Int):Option (Bool) :=
 cnd (ile 0 x.1)
  (cnd (ilt x.1 x.2)
   (some (ile x.2 5184000))
   (some false))
  (some false)
def KZ:List PK:=[]
def LA:List Kd:=[.v (.slice (.str)) [0]]
def q26(N:Nat) (x:Unit):Option (List Y_) :=
 some ([([68,73,65,76,79,71,85,69]:Y_),([83,79,85,78,68]:Y_),([84,73,84,76,69]:Y_),([77,85,83,73,67]:Y_)]:List Y_)
def LB:List PK:=[.k (.v (.u8) [])]
def LC:List Kd:=[.v (.str) []]
def q27(N:Nat) (x:UInt8):Option Y_ :=
 cnd (ilt (n8 x) (n8 1))
  (some ([]:Y_))
  (cnd (ilt (n8 4) (n8 x))
   (some ([]:Y_))
   (bnd (q26 N ()) fun v0 =>
   grd (inb (n8 (b8 (aJ (n8 x) (n8 1)))) (len v0)) <|
   some (aA v0 (toN (n8 (b8 (aJ (n8 x) (n8 1))))) [])))
def ZI:List PK:=[.k (.v (.st (.pair (.u8) (.pair (.bool) (.bool)))) [])]
def ZJ:List Kd:=[.v (.bool) []]
def q28(N:Nat) (x:UInt8×Bool×Bool):Option (Bool) :=
 some (ile (n8 x.1) (n8 6))
def ZK:List PK:=[.k (.v Y4 []),.k (.v Y4 [])]
def ZL:List Kd:=[.v (.bool) []]
def q29(N:Nat) (x:D5×Y_×(UInt8×Bool×Bool)×Y_):Option (Bool) :=
 cnd (dT (ieq (n8 x.1.2.1.1) (n8 x.2.2.1.1)) (dT (pX x.1.2.1.2.1 x.2.2.1.2.1) (pX x.1.2.1.2.2 x.2.2.1.2.2)))
  (cnd (seq x.1.2.2 ([]:Y_))
   (some (seq x.2.2.2 ([]:Y_)))
   (some false))
  (some false)
def ZM:List PK:=[.k (.v (.st (.slice Y4)) [])]
def ZN:List Kd:=[.v (.int .i64) []]
def q30(N:Nat) (x:List D5):Option (Int) :=
 cnd (ilt 16 (len x))
  (some 9)
  (jn (fun (v0:Unit) =>
   some 0)
  fun v1 =>
  bG (fun v2 (v3:Int) =>
   cnd (ilt v3 (len x))
    (grd (inb v3 (len x))
     (bnd (q13 N (aA x (toN v3) zU).1) fun v4 =>
     cnd (bP v4)
      (some 10)
      (cnd (seq (aA x (toN v3) zU).1 ([]:Y_))
       (some 4)
       (bnd (q28 N (aA x (toN v3) zU).2.1) fun v5 =>
       cnd (bP v5)
        (some 12)
        (bnd (q13 N (aA x (toN v3) zU).2.2) fun v6 =>
        cnd (bP v6)
         (some 10)
         (cnd (ilt 0 v3)
          (grd (inb (w64 (aJ v3 1)) (len x))
           (bnd (q29 N (aA x (toN (w64 (aJ v3 1))) zU,aA x (toN v3) zU)) fun v7 =>
           cnd v7
            (some 8)
            (v2 (w64 (aE v3 1)))))
          (v2 (w64 (aE v3 1)))))))))
    (v1 ())) N 0)
def cF:List PK:=[.k (.b 131 Y9 [1])]
def cG:List Kd:=[]
def bJ(N:Nat) (x:Unit×Y_):Option (Unit×Y_):=cB N x
def DY:List PK:=[.k (.b 131 Y9 [1]),.k (.v (.str) [])]
def DZ:List Kd:=[.v (.int .i64) [],.v (.nif) []]
def q31(N:Nat) (x:(Unit×Y_)×Y_):Option (Int×Bool×Unit×Y_) :=
 bnd (bJ N ((),x.1.2)) fun v0 =>
 grd (dV (aE (len v0.2) (len x.2)) 1) <|
 some (len x.2,false,(),bH v0.2 x.2)
def ZO:List PK:=[.k (.v (.st (.slice Y4)) [])]
def ZP:List Kd:=[.v (.str) []]
def q32(N:Nat) (x:List D5):Option Y_ :=
 jn (fun (v0:Unit×Y_) =>
  some v0.2)
 fun v1 =>
 bG (fun v2 (v3:Int×Unit×Y_) =>
  cnd (ilt v3.1 (len x))
   (grd (inb v3.1 (len x))
    (bnd (q31 N (((),v3.2.2),(aA x (toN v3.1) zU).1)) fun v4 =>
    v2 (w64 (aE v3.1 1),(),v4.2.2.2)))
   (v1 ((),v3.2.2))) N (0,(),([]:Y_))
def eH:List PK:=[.k (.v (.str) []),.k (.v (.str) [])]
def eI:List Kd:=[.v (.bool) []]
def strings_Contains(N:Nat) (x:Y_×Y_):Option (Bool):=fI N x
def LD:List PK:=[.k (.v (.str) [])]
def LE:List Kd:=[.v (.int .i64) []]
def q33(N:Nat) (x:Y_):Option (Int) :=
 jn (fun (v0:Int) =>
  some v0)
 fun v1 =>
 bG (fun v2 (v3:Int×Y_×Int) =>
  cnd (nlt (toN v3.2.2) (kN v3.2.1))
   (v2 (w64 (aE v3.1 1),v3.2.1,ofN (nN (toN v3.2.2) (xE v3.2.1 (toN v3.2.2)))))
   (v1 v3.1)) N (0,x,ofN 0)
def ZQ:List PK:=[.k (.v (.str) [])]
def ZR:List Kd:=[.v (.int .i64) []]
def q34(N:Nat) (x:Y_):Option (Int) :=
 bnd (q13 N x) fun v0 =>
 cnd (bP v0)
  (some (-1))
  (bnd (q33 N x) fun v1 =>
  some v1)
def LF:List PK:=[.k (.v (.st (.slice Y4)) [])]
def LG:List Kd:=[.v (.int .i64) []]
def q35(N:Nat) (x:List D5):Option (Int) :=
 jn (fun (v0:Int) =>
  some v0)
 fun v1 =>
 bG (fun v2 (v3:Int×Int) =>
  cnd (ilt v3.2 (len x))
   (grd (inb v3.2 (len x))
    (bnd (q34 N (aA x (toN v3.2) zU).1) fun v4 =>
    cnd (ilt v4 0)
     (some (-1))
     (v2 (w64 (aE v3.1 v4),w64 (aE v3.2 1)))))
   (v1 v3.1)) N (0,0)
def ZS:List PK:=[.k (.v (.st (.slice Y4)) [])]
def ZT:List Kd:=[.v (.int .i64) []]
def q36(N:Nat) (x:List D5):Option (Int) :=
 bnd (q30 N x) fun v0 =>
 cnd (ine v0 0)
  (some v0)
  (bnd (q32 N x) fun v1 =>
  cnd (seq v1 ([]:Y_))
   (some 4)
   (grd (inb 0 (len v1))
    (cnd (ieq (n8 (aA v1 (toN 0) 0)) (n8 32))
     (some 4)
     (grd (inb (w64 (aJ (len v1) 1)) (len v1))
      (cnd (ieq (n8 (aA v1 (toN (w64 (aJ (len v1) 1))) 0)) (n8 32))
       (some 4)
       (bnd (strings_Contains N (v1,([32,32]:Y_))) fun v2 =>
       cnd v2
        (some 4)
        (bnd (q35 N x) fun v3 =>
        cnd (ilt 32 v3)
         (some 11)
         (some 0))))))))
def LH:List PK:=[.k (.v (.st Y3) [])]
def LI:List Kd:=[.v (.slice (.int .i64)) [0]]
def q37(N:Nat) (x:D2):Option (List Int) :=
 jn (fun (v0:List Int) =>
  some v0)
 fun v1 =>
 bG (fun v2 (v3:(List Int)×Int) =>
  cnd (ilt v3.2 (len x.2.2.2.2.2))
   (grd (inb v3.2 (len x.2.2.2.2.2))
    (bnd (q35 N (aA x.2.2.2.2.2 (toN v3.2) [])) fun v4 =>
    grd (dV (aE (len v3.1) (len ([v4]:List Int))) 8) <|
    v2 (bH v3.1 ([v4]:List Int),w64 (aE v3.2 1))))
   (v1 v3.1)) N (([]:List Int),0)
def ZU:List PK:=[.k (.v Y5 [])]
def ZV:List Kd:=[.v (.bool) []]
def q38(N:Nat) (x:D4):Option (Bool) :=
 bnd (q23 N ()) fun v0 =>
 cnd (dT (seq x.1 v0.1) (dT (ieq x.2.1 v0.2.1) (dT (ieq x.2.2.1 v0.2.2.1) (dT (ieq x.2.2.2.1 v0.2.2.2.1) (dT (ieq x.2.2.2.2.1 v0.2.2.2.2.1) (dT (ieq (n8 x.2.2.2.2.2.1) (n8 v0.2.2.2.2.2.1)) (pX x.2.2.2.2.2.2 v0.2.2.2.2.2.2)))))))
  (some true)
  (bnd (q21 N x) fun v1 =>
  some (ieq v1 0))
def ZW:List PK:=[.k (.v Y5 []),.k (.v (.slice (.int .i64)) [])]
def ZX:List Kd:=[.v (.slice Y8) [0],.v (.int .i64) []]
def q39(N:Nat) (x:D4×List Int):Option ((List (Int×Int×Int))×Int) :=
 bnd (q38 N x.1) fun v0 =>
 cnd (bP v0)
  (some (([]:List (Int×Int×Int)),1))
  (cnd (ilt x.1.2.2.1 (len x.2))
   (some (([]:List (Int×Int×Int)),9))
   (jn (fun (v1:Int) =>
    jn (fun (v2:List (Int×Int×Int)) =>
     some (v2,0))
    fun v3 =>
    bG (fun v4 (v5:(List (Int×Int×Int))×Int) =>
     cnd (ilt v5.2 (len x.2))
      (grd (inb v5.2 (len x.2))
       (cnd (ilt (aA x.2 (toN v5.2) 0) 0)
        (some (([]:List (Int×Int×Int)),2))
        (cnd (ilt x.1.2.2.2.2.1 (aA x.2 (toN v5.2) 0))
         (some (([]:List (Int×Int×Int)),11))
         (cnd (ieq (n8 x.1.2.2.2.2.2.1) (n8 3))
          (grd (dV (aE (len v5.1) (len ([(w64 (aE v1 v5.2),w64 (aE x.1.2.2.2.1 (w64 (aJ x.1.2.2.2.2.1 (aA x.2 (toN v5.2) 0)))),aA x.2 (toN v5.2) 0)]:List (Int×Int×Int)))) 24)
           (v4 (bH v5.1 ([(w64 (aE v1 v5.2),w64 (aE x.1.2.2.2.1 (w64 (aJ x.1.2.2.2.2.1 (aA x.2 (toN v5.2) 0)))),aA x.2 (toN v5.2) 0)]:List (Int×Int×Int)),w64 (aE v5.2 1))))
          (cnd (ieq (n8 x.1.2.2.2.2.2.1) (n8 2))
           (grd (dV (aE (len v5.1) (len ([(w64 (aE v1 v5.2),w64 (aE x.1.2.2.2.1 (w64 (aAJ (w64 (aJ x.1.2.2.2.2.1 (aA x.2 (toN v5.2) 0))) 2))),aA x.2 (toN v5.2) 0)]:List (Int×Int×Int)))) 24)
            (v4 (bH v5.1 ([(w64 (aE v1 v5.2),w64 (aE x.1.2.2.2.1 (w64 (aAJ (w64 (aJ x.1.2.2.2.2.1 (aA x.2 (toN v5.2) 0))) 2))),aA x.2 (toN v5.2) 0)]:List (Int×Int×Int)),w64 (aE v5.2 1))))
           (grd (dV (aE (len v5.1) (len ([(w64 (aE v1 v5.2),x.1.2.2.2.1,aA x.2 (toN v5.2) 0)]:List (Int×Int×Int)))) 24)
            (v4 (bH v5.1 ([(w64 (aE v1 v5.2),x.1.2.2.2.1,aA x.2 (toN v5.2) 0)]:List (Int×Int×Int)),w64 (aE v5.2 1)))))))))
      (v3 v5.1)) N (([]:List (Int×Int×Int)),0))
   fun v6 =>
   cnd x.1.2.2.2.2.2.2
    (v6 (w64 (aE x.1.2.1 (w64 (aJ x.1.2.2.1 (len x.2))))))
    (v6 x.1.2.1)))
def ZY:List PK:=[.k (.v (.st Y3) []),.k (.v (.slice Y5) [])]
def ZZ:List Kd:=[.v (.int .i64) []]
def q40(N:Nat) (x:D2×List D4):Option (Int) :=
 bnd (q24 N (x.2,x.1.2.2.1)) fun v0 =>
 cnd (ilt x.1.1 1)
  (some 2)
  (cnd (ilt 1099511627776 x.1.1)
   (some 2)
   (bnd (q25 N x.1.2.1) fun v1 =>
   cnd (bP v1)
    (some 2)
    (cnd (bP v0.2)
     (some 6)
     (bnd (q27 N x.1.2.2.2.1) fun v2 =>
     cnd (seq v2 ([]:Y_))
      (some 3)
      (jn (fun (v3:Bool) =>
       cnd v3
        (some 5)
        (cnd (ieq (len x.1.2.2.2.2.2) 0)
         (some 9)
         (cnd (ilt 4 (len x.1.2.2.2.2.2))
          (some 9)
          (jn (fun (v4:Unit) =>
           bnd (q37 N x.1) fun v5 =>
           bnd (q39 N (v0.1,v5)) fun v6 =>
           some v6.2)
          fun v7 =>
          bG (fun v8 (v9:Int) =>
           cnd (ilt v9 (len x.1.2.2.2.2.2))
            (grd (inb v9 (len x.1.2.2.2.2.2))
             (bnd (q36 N (aA x.1.2.2.2.2.2 (toN v9) [])) fun v10 =>
             cnd (ine v10 0)
              (some v10)
              (v8 (w64 (aE v9 1)))))
            (v7 ())) N 0))))
      fun v11 =>
      cnd (sne x.1.2.2.2.2.1 ([]:Y_))
       (bnd (q14 N x.1.2.2.2.2.1) fun v12 =>
       v11 (bP v12))
       (v11 false))))))
def A0:List PK:=[.k (.v (.int .i64) [])]
def A2:List Kd:=[.v (.bool) []]
def q41(N:Nat) (x:Int):Option (Bool) :=
 some (ine x x)
def A3:List PK:=[.k (.v (.int .i64) []),.k (.v (.int .i64) [])]
def A4:List Kd:=[.v (.int .i64) []]
def q42(N:Nat) (x:Int×Int):Option (Int) :=
 bnd (q41 N x.1) fun v0 =>
 bnd (q41 N x.2) fun v1 =>
 cnd v0
  (cnd v1
   (some 0)
   (some (-1)))
  (cnd v1
   (some 1)
   (cnd (ilt x.1 x.2)
    (some (-1))
    (cnd (ilt x.2 x.1)
     (some 1)
     (some 0))))
def A5:List PK:=[.k (.v (.slice (.int .i64)) [])]
def A6:List Kd:=[.v (.int .i64) []]
def q43(N:Nat) (x:List Int):Option (Int) :=
 jn (fun (v0:Unit) =>
  some 0)
 fun v1 =>
 bG (fun v2 (v3:Int) =>
  cnd (ilt v3 (len x))
   (grd (inb v3 (len x))
    (cnd (ine (aA x (toN v3) 0) 0)
     (some (aA x (toN v3) 0))
     (v2 (w64 (aE v3 1)))))
   (v1 ())) N 0
def A7:List PK:=[.k (.v (.st Y3) []),.k (.v (.st Y3) [])]
def A8:List Kd:=[.v (.bool) []]
def q44(N:Nat) (x:D2×Int×(Int×Int)×Y_×UInt8×Y_×List (List D5)):Option (Bool) :=
 bnd (q42 N (x.1.2.1.1,x.2.2.1.1)) fun v0 =>
 bnd (q42 N (x.1.1,x.2.1)) fun v1 =>
 bnd (q43 N ([v0,v1]:List Int)) fun v2 =>
 some (ilt v2 0)
def A9:List PK:=[.k (.v (.st Y3) [])]
def B0:List Kd:=[.v (.int .i64) []]
def q45(N:Nat) (x:D2):Option (Int) :=
 jn (fun (v0:Int) =>
  some v0)
 fun v1 =>
 bnd (q37 N x) fun v2 =>
 bG (fun v3 (v4:Int×Int) =>
  cnd (ilt v4.2 (len v2))
   (grd (inb v4.2 (len v2))
    (cnd (ilt (aA v2 (toN v4.2) 0) 0)
     (some (-1))
     (v3 (w64 (aE v4.1 (aA v2 (toN v4.2) 0)),w64 (aE v4.2 1)))))
   (v1 v4.1)) N (PY (w64 (aJ (len x.2.2.2.2.2) 1)) 0,0)
def B1:List PK:=[.k (.v Y1 []),.k (.v Y6 []),.k (.m (.int .i64) (.int .i64))]
def B2:List Kd:=[.v (.int .i64) []]
def q46(N:Nat) (x:D7×D3×List (Int×Int)):Option (Int×List (Int×Int)) :=
 cnd (ilt x.2.1.2.1 1)
  (some (2,x.2.2))
  (cnd (ilt x.1.2.2.2.2.1 x.2.1.2.1)
   (some (2,x.2.2))
   (cnd x.2.1.2.2.2.2.2.2.2
    (cnd (ine x.2.1.2.2.1 0)
     (some (2,x.2.2))
     (cnd (ine x.2.1.2.2.2.1 0)
      (some (2,x.2.2))
      (some (0,x.2.2))))
    (cnd (bP (jI ieq x.2.2 x.2.1.2.1))
     (some (6,x.2.2))
     (cnd (ilt x.2.1.2.2.1 0)
      (some (2,x.2.2))
      (cnd (ile x.2.1.2.2.2.1 x.2.1.2.2.1)
       (some (2,x.2.2))
       (grd (inb (nO ieq 0 x.2.2 x.2.1.2.1) (len x.1.2.2.2.2.2.2.1))
        (bnd (q45 N (aA x.1.2.2.2.2.2.2.1 (toN (nO ieq 0 x.2.2 x.2.1.2.1)) zE)) fun v0 =>
        cnd (ilt v0 x.2.1.2.2.2.1)
         (some (2,x.2.2))
         (some (0,x.2.2)))))))))
def B3:List PK:=[.k (.v Y1 []),.k (.m (.int .i64) (.int .i64))]
def B4:List Kd:=[.v (.int .i64) []]
def q47(N:Nat) (x:D7×List (Int×Int)):Option (Int×List (Int×Int)) :=
 cnd (ilt 64 (len x.1.2.2.2.2.2.2.2))
  (some (9,x.2))
  (jn (fun (v0:List (Int×Int)) =>
   some (0,v0))
  fun v1 =>
  bG (fun v2 (v3:Int×List (Int×Int)) =>
   cnd (ilt v3.1 (len x.1.2.2.2.2.2.2.2))
    (grd (inb v3.1 (len x.1.2.2.2.2.2.2.2))
     (jn (fun (v4:Unit) =>
      bnd (q46 N (x.1,aA x.1.2.2.2.2.2.2.2 (toN v3.1) zC,v3.2)) fun v5 =>
      cnd (ine v5.1 0)
       (some v5)
       (bnd (q14 N (aA x.1.2.2.2.2.2.2.2 (toN v3.1) zC).2.2.2.2.1) fun v6 =>
       cnd (bP v6)
        (some (5,v5.2))
        (bnd (q13 N (aA x.1.2.2.2.2.2.2.2 (toN v3.1) zC).2.2.2.2.2.1) fun v7 =>
        cnd (bP v7)
         (some (10,v5.2))
         (cnd (seq (aA x.1.2.2.2.2.2.2.2 (toN v3.1) zC).2.2.2.2.2.1 ([]:Y_))
          (some (4,v5.2))
          (cnd (ilt 400 (len (aA x.1.2.2.2.2.2.2.2 (toN v3.1) zC).2.2.2.2.2.1))
           (some (9,v5.2))
           (v2 (w64 (aE v3.1 1),v5.2)))))))
     fun v8 =>
     cnd (ilt (aA x.1.2.2.2.2.2.2.2 (toN v3.1) zC).1 1)
      (some (2,v3.2))
      (cnd (ilt x.1.2.2.2.2.1 (aA x.1.2.2.2.2.2.2.2 (toN v3.1) zC).1)
       (some (2,v3.2))
       (cnd (ilt 0 v3.1)
        (grd (inb (w64 (aJ v3.1 1)) (len x.1.2.2.2.2.2.2.2))
         (cnd (ile (aA x.1.2.2.2.2.2.2.2 (toN v3.1) zC).1 (aA x.1.2.2.2.2.2.2.2 (toN (w64 (aJ v3.1 1))) zC).1)
          (some (8,v3.2))
          (cnd (jI ieq v3.2 (aA x.1.2.2.2.2.2.2.2 (toN v3.1) zC).1)
           (some (7,v3.2))
           (v8 ()))))
        (cnd (jI ieq v3.2 (aA x.1.2.2.2.2.2.2.2 (toN v3.1) zC).1)
         (some (7,v3.2))
         (v8 ()))))))
    (v1 v3.2)) N (0,x.2))
def EA:List PK:=[.k (.v Y1 [])]
def EB:List Kd:=[.v (.int .i64) []]
def q48(N:Nat) (x:D7):Option (Int) :=
 bnd (q19 N x) fun v0 =>
 cnd (ine v0 0)
  (some v0)
  (bnd (q22 N x.2.2.2.2.2.1) fun v1 =>
  cnd (ine v1 0)
   (some v1)
   (cnd (ilt 400 (len x.2.2.2.2.2.2.1))
    (some 9)
    (jn (fun (v2:List (Int×Int)) =>
     bnd (q47 N (x,v2)) fun v3 =>
     some v3.1)
    fun v4 =>
    bG (fun v5 (v6:Int×List (Int×Int)) =>
     cnd (ilt v6.1 (len x.2.2.2.2.2.2.1))
      (grd (inb v6.1 (len x.2.2.2.2.2.2.1))
       (bnd (q40 N (aA x.2.2.2.2.2.2.1 (toN v6.1) zE,x.2.2.2.2.2.1)) fun v7 =>
       cnd (ine v7 0)
        (some v7)
        (cnd (ilt x.2.2.2.2.1 (aA x.2.2.2.2.2.2.1 (toN v6.1) zE).1)
         (some 2)
         (cnd (ilt 0 v6.1)
          (grd (inb (w64 (aJ v6.1 1)) (len x.2.2.2.2.2.2.1))
           (bnd (q44 N (aA x.2.2.2.2.2.2.1 (toN (w64 (aJ v6.1 1))) zE,aA x.2.2.2.2.2.2.1 (toN v6.1) zE)) fun v8 =>
           cnd (bP v8)
            (some 8)
            (cnd (jI ieq v6.2 (aA x.2.2.2.2.2.2.1 (toN v6.1) zE).1)
             (some 7)
             (v5 (w64 (aE v6.1 1),pY ieq v6.2 (aA x.2.2.2.2.2.2.1 (toN v6.1) zE).1 v6.1)))))
          (cnd (jI ieq v6.2 (aA x.2.2.2.2.2.2.1 (toN v6.1) zE).1)
           (some 7)
           (v5 (w64 (aE v6.1 1),pY ieq v6.2 (aA x.2.2.2.2.2.2.1 (toN v6.1) zE).1 v6.1)))))))
      (v4 v6.2)) N (0,([]:List (Int×Int))))))
def LJ:List PK:=[.k (.v (.u8) [])]
def LK:List Kd:=[.v (.str) []]
def q49(N:Nat) (x:UInt8):Option Y_ :=
 bnd (q15 N x) fun v0 =>
 some v0.1
def B5:List PK:=[.k (.v (.str) []),.k (.v (.bool) [])]
def B6:List Kd:=[.v (.st (.pair (.str) (.str))) []]
def q50(N:Nat) (x:Y_×Bool):Option D6 :=
 cnd x.2
  (some (x.1,([49]:Y_)))
  (some (x.1,([]:Y_)))
def fJ:List PK:=[.k (.v (.int .i64) []),.k (.v (.int .i64) [])]
def fK:List Kd:=[.v (.str) []]
def cV(N:Nat) (x:Int×Int):Option Y_:=dC N x
def B7:List PK:=[.k (.v (.int .i64) []),.k (.v (.int .i64) [])]
def B8:List Kd:=[.v (.str) []]
def q51(N:Nat) (x:Int×Int):Option Y_ :=
 bnd (cV N x) fun v0 =>
 some v0
def LL:List PK:=[.k (.v (.int .i64) [])]
def LM:List Kd:=[.v (.str) []]
def q52(N:Nat) (x:Int):Option Y_ :=
 bnd (q51 N (x,10)) fun v0 =>
 some v0
def B9:List PK:=[.k (.v (.str) []),.k (.v (.int .i64) [])]
def C0:List Kd:=[.v (.st (.pair (.str) (.str))) []]
def q53(N:Nat) (x:Y_×Int):Option D6 :=
 bnd (q52 N x.2) fun v0 =>
 some (x.1,v0)
def C1:List PK:=[.k (.b 77 (.slice Y2) [0]),.k (.v (.int .i64) []),.k (.v (.str) []),.k (.v (.slice (.st (.pair (.str) (.str)))) [])]
def C2:List Kd:=[]
def q54(N:Nat) (x:(List D1)×Int×Y_×List D6):Option (List D1) :=
 jn (fun (v0:D1) =>
  grd (dV (aE (len x.1) (len ([v0]:List D1))) 64) <|
  some (bH x.1 ([v0]:List D1)))
 fun v1 =>
 bG (fun v2 (v3:Int×Y_×Y_×(List D6)×Int) =>
  cnd (ilt v3.1 (len x.2.2.2))
   (grd (inb v3.1 (len x.2.2.2))
    (cnd (sne (aA x.2.2.2 (toN v3.1) ([],[])).2 ([]:Y_))
     (grd (dV (aE (len v3.2.2.2.1) (len ([aA x.2.2.2 (toN v3.1) ([],[])]:List D6))) 32)
      (v2 (w64 (aE v3.1 1),v3.2.1,v3.2.2.1,bH v3.2.2.2.1 ([aA x.2.2.2 (toN v3.1) ([],[])]:List D6),v3.2.2.2.2)))
     (v2 (w64 (aE v3.1 1),v3.2))))
   (v1 v3.2)) N (0,x.2.2.1,([]:Y_),([]:List D6),x.2.1)
def C3:List PK:=[.k (.v Y1 [])]
def C4:List Kd:=[.v (.slice Y2) [0],.v (.int .i64) []]
def q55(N:Nat) (x:D7):Option ((List D1)×Int) :=
 bnd (q48 N x) fun v0 =>
 cnd (ine v0 0)
  (some (([]:List D1),v0))
  (bnd (q49 N x.2.2.1) fun v1 =>
  bnd (q50 N (([100,114,111,112]:Y_),x.2.2.2.1)) fun v2 =>
  bnd (q53 N (([108,97,115,116]:Y_),x.2.2.2.2.1)) fun v3 =>
  bnd (q54 N (([]:List D1),0,([116,116]:Y_),([(([116,105,116,108,101]:Y_),x.1),(([108,97,110,103]:Y_),x.2.1),(([114,97,116,101]:Y_),v1),v2,v3]:List D6))) fun v4 =>
  jn (fun (v5:List D1) =>
   jn (fun (v6:List D1) =>
    cnd (ilt 8192 (len v6))
     (some (([]:List D1),9))
     (some (v6,0)))
   fun v7 =>
   bG (fun v8 (v9:Int×List D1) =>
    cnd (ilt v9.1 (len x.2.2.2.2.2.2.1))
     (jn (fun (v10:List D1) =>
      v8 (w64 (aE v9.1 1),v10))
     fun v11 =>
     grd (inb v9.1 (len x.2.2.2.2.2.2.1)) <|
     bnd (q53 N (([105,100]:Y_),(aA x.2.2.2.2.2.2.1 (toN v9.1) zE).1)) fun v12 =>
     bnd (q52 N (aA x.2.2.2.2.2.2.1 (toN v9.1) zE).2.1.1) fun v13 =>
     grd (eD (aE (len v13) (len ([102]:Y_)))) <|
     bnd (q52 N (aA x.2.2.2.2.2.2.1 (toN v9.1) zE).2.1.2) fun v14 =>
     grd (eD (aE (len v14) (len ([102]:Y_)))) <|
     bnd (q27 N (aA x.2.2.2.2.2.2.1 (toN v9.1) zE).2.2.2.1) fun v15 =>
     bnd (q54 N (v9.2,1,([112]:Y_),([v12,(([105,110]:Y_),bH v13 ([102]:Y_)),(([111,117,116]:Y_),bH v14 ([102]:Y_)),(([114,101,103,105,111,110]:Y_),(aA x.2.2.2.2.2.2.1 (toN v9.1) zE).2.2.1),(([107,105,110,100]:Y_),v15),(([115,112,101,97,107,101,114]:Y_),(aA x.2.2.2.2.2.2.1 (toN v9.1) zE).2.2.2.2.1)]:List D6))) fun v16 =>
     bG (fun v17 (v18:Int×List D1) =>
      cnd (ilt v18.1 (len (aA x.2.2.2.2.2.2.1 (toN v9.1) zE).2.2.2.2.2))
       (jn (fun (v19:List D1) =>
        v17 (w64 (aE v18.1 1),v19))
       fun v20 =>
       grd (inb v18.1 (len (aA x.2.2.2.2.2.2.1 (toN v9.1) zE).2.2.2.2.2)) <|
       bnd (q54 N (v18.2,2,([114,111,119]:Y_),([]:List D6))) fun v21 =>
       bG (fun v22 (v23:Int×List D1) =>
        cnd (ilt v23.1 (len (aA (aA x.2.2.2.2.2.2.1 (toN v9.1) zE).2.2.2.2.2 (toN v18.1) [])))
         (grd (inb v23.1 (len (aA (aA x.2.2.2.2.2.2.1 (toN v9.1) zE).2.2.2.2.2 (toN v18.1) [])))
          (jn (fun (v24:Y_) =>
           bnd (q50 N (([105,116,97,108,105,99]:Y_),(aA (aA (aA x.2.2.2.2.2.2.1 (toN v9.1) zE).2.2.2.2.2 (toN v18.1) []) (toN v23.1) zU).2.1.2.1)) fun v25 =>
           bnd (q50 N (([117,110,100,101,114,108,105,110,101]:Y_),(aA (aA (aA x.2.2.2.2.2.2.1 (toN v9.1) zE).2.2.2.2.2 (toN v18.1) []) (toN v23.1) zU).2.1.2.2)) fun v26 =>
           bnd (q54 N (v23.2,3,([114,117,110]:Y_),([(([99,111,108,111,114]:Y_),v24),v25,v26,(([114,117,98,121]:Y_),(aA (aA (aA x.2.2.2.2.2.2.1 (toN v9.1) zE).2.2.2.2.2 (toN v18.1) []) (toN v23.1) zU).2.2)]:List D6))) fun v27 =>
           grd (dV (aE (len v27) (len ([(([]:Y_),(aA (aA (aA x.2.2.2.2.2.2.1 (toN v9.1) zE).2.2.2.2.2 (toN v18.1) []) (toN v23.1) zU).1,([]:List D6),4)]:List D1))) 64) <|
           v22 (w64 (aE v23.1 1),bH v27 ([(([]:Y_),(aA (aA (aA x.2.2.2.2.2.2.1 (toN v9.1) zE).2.2.2.2.2 (toN v18.1) []) (toN v23.1) zU).1,([]:List D6),4)]:List D1)))
          fun v28 =>
          cnd (ine (n8 (aA (aA (aA x.2.2.2.2.2.2.1 (toN v9.1) zE).2.2.2.2.2 (toN v18.1) []) (toN v23.1) zU).2.1.1) (n8 0))
           (grd (inb (n8 (aA (aA (aA x.2.2.2.2.2.2.1 (toN v9.1) zE).2.2.2.2.2 (toN v18.1) []) (toN v23.1) zU).2.1.1) (ofN 7))
            (v28 (aA gl1 (toN (n8 (aA (aA (aA x.2.2.2.2.2.2.1 (toN v9.1) zE).2.2.2.2.2 (toN v18.1) []) (toN v23.1) zU).2.1.1)) [])))
           (v28 ([]:Y_))))
         (v20 v23.2)) N (0,v21))
       (v11 v18.2)) N (0,v16))
     (v7 v9.2)) N (0,v5))
  fun v29 =>
  bG (fun v30 (v31:Int×List D1) =>
   cnd (ilt v31.1 (len x.2.2.2.2.2.1))
    (grd (inb v31.1 (len x.2.2.2.2.2.1))
     (jn (fun (v32:Y_) =>
      bnd (q53 N (([116,111,112]:Y_),(aA x.2.2.2.2.2.1 (toN v31.1) zG).2.1)) fun v33 =>
      bnd (q53 N (([104,101,105,103,104,116]:Y_),(aA x.2.2.2.2.2.1 (toN v31.1) zG).2.2.1)) fun v34 =>
      bnd (q53 N (([108,101,102,116]:Y_),(aA x.2.2.2.2.2.1 (toN v31.1) zG).2.2.2.1)) fun v35 =>
      bnd (q53 N (([119,105,100,116,104]:Y_),(aA x.2.2.2.2.2.1 (toN v31.1) zG).2.2.2.2.1)) fun v36 =>
      grd (inb (n8 (b8 (aJ (n8 (aA x.2.2.2.2.2.1 (toN v31.1) zG).2.2.2.2.2.1) (n8 1)))) (ofN 3)) <|
      bnd (q54 N (v31.2,1,([114,101,103,105,111,110]:Y_),([(([110,97,109,101]:Y_),(aA x.2.2.2.2.2.1 (toN v31.1) zG).1),v33,v34,v35,v36,(([97,108,105,103,110]:Y_),aA gl0 (toN (n8 (b8 (aJ (n8 (aA x.2.2.2.2.2.1 (toN v31.1) zG).2.2.2.2.2.1) (n8 1))))) []),(([97,110,99,104,111,114]:Y_),v32)]:List D6))) fun v37 =>
      v30 (w64 (aE v31.1 1),v37))
     fun v38 =>
     cnd (aA x.2.2.2.2.2.1 (toN v31.1) zG).2.2.2.2.2.2
      (v38 ([66,79,84,84,79,77]:Y_))
      (v38 ([84,79,80]:Y_))))
    (v29 v31.2)) N (0,v4))
def C5:List PK:=[.k (.v (.slice Y2) []),.k (.v (.int .i64) [])]
def C6:List Kd:=[.v (.int .i64) []]
def q56(N:Nat) (x:(List D1)×Int):Option (Int) :=
 grd (inb x.2 (len x.1)) <|
 cnd (ieq x.2 0)
  (cnd (ine (aA x.1 (toN x.2) zN).2.2.2 0)
   (some 8)
   (some 0))
  (grd (inb (w64 (aJ x.2 1)) (len x.1))
   (jn (fun (v0:Int) =>
    cnd (ilt (aA x.1 (toN x.2) zN).2.2.2 1)
     (some 8)
     (cnd (ilt v0 (aA x.1 (toN x.2) zN).2.2.2)
      (some 8)
      (cnd (ilt 15 (aA x.1 (toN x.2) zN).2.2.2)
       (some 9)
       (some 0))))
   fun v1 =>
   grd (inb (w64 (aJ x.2 1)) (len x.1)) <|
   cnd (sne (aA x.1 (toN (w64 (aJ x.2 1))) zN).1 ([]:Y_))
    (v1 (w64 (aE (aA x.1 (toN (w64 (aJ x.2 1))) zN).2.2.2 1)))
    (v1 (aA x.1 (toN (w64 (aJ x.2 1))) zN).2.2.2)))
def EC:List PK:=[.k (.v (.u8) [])]
def ED:List Kd:=[.v (.bool) []]
def q57(N:Nat) (x:UInt8):Option (Bool) :=
 cnd (ile (n8 97) (n8 x))
  (cnd (ile (n8 x) (n8 122))
   (some true)
   (cnd (ile (n8 65) (n8 x))
    (some (ile (n8 x) (n8 90)))
    (some false)))
  (cnd (ile (n8 65) (n8 x))
   (some (ile (n8 x) (n8 90)))
   (some false))
def LN:List PK:=[.k (.v (.u8) [])]
def LO:List Kd:=[.v (.bool) []]
def q58(N:Nat) (x:UInt8):Option (Bool) :=
 bnd (q57 N x) fun v0 =>
 cnd v0
  (some true)
  (cnd (ile (n8 48) (n8 x))
   (cnd (ile (n8 x) (n8 57))
    (some true)
    (some (ieq (n8 x) (n8 45))))
   (some (ieq (n8 x) (n8 45))))
def kD:List PK:=[.k (.v (.str) [])]
def kE:List Kd:=[.v (.bool) []]
def dZ(N:Nat) (x:Y_):Option (Bool) :=
 cnd (ilt (len x) 1)
  (some false)
  (cnd (ilt 32 (len x))
   (some false)
   (grd (inb 0 (len x))
    (bnd (q57 N (aA x (toN 0) 0)) fun v0 =>
    cnd (bP v0)
     (some false)
     (jn (fun (v1:Unit) =>
      some true)
     fun v2 =>
     bG (fun v3 (v4:Int) =>
      cnd (ilt v4 (len x))
       (grd (inb v4 (len x))
        (bnd (q58 N (aA x (toN v4) 0)) fun v5 =>
        cnd (bP v5)
         (some false)
         (v3 (w64 (aE v4 1)))))
       (v2 ())) N 0))))
def C7:List PK:=[.k (.v Y2 [])]
def C8:List Kd:=[.v (.int .i64) []]
def q59(N:Nat) (x:D1):Option (Int) :=
 bnd (dZ N x.1) fun v0 =>
 cnd (bP v0)
  (some 5)
  (cnd (sne x.2.1 ([]:Y_))
   (some 4)
   (cnd (ilt 16 (len x.2.2.1))
    (some 9)
    (jn (fun (v1:Unit) =>
     some 0)
    fun v2 =>
    bG (fun v3 (v4:Int×List (Y_×Bool)) =>
     cnd (ilt v4.1 (len x.2.2.1))
      (grd (inb v4.1 (len x.2.2.1))
       (bnd (dZ N (aA x.2.2.1 (toN v4.1) ([],[])).1) fun v5 =>
       cnd (bP v5)
        (some 5)
        (cnd (nO seq false v4.2 (aA x.2.2.1 (toN v4.1) ([],[])).1)
         (some 7)
         (bnd (q13 N (aA x.2.2.1 (toN v4.1) ([],[])).2) fun v6 =>
         cnd (bP v6)
          (some 10)
          (v3 (w64 (aE v4.1 1),pY seq v4.2 (aA x.2.2.1 (toN v4.1) ([],[])).1 true))))))
      (v2 ())) N (0,([]:List (Y_×Bool))))))
def C9:List PK:=[.k (.v (.slice Y2) []),.k (.v (.int .i64) [])]
def D0:List Kd:=[.v (.int .i64) []]
def q60(N:Nat) (x:(List D1)×Int):Option (Int) :=
 grd (inb x.2 (len x.1)) <|
 jn (fun (v0:Bool) =>
  cnd v0
   (some 8)
   (cnd (seq (aA x.1 (toN x.2) zN).2.1 ([]:Y_))
    (some 4)
    (cnd (ilt 0 (len (aA x.1 (toN x.2) zN).2.2.1))
     (some 4)
     (bnd (q13 N (aA x.1 (toN x.2) zN).2.1) fun v1 =>
     cnd (bP v1)
      (some 10)
      (some 0)))))
 fun v2 =>
 cnd (ieq x.2 0)
  (v2 true)
  (grd (inb (w64 (aJ x.2 1)) (len x.1))
   (cnd (seq (aA x.1 (toN (w64 (aJ x.2 1))) zN).1 ([]:Y_))
    (grd (inb (w64 (aJ x.2 1)) (len x.1))
     (v2 (ieq (aA x.1 (toN (w64 (aJ x.2 1))) zN).2.2.2 (aA x.1 (toN x.2) zN).2.2.2)))
    (v2 false)))
def LP:List PK:=[.k (.v (.slice Y2) [])]
def LQ:List Kd:=[.v (.int .i64) []]
def q61(N:Nat) (x:List D1):Option (Int) :=
 cnd (ieq (len x) 0)
  (some 6)
  (cnd (ilt 8192 (len x))
   (some 9)
   (jn (fun (v0:Unit) =>
    some 0)
   fun v1 =>
   bG (fun v2 (v3:Int) =>
    cnd (ilt v3 (len x))
     (grd (inb v3 (len x))
      (bnd (q56 N (x,v3)) fun v4 =>
      cnd (ine v4 0)
       (some v4)
       (cnd (sne (aA x (toN v3) zN).1 ([]:Y_))
        (bnd (q59 N (aA x (toN v3) zN)) fun v5 =>
        cnd (ine v5 0)
         (some v5)
         (v2 (w64 (aE v3 1))))
        (bnd (q60 N (x,v3)) fun v6 =>
        cnd (ine v6 0)
         (some v6)
         (v2 (w64 (aE v3 1)))))))
     (v1 ())) N 0))
def iG:List PK:=[.k (.v (.str) []),.k (.v (.str) []),.k (.v (.str) []),.k (.v (.int .i64) [])]
def iH:List Kd:=[.v (.str) []]
def strings_Replace(N:Nat) (x:Y_×Y_×Y_×Int):Option Y_:=fZ N x
def D8:List PK:=[.k (.v (.str) []),.k (.v (.str) []),.k (.v (.str) [])]
def D9:List Kd:=[.v (.str) []]
def q62(N:Nat) (x:Y_×Y_×Y_):Option Y_ :=
 bnd (strings_Replace N (x.1,x.2.1,x.2.2,(-1))) fun v0 =>
 some v0
def E0:List PK:=[.k (.v (.str) [])]
def E1:List Kd:=[.v (.str) []]
def q63(N:Nat) (x:Y_):Option Y_ :=
 jn (fun (v0:Y_) =>
  some v0)
 fun v1 =>
 bG (fun v2 (v3:Y_×Int) =>
  cnd (ilt v3.2 5)
   (grd (inb v3.2 (ofN 5))
    (grd (ieq (len (aI 2 ([]:Y_))) (ofN 2))
     (grd (inb 1 (ofN 2))
      (grd (ilt 1 (len ([aA (aA ([([aA (aA gl2 0 (aI 2 [])) 0 [],aA (aA gl2 0 (aI 2 [])) 1 []]:List Y_),([aA (aA gl2 1 (aI 2 [])) 0 [],aA (aA gl2 1 (aI 2 [])) 1 []]:List Y_),([aA (aA gl2 2 (aI 2 [])) 0 [],aA (aA gl2 2 (aI 2 [])) 1 []]:List Y_),([aA (aA gl2 3 (aI 2 [])) 0 [],aA (aA gl2 3 (aI 2 [])) 1 []]:List Y_),([aA (aA gl2 4 (aI 2 [])) 0 [],aA (aA gl2 4 (aI 2 [])) 1 []]:List Y_)]:List (List Y_)) (toN v3.2) (aI 2 [])) 0 [],aA (aA ([([aA (aA gl2 0 (aI 2 [])) 0 [],aA (aA gl2 0 (aI 2 [])) 1 []]:List Y_),([aA (aA gl2 1 (aI 2 [])) 0 [],aA (aA gl2 1 (aI 2 [])) 1 []]:List Y_),([aA (aA gl2 2 (aI 2 [])) 0 [],aA (aA gl2 2 (aI 2 [])) 1 []]:List Y_),([aA (aA gl2 3 (aI 2 [])) 0 [],aA (aA gl2 3 (aI 2 [])) 1 []]:List Y_),([aA (aA gl2 4 (aI 2 [])) 0 [],aA (aA gl2 4 (aI 2 [])) 1 []]:List Y_)]:List (List Y_)) (toN v3.2) (aI 2 [])) 1 []]:List Y_)))
       (grd (inb 0 (ofN 2))
        (grd (ilt 0 (len ([aA (aA ([([aA (aA gl2 0 (aI 2 [])) 0 [],aA (aA gl2 0 (aI 2 [])) 1 []]:List Y_),([aA (aA gl2 1 (aI 2 [])) 0 [],aA (aA gl2 1 (aI 2 [])) 1 []]:List Y_),([aA (aA gl2 2 (aI 2 [])) 0 [],aA (aA gl2 2 (aI 2 [])) 1 []]:List Y_),([aA (aA gl2 3 (aI 2 [])) 0 [],aA (aA gl2 3 (aI 2 [])) 1 []]:List Y_),([aA (aA gl2 4 (aI 2 [])) 0 [],aA (aA gl2 4 (aI 2 [])) 1 []]:List Y_)]:List (List Y_)) (toN v3.2) (aI 2 [])) 0 [],aA (aA ([([aA (aA gl2 0 (aI 2 [])) 0 [],aA (aA gl2 0 (aI 2 [])) 1 []]:List Y_),([aA (aA gl2 1 (aI 2 [])) 0 [],aA (aA gl2 1 (aI 2 [])) 1 []]:List Y_),([aA (aA gl2 2 (aI 2 [])) 0 [],aA (aA gl2 2 (aI 2 [])) 1 []]:List Y_),([aA (aA gl2 3 (aI 2 [])) 0 [],aA (aA gl2 3 (aI 2 [])) 1 []]:List Y_),([aA (aA gl2 4 (aI 2 [])) 0 [],aA (aA gl2 4 (aI 2 [])) 1 []]:List Y_)]:List (List Y_)) (toN v3.2) (aI 2 [])) 1 []]:List Y_)))
         (bnd (q62 N (v3.1,aA ([aA (aA ([([aA (aA gl2 0 (aI 2 [])) 0 [],aA (aA gl2 0 (aI 2 [])) 1 []]:List Y_),([aA (aA gl2 1 (aI 2 [])) 0 [],aA (aA gl2 1 (aI 2 [])) 1 []]:List Y_),([aA (aA gl2 2 (aI 2 [])) 0 [],aA (aA gl2 2 (aI 2 [])) 1 []]:List Y_),([aA (aA gl2 3 (aI 2 [])) 0 [],aA (aA gl2 3 (aI 2 [])) 1 []]:List Y_),([aA (aA gl2 4 (aI 2 [])) 0 [],aA (aA gl2 4 (aI 2 [])) 1 []]:List Y_)]:List (List Y_)) (toN v3.2) (aI 2 [])) 0 [],aA (aA ([([aA (aA gl2 0 (aI 2 [])) 0 [],aA (aA gl2 0 (aI 2 [])) 1 []]:List Y_),([aA (aA gl2 1 (aI 2 [])) 0 [],aA (aA gl2 1 (aI 2 [])) 1 []]:List Y_),([aA (aA gl2 2 (aI 2 [])) 0 [],aA (aA gl2 2 (aI 2 [])) 1 []]:List Y_),([aA (aA gl2 3 (aI 2 [])) 0 [],aA (aA gl2 3 (aI 2 [])) 1 []]:List Y_),([aA (aA gl2 4 (aI 2 [])) 0 [],aA (aA gl2 4 (aI 2 [])) 1 []]:List Y_)]:List (List Y_)) (toN v3.2) (aI 2 [])) 1 []]:List Y_) (toN 1) [],aA ([aA (aA ([([aA (aA gl2 0 (aI 2 [])) 0 [],aA (aA gl2 0 (aI 2 [])) 1 []]:List Y_),([aA (aA gl2 1 (aI 2 [])) 0 [],aA (aA gl2 1 (aI 2 [])) 1 []]:List Y_),([aA (aA gl2 2 (aI 2 [])) 0 [],aA (aA gl2 2 (aI 2 [])) 1 []]:List Y_),([aA (aA gl2 3 (aI 2 [])) 0 [],aA (aA gl2 3 (aI 2 [])) 1 []]:List Y_),([aA (aA gl2 4 (aI 2 [])) 0 [],aA (aA gl2 4 (aI 2 [])) 1 []]:List Y_)]:List (List Y_)) (toN v3.2) (aI 2 [])) 0 [],aA (aA ([([aA (aA gl2 0 (aI 2 [])) 0 [],aA (aA gl2 0 (aI 2 [])) 1 []]:List Y_),([aA (aA gl2 1 (aI 2 [])) 0 [],aA (aA gl2 1 (aI 2 [])) 1 []]:List Y_),([aA (aA gl2 2 (aI 2 [])) 0 [],aA (aA gl2 2 (aI 2 [])) 1 []]:List Y_),([aA (aA gl2 3 (aI 2 [])) 0 [],aA (aA gl2 3 (aI 2 [])) 1 []]:List Y_),([aA (aA gl2 4 (aI 2 [])) 0 [],aA (aA gl2 4 (aI 2 [])) 1 []]:List Y_)]:List (List Y_)) (toN v3.2) (aI 2 [])) 1 []]:List Y_) (toN 0) [])) fun v4 =>
         v2 (v4,w64 (aE v3.2 1)))))))))
   (v1 v3.1)) N (x,0)
def E2:List PK:=[.k (.b 131 Y9 [1])]
def E3:List Kd:=[.v (.int .i64) []]
def q64(N:Nat) (x:Unit×Y_):Option (Int×Unit×Y_) :=
 some (len x.2,(),x.2)
def E4:List PK:=[.k (.v (.slice Y2) [])]
def E5:List Kd:=[.v (.str) [],.v (.int .i64) []]
def q65(N:Nat) (x:List D1):Option (Y_×Int) :=
 bnd (q61 N x) fun v0 =>
 cnd (ine v0 0)
  (some (([]:Y_),v0))
  (jn (fun (v1:(List Y_)×Unit×Y_) =>
   jn (fun (v2:Unit×Y_) =>
    bnd (q64 N ((),v2.2)) fun v3 =>
    cnd (ilt 262144 v3.1)
     (some (([]:Y_),9))
     (some (v3.2.2,0)))
   fun v4 =>
   bG (fun v5 (v6:Int×Unit×Y_) =>
    cnd (ile 0 v6.1)
     (grd (inb v6.1 (len v1.1))
      (grd (eD (aE (len ([60,47]:Y_)) (len (aA v1.1 (toN v6.1) []))))
       (grd (eD (aE (len (bH ([60,47]:Y_) (aA v1.1 (toN v6.1) []))) (len ([62]:Y_))))
        (bnd (q31 N (((),v6.2.2),bH (bH ([60,47]:Y_) (aA v1.1 (toN v6.1) [])) ([62]:Y_))) fun v7 =>
        v5 (w64 (aJ v6.1 1),(),v7.2.2.2)))))
     (v4 ((),v6.2.2))) N (w64 (aJ (len v1.1) 1),(),v1.2.2))
  fun v8 =>
  bG (fun v9 (v10:(List Y_)×Int×Unit×Y_) =>
   cnd (ilt v10.2.1 (len x))
    (jn (fun (v11:(List Y_)×Unit×Y_) =>
     v9 (v11.1,w64 (aE v10.2.1 1),(),v11.2.2))
    fun v12 =>
    grd (inb v10.2.1 (len x)) <|
    jn (fun (v13:(List Y_)×Unit×Y_) =>
     cnd (seq (aA x (toN v10.2.1) zN).1 ([]:Y_))
      (bnd (q63 N (aA x (toN v10.2.1) zN).2.1) fun v14 =>
      bnd (q31 N (((),v13.2.2),v14)) fun v15 =>
      v12 (v13.1,(),v15.2.2.2))
      (grd (eD (aE (len ([60]:Y_)) (len (aA x (toN v10.2.1) zN).1)))
       (bnd (q31 N (((),v13.2.2),bH ([60]:Y_) (aA x (toN v10.2.1) zN).1)) fun v16 =>
       jn (fun (v17:Unit×Y_) =>
        cnd (ilt (w64 (aE v10.2.1 1)) (len x))
         (grd (inb (w64 (aE v10.2.1 1)) (len x))
          (cnd (ilt (aA x (toN v10.2.1) zN).2.2.2 (aA x (toN (w64 (aE v10.2.1 1))) zN).2.2.2)
           (bnd (q31 N (((),v17.2),([62]:Y_))) fun v18 =>
           grd (dV (aE (len v13.1) (len ([(aA x (toN v10.2.1) zN).1]:List Y_))) 16) <|
           v12 (bH v13.1 ([(aA x (toN v10.2.1) zN).1]:List Y_),(),v18.2.2.2))
           (bnd (q31 N (((),v17.2),([47,62]:Y_))) fun v19 =>
           v12 (v13.1,(),v19.2.2.2))))
         (bnd (q31 N (((),v17.2),([47,62]:Y_))) fun v20 =>
         v12 (v13.1,(),v20.2.2.2)))
       fun v21 =>
       bG (fun v22 (v23:Int×Unit×Y_) =>
        cnd (ilt v23.1 (len (aA x (toN v10.2.1) zN).2.2.1))
         (grd (inb v23.1 (len (aA x (toN v10.2.1) zN).2.2.1))
          (grd (eD (aE (len ([32]:Y_)) (len (aA (aA x (toN v10.2.1) zN).2.2.1 (toN v23.1) ([],[])).1)))
           (grd (eD (aE (len (bH ([32]:Y_) (aA (aA x (toN v10.2.1) zN).2.2.1 (toN v23.1) ([],[])).1)) (len ([61,34]:Y_))))
            (bnd (q63 N (aA (aA x (toN v10.2.1) zN).2.2.1 (toN v23.1) ([],[])).2) fun v24 =>
            grd (eD (aE (len (bH (bH ([32]:Y_) (aA (aA x (toN v10.2.1) zN).2.2.1 (toN v23.1) ([],[])).1) ([61,34]:Y_))) (len v24))) <|
            grd (eD (aE (len (bH (bH (bH ([32]:Y_) (aA (aA x (toN v10.2.1) zN).2.2.1 (toN v23.1) ([],[])).1) ([61,34]:Y_)) v24)) (len ([34]:Y_)))) <|
            bnd (q31 N (((),v23.2.2),bH (bH (bH (bH ([32]:Y_) (aA (aA x (toN v10.2.1) zN).2.2.1 (toN v23.1) ([],[])).1) ([61,34]:Y_)) v24) ([34]:Y_))) fun v25 =>
            v22 (w64 (aE v23.1 1),(),v25.2.2.2)))))
         (v21 ((),v23.2.2))) N (0,(),v16.2.2.2))))
    fun v26 =>
    bG (fun v27 (v28:(List Y_)×Unit×Y_) =>
     cnd (ilt (aA x (toN v10.2.1) zN).2.2.2 (len v28.1))
      (grd (inb (w64 (aJ (len v28.1) 1)) (len v28.1))
       (grd (eD (aE (len ([60,47]:Y_)) (len (aA v28.1 (toN (w64 (aJ (len v28.1) 1))) []))))
        (grd (eD (aE (len (bH ([60,47]:Y_) (aA v28.1 (toN (w64 (aJ (len v28.1) 1))) []))) (len ([62]:Y_))))
         (bnd (q31 N (((),v28.2.2),bH (bH ([60,47]:Y_) (aA v28.1 (toN (w64 (aJ (len v28.1) 1))) [])) ([62]:Y_))) fun v29 =>
         grd (in2 (w64 (aJ (len v28.1) 1)) (ofN (kN v28.1))) <|
         v27 (gO v28.1 0 (toN (w64 (aJ (len v28.1) 1))),(),v29.2.2.2)))))
      (v26 (v28.1,(),v28.2.2))) N (v10.1,(),v10.2.2.2))
    (v8 (v10.1,(),v10.2.2.2))) N (([]:List Y_),0,(),([]:Y_)))
def LR:List PK:=[.k (.v Y1 [])]
def LS:List Kd:=[.v (.str) [],.v (.int .i64) []]
def q66(N:Nat) (x:D7):Option (Y_×Int) :=
 bnd (q55 N x) fun v0 =>
 cnd (ine v0.2 0)
  (some (([]:Y_),v0.2))
  (bnd (q65 N v0.1) fun v1 =>
  some v1)
def pB:List PK:=[]
def pC:List Kd:=[.v (.bool) []]
def nZ(N:Nat) (x:Unit):Option (Bool) :=
 bnd (q66 N (([]:Y_),([]:Y_),3,false,3,([]:List D4),([(3,(0,50),([]:Y_),1,([]:Y_),([([(([71,111]:Y_),(4,true,false),([]:Y_))]:List D5)]:List (List D5)))]:List D2),([]:List D3))) fun v0 =>
 cnd (ieq v0.2 0)
  (some (seq v0.1 ([60,116,116,32,114,97,116,101,61,34,50,53,34,32,108,97,115,116,61,34,51,34,62,60,112,32,105,100,61,34,51,34,32,105,110,61,34,48,102,34,32,111,117,116,61,34,53,48,102,34,32,107,105,110,100,61,34,68,73,65,76,79,71,85,69,34,62,60,114,111,119,62,60,114,117,110,32,99,111,108,111,114,61,34,114,101,100,34,32,105,116,97,108,105,99,61,34,49,34,62,71,111,60,47,114,117,110,62,60,47,114,111,119,62,60,47,112,62,60,47,116,116,62]:Y_)))
  (some false)
def pD:List PK:=[.k (.v (.str) [])]
def pE:List Kd:=[.v (.str) []]
def lP(N:Nat) (x:Y_):Option Y_ :=
 grd (in2 (kY (len x) 900) (len x)) <|
 some (bO (toN (kY (len x) 900)) x)
def eV:List PK:=[.k (.v (.str) []),.k (.v (.u8) [])]
def eW:List Kd:=[.v (.int .i64) []]
def eJ(N:Nat) (x:Y_×UInt8):Option (Int):=gZ N x
def gG:List PK:=[.k (.v (.str) []),.k (.v (.str) [])]
def gH:List Kd:=[.v (.int .i64) []]
def strings_Index(N:Nat) (x:Y_×Y_):Option (Int):=iF N x
def E6:List PK:=[.k (.v (.str) []),.k (.v (.str) [])]
def E7:List Kd:=[.v (.int .i64) []]
def q67(N:Nat) (x:Y_×Y_):Option (Int) :=
 cnd (ieq (len x.2) 0)
  (bnd (q33 N x.1) fun v0 =>
  some (w64 (aE v0 1)))
  (cnd (ieq (len x.2) 1)
   (grd (inb 0 (len x.2))
    (bnd (eJ N (x.1,aA x.2 (toN 0) 0)) fun v1 =>
    some v1))
   (bG (fun v2 (v3:Y_×Int) =>
    bnd (strings_Index N (v3.1,x.2)) fun v4 =>
    cnd (ieq v4 (-1))
     (some v3.2)
     (grd (in2 (w64 (aE v4 (len x.2))) (len v3.1))
      (v2 (cS (toN (w64 (aE v4 (len x.2)))) v3.1,w64 (aE v3.2 1))))) N (x.1,0)))
def E8:List PK:=[.k (.v (.str) []),.k (.v (.u8) [])]
def E9:List Kd:=[.v (.int .i64) []]
def q68(N:Nat) (x:Y_×UInt8):Option (Int) :=
 jn (fun (v0:Unit) =>
  some (-1))
 fun v1 =>
 bG (fun v2 (v3:Int) =>
  cnd (ile 0 v3)
   (grd (inb v3 (len x.1))
    (cnd (ieq (n8 (aA x.1 (toN v3) 0)) (n8 x.2))
     (some v3)
     (v2 (w64 (aJ v3 1)))))
   (v1 ())) N (w64 (aJ (len x.1) 1))
def F0:List PK:=[.k (.v (.str) [])]
def F1:List Kd:=[.v (.int .u32) [],.v (.int .u32) []]
def q69(N:Nat) (x:Y_):Option (Int×Int) :=
 jn (fun (v0:Int) =>
  jn (fun (v1:Int) =>
   some (v0,v1))
  fun v2 =>
  bG (fun v3 (v4:Int×Int×Int) =>
   cnd (ilt 0 v4.2.2)
    (cnd (ine (pZ .and .i64 v4.2.2 1) 0)
     (v3 (wr .u32 (nM v4.1 v4.2.1),wr .u32 (nM v4.2.1 v4.2.1),aAL .i64 v4.2.2 1))
     (v3 (v4.1,wr .u32 (nM v4.2.1 v4.2.1),aAL .i64 v4.2.2 1)))
    (v2 v4.1)) N (1,16777619,len x))
 fun v5 =>
 bG (fun v6 (v7:Int×Int) =>
  cnd (ile 0 v7.2)
   (grd (inb v7.2 (len x))
    (v6 (wr .u32 (aE (wr .u32 (nM v7.1 16777619)) (wr .u32 (n8 (aA x (toN v7.2) 0)))),w64 (aJ v7.2 1))))
   (v5 v7.1)) N (0,w64 (aJ (len x) 1))
def F2:List PK:=[.k (.v (.str) []),.k (.v (.str) [])]
def F3:List Kd:=[.v (.int .i64) []]
def q70(N:Nat) (x:Y_×Y_):Option (Int) :=
 bnd (q69 N x.2) fun v0 =>
 jn (fun (v1:Int) =>
  jn (fun (v2:Unit) =>
   jn (fun (v3:Unit) =>
    some (-1))
   fun v4 =>
   bG (fun v5 (v6:Int×Int) =>
    cnd (ile 0 v6.2)
     (grd (inb v6.2 (len x.1))
      (grd (inb (w64 (aE v6.2 (len x.2))) (len x.1))
       (cnd (ieq (wr .u32 (aJ (wr .u32 (aE (wr .u32 (nM v6.1 16777619)) (wr .u32 (n8 (aA x.1 (toN v6.2) 0))))) (wr .u32 (nM v0.2 (wr .u32 (n8 (aA x.1 (toN (w64 (aE v6.2 (len x.2)))) 0))))))) v0.1)
        (grd (in3 v6.2 (w64 (aE v6.2 (len x.2))) (len x.1))
         (cnd (seq (cS (toN v6.2) (bO (toN (w64 (aE v6.2 (len x.2)))) x.1)) x.2)
          (some v6.2)
          (v5 (wr .u32 (aJ (wr .u32 (aE (wr .u32 (nM v6.1 16777619)) (wr .u32 (n8 (aA x.1 (toN v6.2) 0))))) (wr .u32 (nM v0.2 (wr .u32 (n8 (aA x.1 (toN (w64 (aE v6.2 (len x.2)))) 0)))))),w64 (aJ v6.2 1)))))
        (v5 (wr .u32 (aJ (wr .u32 (aE (wr .u32 (nM v6.1 16777619)) (wr .u32 (n8 (aA x.1 (toN v6.2) 0))))) (wr .u32 (nM v0.2 (wr .u32 (n8 (aA x.1 (toN (w64 (aE v6.2 (len x.2)))) 0)))))),w64 (aJ v6.2 1))))))
     (v4 ())) N (v1,w64 (aJ (w64 (aJ (len x.1) (len x.2))) 1)))
  fun v7 =>
  cnd (ieq v1 v0.1)
   (grd (in2 (w64 (aJ (len x.1) (len x.2))) (len x.1))
    (cnd (seq (cS (toN (w64 (aJ (len x.1) (len x.2)))) x.1) x.2)
     (some (w64 (aJ (len x.1) (len x.2))))
     (v7 ())))
   (v7 ()))
 fun v8 =>
 bG (fun v9 (v10:Int×Int) =>
  cnd (ile (w64 (aJ (len x.1) (len x.2))) v10.2)
   (grd (inb v10.2 (len x.1))
    (v9 (wr .u32 (aE (wr .u32 (nM v10.1 16777619)) (wr .u32 (n8 (aA x.1 (toN v10.2) 0)))),w64 (aJ v10.2 1))))
   (v8 v10.1)) N (0,w64 (aJ (len x.1) 1))
def F4:List PK:=[.k (.v (.str) []),.k (.v (.str) [])]
def F5:List Kd:=[.v (.int .i64) []]
def q71(N:Nat) (x:Y_×Y_):Option (Int) :=
 cnd (ieq (len x.2) 0)
  (some (len x.1))
  (cnd (ieq (len x.2) 1)
   (grd (inb 0 (len x.2))
    (bnd (q68 N (x.1,aA x.2 (toN 0) 0)) fun v0 =>
    some v0))
   (cnd (ieq (len x.2) (len x.1))
    (cnd (seq x.2 x.1)
     (some 0)
     (some (-1)))
    (cnd (ilt (len x.1) (len x.2))
     (some (-1))
     (bnd (q70 N x) fun v1 =>
     some v1))))
def yK:List PK:=[.k (.v (.str) []),.k (.v (.int .i64) []),.k (.v (.int .i64) [])]
def yL:List Kd:=[.v (.slice Y8) [0]]
def kO(N:Nat) (x:Y_×Int×Int):Option (List (Int×Int×Int)) :=
 grd (in2 x.2.1 (len x.1)) <|
 bnd (q67 N (bO (toN x.2.1) x.1,([10]:Y_))) fun v0 =>
 grd (in2 x.2.1 (len x.1)) <|
 bnd (q71 N (bO (toN x.2.1) x.1,([10]:Y_))) fun v1 =>
 some ([(w64 (aE 1 v0),w64 (aJ x.2.1 v1),x.2.2)]:List (Int×Int×Int))
def dQ:List PK:=[.k (.v (.str) []),.k (.v (.u8) [])]
def dR:List Kd:=[.v (.int .i64) []]
def dD(N:Nat) (x:Y_×UInt8):Option (Int):=eZ N x
def F6:List PK:=[.k (.v (.str) []),.k (.v (.u8) [])]
def F7:List Kd:=[.v (.int .i64) []]
def q72(N:Nat) (x:Y_×UInt8):Option (Int) :=
 bnd (dD N x) fun v0 =>
 some v0
def F8:List PK:=[.k (.v (.str) []),.k (.v (.u8) [])]
def F9:List Kd:=[.v (.int .i64) []]
def q73(N:Nat) (x:Y_×UInt8):Option (Int) :=
 bnd (q72 N x) fun v0 =>
 some v0
def LT:List PK:=[.k (.v (.str) []),.k (.v (.str) [])]
def LU:List Kd:=[.v (.bool) []]
def q74(N:Nat) (x:Y_×Y_):Option (Bool) :=
 cnd (ile (len x.2) (len x.1))
  (grd (in2 (len x.2) (len x.1))
   (some (seq (bO (toN (len x.2)) x.1) x.2)))
  (some false)
def LV:List PK:=[.k (.v (.str) []),.k (.v (.str) [])]
def LW:List Kd:=[.v (.bool) []]
def q75(N:Nat) (x:Y_×Y_):Option (Bool) :=
 bnd (q74 N x) fun v0 =>
 some v0
def kF:List PK:=[.k (.v (.str) []),.k (.v (.int .i64) [])]
def kG:List Kd:=[.v (.str) [],.v (.int .i64) []]
def eN(N:Nat) (x:Y_×Int):Option (Y_×Int) :=
 cnd (ile (len x.1) x.2)
  (some (([]:Y_),x.2))
  (grd (inb x.2 (len x.1))
   (bnd (q57 N (aA x.1 (toN x.2) 0)) fun v0 =>
   cnd (bP v0)
    (some (([]:Y_),x.2))
    (jn (fun (v1:Int) =>
     grd (in3 x.2 v1 (len x.1)) <|
     some (cS (toN x.2) (bO (toN v1) x.1),v1))
    fun v2 =>
    bG (fun v3 (v4:Int) =>
     cnd (ilt v4 (len x.1))
      (grd (inb v4 (len x.1))
       (bnd (q58 N (aA x.1 (toN v4) 0)) fun v5 =>
       cnd v5
        (v3 (w64 (aE v4 1)))
        (v2 v4)))
      (v2 v4)) N x.2)))
def G0:List PK:=[.k (.v (.u8) [])]
def G1:List Kd:=[.v (.bool) []]
def q76(N:Nat) (x:UInt8):Option (Bool) :=
 cnd (ieq (n8 x) (n8 9))
  (some true)
  (cnd (ieq (n8 x) (n8 10))
   (some true)
   (cnd (ieq (n8 x) (n8 13))
    (some true)
    (some (ieq (n8 x) (n8 32)))))
def EE:List PK:=[.k (.v (.str) []),.k (.v (.int .i64) [])]
def EF:List Kd:=[.v (.int .i64) []]
def q77(N:Nat) (x:Y_×Int):Option (Int) :=
 jn (fun (v0:Int) =>
  some v0)
 fun v1 =>
 bG (fun v2 (v3:Int) =>
  cnd (ilt v3 (len x.1))
   (grd (inb v3 (len x.1))
    (bnd (q76 N (aA x.1 (toN v3) 0)) fun v4 =>
    cnd v4
     (v2 (w64 (aE v3 1)))
     (v1 v3)))
   (v1 v3)) N x.2
def G2:List PK:=[.k (.v (.str) []),.k (.v (.int .i64) [])]
def G3:List Kd:=[.v (.st (.pair (.str) (.str))) [],.v (.int .i64) [],.v (.bool) []]
def q78(N:Nat) (x:Y_×Int):Option (D6×Int×Bool) :=
 bnd (eN N x) fun v0 =>
 cnd (seq v0.1 ([]:Y_))
  (some ((([]:Y_),([]:Y_)),0,false))
  (bnd (q77 N (x.1,v0.2)) fun v1 =>
  cnd (ile (len x.1) v1)
   (some ((([]:Y_),([]:Y_)),0,false))
   (grd (inb v1 (len x.1))
    (cnd (ine (n8 (aA x.1 (toN v1) 0)) (n8 61))
     (some ((([]:Y_),([]:Y_)),0,false))
     (bnd (q77 N (x.1,w64 (aE v1 1))) fun v2 =>
     jn (fun (v3:Unit) =>
      jn (fun (v4:Int) =>
       cnd (ile (len x.1) v4)
        (some ((([]:Y_),([]:Y_)),0,false))
        (grd (inb v4 (len x.1))
         (grd (inb v2 (len x.1))
          (cnd (ine (n8 (aA x.1 (toN v4) 0)) (n8 (aA x.1 (toN v2) 0)))
           (some ((([]:Y_),([]:Y_)),0,false))
           (grd (in3 (w64 (aE v2 1)) v4 (len x.1))
            (some ((v0.1,cS (toN (w64 (aE v2 1))) (bO (toN v4) x.1)),w64 (aE v4 1),true)))))))
      fun v5 =>
      bG (fun v6 (v7:Int) =>
       cnd (ilt v7 (len x.1))
        (grd (inb v7 (len x.1))
         (grd (inb v2 (len x.1))
          (cnd (ine (n8 (aA x.1 (toN v7) 0)) (n8 (aA x.1 (toN v2) 0)))
           (grd (inb v7 (len x.1))
            (cnd (ine (n8 (aA x.1 (toN v7) 0)) (n8 60))
             (v6 (w64 (aE v7 1)))
             (v5 v7)))
           (v5 v7))))
        (v5 v7)) N (w64 (aE v2 1)))
     fun v8 =>
     cnd (ile (len x.1) v2)
      (some ((([]:Y_),([]:Y_)),0,false))
      (grd (inb v2 (len x.1))
       (cnd (ine (n8 (aA x.1 (toN v2) 0)) (n8 34))
        (grd (inb v2 (len x.1))
         (cnd (ine (n8 (aA x.1 (toN v2) 0)) (n8 39))
          (some ((([]:Y_),([]:Y_)),0,false))
          (v8 ())))
        (v8 ())))))))
def G4:List PK:=[.k (.v (.str) [])]
def G5:List Kd:=[.v Y7 [2],.v (.int .i64) [],.v (.bool) []]
def q79(N:Nat) (x:Y_):Option ((Int×Y_×(List D6)×Y_)×Int×Bool) :=
 bnd (eN N (x,1)) fun v0 =>
 cnd (seq v0.1 ([]:Y_))
  (some ((0,([]:Y_),([]:List D6),([]:Y_)),0,false))
  (bG (fun v1 (v2:Int×Int×Y_×(List D6)×Y_) =>
   bnd (q77 N (x,v2.1)) fun v3 =>
   jn (fun (v4:Bool) =>
    cnd v4
     (some (v2.2,w64 (aE v3 1),true))
     (jn (fun (v5:Bool) =>
      cnd v5
       (some ((3,v2.2.2),w64 (aE v3 2),true))
       (cnd (ieq v3 v2.1)
        (some ((0,([]:Y_),([]:List D6),([]:Y_)),0,false))
        (bnd (q78 N (x,v3)) fun v6 =>
        cnd (bP v6.2.2)
         (some ((0,([]:Y_),([]:List D6),([]:Y_)),0,false))
         (grd (dV (aE (len v2.2.2.2.1) (len ([v6.1]:List D6))) 32)
          (v1 (v6.2.1,v2.2.1,v2.2.2.1,bH v2.2.2.2.1 ([v6.1]:List D6),v2.2.2.2.2))))))
     fun v7 =>
     cnd (ilt (w64 (aE v3 1)) (len x))
      (grd (inb v3 (len x))
       (cnd (ieq (n8 (aA x (toN v3) 0)) (n8 47))
        (grd (inb (w64 (aE v3 1)) (len x))
         (v7 (ieq (n8 (aA x (toN (w64 (aE v3 1))) 0)) (n8 62))))
        (v7 false)))
      (v7 false)))
   fun v8 =>
   cnd (ilt v3 (len x))
    (grd (inb v3 (len x))
     (v8 (ieq (n8 (aA x (toN v3) 0)) (n8 62))))
    (v8 false)) N (v0.2,1,v0.1,([]:List D6),([]:Y_)))
def qX:List PK:=[.k (.v (.str) [])]
def qY:List Kd:=[.v Y7 [2],.v (.int .i64) [],.v (.bool) []]
def eP(N:Nat) (x:Y_):Option ((Int×Y_×(List D6)×Y_)×Int×Bool) :=
 grd (inb 0 (len x)) <|
 cnd (ine (n8 (aA x (toN 0) 0)) (n8 60))
  (bnd (q73 N (x,60)) fun v0 =>
  cnd (ilt v0 0)
   (grd (in2 (len x) (len x))
    (some ((0,([]:Y_),([]:List D6),bO (toN (len x)) x),len x,true)))
   (grd (in2 v0 (len x))
    (some ((0,([]:Y_),([]:List D6),bO (toN v0) x),v0,true))))
  (jn (fun (v1:Unit) =>
   bnd (q75 N (x,([60,47]:Y_))) fun v2 =>
   cnd v2
    (bnd (eN N (x,2)) fun v3 =>
    bnd (q77 N (x,v3.2)) fun v4 =>
    cnd (seq v3.1 ([]:Y_))
     (some ((0,([]:Y_),([]:List D6),([]:Y_)),0,false))
     (cnd (ile (len x) v4)
      (some ((0,([]:Y_),([]:List D6),([]:Y_)),0,false))
      (grd (inb v4 (len x))
       (cnd (ine (n8 (aA x (toN v4) 0)) (n8 62))
        (some ((0,([]:Y_),([]:List D6),([]:Y_)),0,false))
        (some ((2,v3.1,([]:List D6),([]:Y_)),w64 (aE v4 1),true))))))
    (bnd (q79 N x) fun v5 =>
    some v5))
  fun v6 =>
  bG (fun v7 (v8:Int) =>
   cnd (ilt v8 2)
    (grd (inb v8 (ofN 2))
     (grd (ieq (len (aI 2 ([]:Y_))) (ofN 2))
      (grd (inb 0 (ofN 2))
       (grd (ilt 0 (len ([aA (aA ([([([60,63]:Y_),([63,62]:Y_)]:List Y_),([([60,33,45,45]:Y_),([45,45,62]:Y_)]:List Y_)]:List (List Y_)) (toN v8) (aI 2 [])) 0 [],aA (aA ([([([60,63]:Y_),([63,62]:Y_)]:List Y_),([([60,33,45,45]:Y_),([45,45,62]:Y_)]:List Y_)]:List (List Y_)) (toN v8) (aI 2 [])) 1 []]:List Y_)))
        (bnd (q75 N (x,aA ([aA (aA ([([([60,63]:Y_),([63,62]:Y_)]:List Y_),([([60,33,45,45]:Y_),([45,45,62]:Y_)]:List Y_)]:List (List Y_)) (toN v8) (aI 2 [])) 0 [],aA (aA ([([([60,63]:Y_),([63,62]:Y_)]:List Y_),([([60,33,45,45]:Y_),([45,45,62]:Y_)]:List Y_)]:List (List Y_)) (toN v8) (aI 2 [])) 1 []]:List Y_) (toN 0) [])) fun v9 =>
        cnd v9
         (grd (inb 0 (ofN 2))
          (grd (ilt 0 (len ([aA (aA ([([([60,63]:Y_),([63,62]:Y_)]:List Y_),([([60,33,45,45]:Y_),([45,45,62]:Y_)]:List Y_)]:List (List Y_)) (toN v8) (aI 2 [])) 0 [],aA (aA ([([([60,63]:Y_),([63,62]:Y_)]:List Y_),([([60,33,45,45]:Y_),([45,45,62]:Y_)]:List Y_)]:List (List Y_)) (toN v8) (aI 2 [])) 1 []]:List Y_)))
           (grd (in2 (len (aA ([aA (aA ([([([60,63]:Y_),([63,62]:Y_)]:List Y_),([([60,33,45,45]:Y_),([45,45,62]:Y_)]:List Y_)]:List (List Y_)) (toN v8) (aI 2 [])) 0 [],aA (aA ([([([60,63]:Y_),([63,62]:Y_)]:List Y_),([([60,33,45,45]:Y_),([45,45,62]:Y_)]:List Y_)]:List (List Y_)) (toN v8) (aI 2 [])) 1 []]:List Y_) (toN 0) [])) (len x))
            (grd (inb 1 (ofN 2))
             (grd (ilt 1 (len ([aA (aA ([([([60,63]:Y_),([63,62]:Y_)]:List Y_),([([60,33,45,45]:Y_),([45,45,62]:Y_)]:List Y_)]:List (List Y_)) (toN v8) (aI 2 [])) 0 [],aA (aA ([([([60,63]:Y_),([63,62]:Y_)]:List Y_),([([60,33,45,45]:Y_),([45,45,62]:Y_)]:List Y_)]:List (List Y_)) (toN v8) (aI 2 [])) 1 []]:List Y_)))
              (bnd (strings_Index N (cS (toN (len (aA ([aA (aA ([([([60,63]:Y_),([63,62]:Y_)]:List Y_),([([60,33,45,45]:Y_),([45,45,62]:Y_)]:List Y_)]:List (List Y_)) (toN v8) (aI 2 [])) 0 [],aA (aA ([([([60,63]:Y_),([63,62]:Y_)]:List Y_),([([60,33,45,45]:Y_),([45,45,62]:Y_)]:List Y_)]:List (List Y_)) (toN v8) (aI 2 [])) 1 []]:List Y_) (toN 0) []))) x,aA ([aA (aA ([([([60,63]:Y_),([63,62]:Y_)]:List Y_),([([60,33,45,45]:Y_),([45,45,62]:Y_)]:List Y_)]:List (List Y_)) (toN v8) (aI 2 [])) 0 [],aA (aA ([([([60,63]:Y_),([63,62]:Y_)]:List Y_),([([60,33,45,45]:Y_),([45,45,62]:Y_)]:List Y_)]:List (List Y_)) (toN v8) (aI 2 [])) 1 []]:List Y_) (toN 1) [])) fun v10 =>
              grd (inb 0 (ofN 2)) <|
              grd (ilt 0 (len ([aA (aA ([([([60,63]:Y_),([63,62]:Y_)]:List Y_),([([60,33,45,45]:Y_),([45,45,62]:Y_)]:List Y_)]:List (List Y_)) (toN v8) (aI 2 [])) 0 [],aA (aA ([([([60,63]:Y_),([63,62]:Y_)]:List Y_),([([60,33,45,45]:Y_),([45,45,62]:Y_)]:List Y_)]:List (List Y_)) (toN v8) (aI 2 [])) 1 []]:List Y_))) <|
              grd (inb 0 (ofN 2)) <|
              grd (ilt 0 (len ([aA (aA ([([([60,63]:Y_),([63,62]:Y_)]:List Y_),([([60,33,45,45]:Y_),([45,45,62]:Y_)]:List Y_)]:List (List Y_)) (toN v8) (aI 2 [])) 0 [],aA (aA ([([([60,63]:Y_),([63,62]:Y_)]:List Y_),([([60,33,45,45]:Y_),([45,45,62]:Y_)]:List Y_)]:List (List Y_)) (toN v8) (aI 2 [])) 1 []]:List Y_))) <|
              grd (inb 1 (ofN 2)) <|
              grd (ilt 1 (len ([aA (aA ([([([60,63]:Y_),([63,62]:Y_)]:List Y_),([([60,33,45,45]:Y_),([45,45,62]:Y_)]:List Y_)]:List (List Y_)) (toN v8) (aI 2 [])) 0 [],aA (aA ([([([60,63]:Y_),([63,62]:Y_)]:List Y_),([([60,33,45,45]:Y_),([45,45,62]:Y_)]:List Y_)]:List (List Y_)) (toN v8) (aI 2 [])) 1 []]:List Y_))) <|
              some ((4,([]:Y_),([]:List D6),aA ([aA (aA ([([([60,63]:Y_),([63,62]:Y_)]:List Y_),([([60,33,45,45]:Y_),([45,45,62]:Y_)]:List Y_)]:List (List Y_)) (toN v8) (aI 2 [])) 0 [],aA (aA ([([([60,63]:Y_),([63,62]:Y_)]:List Y_),([([60,33,45,45]:Y_),([45,45,62]:Y_)]:List Y_)]:List (List Y_)) (toN v8) (aI 2 [])) 1 []]:List Y_) (toN 0) []),w64 (aE (w64 (aE (len (aA ([aA (aA ([([([60,63]:Y_),([63,62]:Y_)]:List Y_),([([60,33,45,45]:Y_),([45,45,62]:Y_)]:List Y_)]:List (List Y_)) (toN v8) (aI 2 [])) 0 [],aA (aA ([([([60,63]:Y_),([63,62]:Y_)]:List Y_),([([60,33,45,45]:Y_),([45,45,62]:Y_)]:List Y_)]:List (List Y_)) (toN v8) (aI 2 [])) 1 []]:List Y_) (toN 0) [])) v10)) (len (aA ([aA (aA ([([([60,63]:Y_),([63,62]:Y_)]:List Y_),([([60,33,45,45]:Y_),([45,45,62]:Y_)]:List Y_)]:List (List Y_)) (toN v8) (aI 2 [])) 0 [],aA (aA ([([([60,63]:Y_),([63,62]:Y_)]:List Y_),([([60,33,45,45]:Y_),([45,45,62]:Y_)]:List Y_)]:List (List Y_)) (toN v8) (aI 2 [])) 1 []]:List Y_) (toN 1) []))),ile 0 v10)))))))
         (v7 (w64 (aE v8 1))))))))
    (v6 ())) N 0)
def kP:List PK:=[.k (.v (.str) []),.k (.v (.str) [])]
def kQ:List Kd:=[.v (.str) []]
def gI(N:Nat) (x:Y_×Y_):Option Y_:=iX N x
def qZ:List PK:=[.k (.v (.str) [])]
def rA:List Kd:=[.v (.str) []]
def rB(N:Nat) (x:Y_):Option Y_:=nI N x
def G6:List PK:=[.k (.v (.u8) []),.k (.v (.int .i64) [])]
def G7:List Kd:=[.v (.int .i64) []]
def q80(N:Nat) (x:UInt8×Int):Option (Int) :=
 jn (fun (v0:Int) =>
  cnd (ile x.2 v0)
   (some (-1))
   (some v0))
 fun v1 =>
 jn (fun (v2:Bool) =>
  cnd v2
   (v1 (w64 (n8 (b8 (aJ (n8 x.1) (n8 48))))))
   (jn (fun (v3:Bool) =>
    cnd v3
     (v1 (w64 (aE (w64 (n8 (b8 (aJ (n8 x.1) (n8 97))))) 10)))
     (cnd (ile (n8 65) (n8 x.1))
      (cnd (ile (n8 x.1) (n8 70))
       (v1 (w64 (aE (w64 (n8 (b8 (aJ (n8 x.1) (n8 65))))) 10)))
       (v1 (-1)))
      (v1 (-1))))
   fun v4 =>
   cnd (ile (n8 97) (n8 x.1))
    (v4 (ile (n8 x.1) (n8 102)))
    (v4 false)))
 fun v5 =>
 cnd (ile (n8 48) (n8 x.1))
  (v5 (ile (n8 x.1) (n8 57)))
  (v5 false)
def G8:List PK:=[.k (.v (.str) [])]
def G9:List Kd:=[.v (.str) [],.v (.int .i64) [],.v (.int .i64) []]
def q81(N:Nat) (x:Y_):Option (Y_×Int×Int) :=
 jn (fun (v0:Unit) =>
  jn (fun (v1:Int×Int×Int) =>
   jn (fun (v2:Int×Int) =>
    cnd (ieq v2.1 v1.1)
     (some (([]:Y_),0,4))
     (cnd (ilt v1.2.2 (w64 (aJ v2.1 v1.1)))
      (some (([]:Y_),0,4))
      (cnd (ieq v2.1 (len x))
       (some (([]:Y_),0,4))
       (grd (inb v2.1 (len x))
        (cnd (ine (n8 (aA x (toN v2.1) 0)) (n8 59))
         (some (([]:Y_),0,4))
         (bnd (q12 N (wr .i32 v2.2)) fun v3 =>
         cnd (ilt v3 0)
          (some (([]:Y_),0,10))
          (some (enc (wr .i32 v2.2),w64 (aE v2.1 1),0))))))))
   fun v4 =>
   bG (fun v5 (v6:Int×Int) =>
    cnd (ilt v6.1 (len x))
     (grd (inb v6.1 (len x))
      (bnd (q80 N (aA x (toN v6.1) 0,v1.2.1)) fun v7 =>
      cnd (ile 0 v7)
       (grd (inb v6.1 (len x))
        (bnd (q80 N (aA x (toN v6.1) 0,v1.2.1)) fun v8 =>
        v5 (w64 (aE v6.1 1),kY (w64 (aE (w64 (nM v6.2 v1.2.1)) v8)) 16777216)))
       (v4 v6)))
     (v4 v6)) N (v1.1,0))
  fun v9 =>
  bnd (q75 N (x,([38,35,120]:Y_))) fun v10 =>
  cnd v10
   (v9 (3,16,5))
   (bnd (q75 N (x,([38,35]:Y_))) fun v11 =>
   cnd (bP v11)
    (some (([]:Y_),0,4))
    (v9 (2,10,6))))
 fun v12 =>
 bG (fun v13 (v14:Int) =>
  cnd (ilt v14 5)
   (grd (inb v14 (ofN 5))
    (grd (ieq (len (aI 2 ([]:Y_))) (ofN 2))
     (grd (inb 0 (ofN 2))
      (grd (ilt 0 (len ([aA (aA ([([aA (aA gl2 0 (aI 2 [])) 0 [],aA (aA gl2 0 (aI 2 [])) 1 []]:List Y_),([aA (aA gl2 1 (aI 2 [])) 0 [],aA (aA gl2 1 (aI 2 [])) 1 []]:List Y_),([aA (aA gl2 2 (aI 2 [])) 0 [],aA (aA gl2 2 (aI 2 [])) 1 []]:List Y_),([aA (aA gl2 3 (aI 2 [])) 0 [],aA (aA gl2 3 (aI 2 [])) 1 []]:List Y_),([aA (aA gl2 4 (aI 2 [])) 0 [],aA (aA gl2 4 (aI 2 [])) 1 []]:List Y_)]:List (List Y_)) (toN v14) (aI 2 [])) 0 [],aA (aA ([([aA (aA gl2 0 (aI 2 [])) 0 [],aA (aA gl2 0 (aI 2 [])) 1 []]:List Y_),([aA (aA gl2 1 (aI 2 [])) 0 [],aA (aA gl2 1 (aI 2 [])) 1 []]:List Y_),([aA (aA gl2 2 (aI 2 [])) 0 [],aA (aA gl2 2 (aI 2 [])) 1 []]:List Y_),([aA (aA gl2 3 (aI 2 [])) 0 [],aA (aA gl2 3 (aI 2 [])) 1 []]:List Y_),([aA (aA gl2 4 (aI 2 [])) 0 [],aA (aA gl2 4 (aI 2 [])) 1 []]:List Y_)]:List (List Y_)) (toN v14) (aI 2 [])) 1 []]:List Y_)))
       (bnd (q75 N (x,aA ([aA (aA ([([aA (aA gl2 0 (aI 2 [])) 0 [],aA (aA gl2 0 (aI 2 [])) 1 []]:List Y_),([aA (aA gl2 1 (aI 2 [])) 0 [],aA (aA gl2 1 (aI 2 [])) 1 []]:List Y_),([aA (aA gl2 2 (aI 2 [])) 0 [],aA (aA gl2 2 (aI 2 [])) 1 []]:List Y_),([aA (aA gl2 3 (aI 2 [])) 0 [],aA (aA gl2 3 (aI 2 [])) 1 []]:List Y_),([aA (aA gl2 4 (aI 2 [])) 0 [],aA (aA gl2 4 (aI 2 [])) 1 []]:List Y_)]:List (List Y_)) (toN v14) (aI 2 [])) 0 [],aA (aA ([([aA (aA gl2 0 (aI 2 [])) 0 [],aA (aA gl2 0 (aI 2 [])) 1 []]:List Y_),([aA (aA gl2 1 (aI 2 [])) 0 [],aA (aA gl2 1 (aI 2 [])) 1 []]:List Y_),([aA (aA gl2 2 (aI 2 [])) 0 [],aA (aA gl2 2 (aI 2 [])) 1 []]:List Y_),([aA (aA gl2 3 (aI 2 [])) 0 [],aA (aA gl2 3 (aI 2 [])) 1 []]:List Y_),([aA (aA gl2 4 (aI 2 [])) 0 [],aA (aA gl2 4 (aI 2 [])) 1 []]:List Y_)]:List (List Y_)) (toN v14) (aI 2 [])) 1 []]:List Y_) (toN 0) [])) fun v15 =>
       cnd v15
        (grd (inb 1 (ofN 2))
         (grd (ilt 1 (len ([aA (aA ([([aA (aA gl2 0 (aI 2 [])) 0 [],aA (aA gl2 0 (aI 2 [])) 1 []]:List Y_),([aA (aA gl2 1 (aI 2 [])) 0 [],aA (aA gl2 1 (aI 2 [])) 1 []]:List Y_),([aA (aA gl2 2 (aI 2 [])) 0 [],aA (aA gl2 2 (aI 2 [])) 1 []]:List Y_),([aA (aA gl2 3 (aI 2 [])) 0 [],aA (aA gl2 3 (aI 2 [])) 1 []]:List Y_),([aA (aA gl2 4 (aI 2 [])) 0 [],aA (aA gl2 4 (aI 2 [])) 1 []]:List Y_)]:List (List Y_)) (toN v14) (aI 2 [])) 0 [],aA (aA ([([aA (aA gl2 0 (aI 2 [])) 0 [],aA (aA gl2 0 (aI 2 [])) 1 []]:List Y_),([aA (aA gl2 1 (aI 2 [])) 0 [],aA (aA gl2 1 (aI 2 [])) 1 []]:List Y_),([aA (aA gl2 2 (aI 2 [])) 0 [],aA (aA gl2 2 (aI 2 [])) 1 []]:List Y_),([aA (aA gl2 3 (aI 2 [])) 0 [],aA (aA gl2 3 (aI 2 [])) 1 []]:List Y_),([aA (aA gl2 4 (aI 2 [])) 0 [],aA (aA gl2 4 (aI 2 [])) 1 []]:List Y_)]:List (List Y_)) (toN v14) (aI 2 [])) 1 []]:List Y_)))
          (grd (inb 0 (ofN 2))
           (grd (ilt 0 (len ([aA (aA ([([aA (aA gl2 0 (aI 2 [])) 0 [],aA (aA gl2 0 (aI 2 [])) 1 []]:List Y_),([aA (aA gl2 1 (aI 2 [])) 0 [],aA (aA gl2 1 (aI 2 [])) 1 []]:List Y_),([aA (aA gl2 2 (aI 2 [])) 0 [],aA (aA gl2 2 (aI 2 [])) 1 []]:List Y_),([aA (aA gl2 3 (aI 2 [])) 0 [],aA (aA gl2 3 (aI 2 [])) 1 []]:List Y_),([aA (aA gl2 4 (aI 2 [])) 0 [],aA (aA gl2 4 (aI 2 [])) 1 []]:List Y_)]:List (List Y_)) (toN v14) (aI 2 [])) 0 [],aA (aA ([([aA (aA gl2 0 (aI 2 [])) 0 [],aA (aA gl2 0 (aI 2 [])) 1 []]:List Y_),([aA (aA gl2 1 (aI 2 [])) 0 [],aA (aA gl2 1 (aI 2 [])) 1 []]:List Y_),([aA (aA gl2 2 (aI 2 [])) 0 [],aA (aA gl2 2 (aI 2 [])) 1 []]:List Y_),([aA (aA gl2 3 (aI 2 [])) 0 [],aA (aA gl2 3 (aI 2 [])) 1 []]:List Y_),([aA (aA gl2 4 (aI 2 [])) 0 [],aA (aA gl2 4 (aI 2 [])) 1 []]:List Y_)]:List (List Y_)) (toN v14) (aI 2 [])) 1 []]:List Y_)))
            (some (aA ([aA (aA ([([aA (aA gl2 0 (aI 2 [])) 0 [],aA (aA gl2 0 (aI 2 [])) 1 []]:List Y_),([aA (aA gl2 1 (aI 2 [])) 0 [],aA (aA gl2 1 (aI 2 [])) 1 []]:List Y_),([aA (aA gl2 2 (aI 2 [])) 0 [],aA (aA gl2 2 (aI 2 [])) 1 []]:List Y_),([aA (aA gl2 3 (aI 2 [])) 0 [],aA (aA gl2 3 (aI 2 [])) 1 []]:List Y_),([aA (aA gl2 4 (aI 2 [])) 0 [],aA (aA gl2 4 (aI 2 [])) 1 []]:List Y_)]:List (List Y_)) (toN v14) (aI 2 [])) 0 [],aA (aA ([([aA (aA gl2 0 (aI 2 [])) 0 [],aA (aA gl2 0 (aI 2 [])) 1 []]:List Y_),([aA (aA gl2 1 (aI 2 [])) 0 [],aA (aA gl2 1 (aI 2 [])) 1 []]:List Y_),([aA (aA gl2 2 (aI 2 [])) 0 [],aA (aA gl2 2 (aI 2 [])) 1 []]:List Y_),([aA (aA gl2 3 (aI 2 [])) 0 [],aA (aA gl2 3 (aI 2 [])) 1 []]:List Y_),([aA (aA gl2 4 (aI 2 [])) 0 [],aA (aA gl2 4 (aI 2 [])) 1 []]:List Y_)]:List (List Y_)) (toN v14) (aI 2 [])) 1 []]:List Y_) (toN 1) [],len (aA ([aA (aA ([([aA (aA gl2 0 (aI 2 [])) 0 [],aA (aA gl2 0 (aI 2 [])) 1 []]:List Y_),([aA (aA gl2 1 (aI 2 [])) 0 [],aA (aA gl2 1 (aI 2 [])) 1 []]:List Y_),([aA (aA gl2 2 (aI 2 [])) 0 [],aA (aA gl2 2 (aI 2 [])) 1 []]:List Y_),([aA (aA gl2 3 (aI 2 [])) 0 [],aA (aA gl2 3 (aI 2 [])) 1 []]:List Y_),([aA (aA gl2 4 (aI 2 [])) 0 [],aA (aA gl2 4 (aI 2 [])) 1 []]:List Y_)]:List (List Y_)) (toN v14) (aI 2 [])) 0 [],aA (aA ([([aA (aA gl2 0 (aI 2 [])) 0 [],aA (aA gl2 0 (aI 2 [])) 1 []]:List Y_),([aA (aA gl2 1 (aI 2 [])) 0 [],aA (aA gl2 1 (aI 2 [])) 1 []]:List Y_),([aA (aA gl2 2 (aI 2 [])) 0 [],aA (aA gl2 2 (aI 2 [])) 1 []]:List Y_),([aA (aA gl2 3 (aI 2 [])) 0 [],aA (aA gl2 3 (aI 2 [])) 1 []]:List Y_),([aA (aA gl2 4 (aI 2 [])) 0 [],aA (aA gl2 4 (aI 2 [])) 1 []]:List Y_)]:List (List Y_)) (toN v14) (aI 2 [])) 1 []]:List Y_) (toN 0) []),0))))))
        (v13 (w64 (aE v14 1))))))))
   (v12 ())) N 0
def H2:List PK:=[.k (.b 131 Y9 [1]),.k (.v (.u8) [])]
def H5:List Kd:=[.v (.nif) []]
def q82(N:Nat) (x:(Unit×Y_)×UInt8):Option (Bool×Unit×Y_) :=
 bnd (bJ N ((),x.1.2)) fun v0 =>
 grd (dV (aE (len v0.2) (len ([x.2]:Y_))) 1) <|
 some (false,(),bH v0.2 ([x.2]:Y_))
def H6:List PK:=[.k (.v (.str) [])]
def H7:List Kd:=[.v (.str) [],.v (.int .i64) []]
def q83(N:Nat) (x:Y_):Option (Y_×Int) :=
 jn (fun (v0:Unit×Y_) =>
  some (v0.2,0))
 fun v1 =>
 bG (fun v2 (v3:Int×Unit×Y_) =>
  cnd (ilt v3.1 (len x))
   (grd (inb v3.1 (len x))
    (cnd (ieq (n8 (aA x (toN v3.1) 0)) (n8 60))
     (some (([]:Y_),4))
     (cnd (ieq (n8 (aA x (toN v3.1) 0)) (n8 38))
      (grd (in2 v3.1 (len x))
       (bnd (q81 N (cS (toN v3.1) x)) fun v4 =>
       cnd (ine v4.2.2 0)
        (some (([]:Y_),v4.2.2))
        (bnd (q31 N (((),v3.2.2),v4.1)) fun v5 =>
        v2 (w64 (aE v3.1 v4.2.1),(),v5.2.2.2))))
      (grd (inb v3.1 (len x))
       (bnd (q82 N (((),v3.2.2),aA x (toN v3.1) 0)) fun v6 =>
       v2 (w64 (aE v3.1 1),(),v6.2.2))))))
   (v1 ((),v3.2.2))) N (0,(),([]:Y_))
def LX:List PK:=[.k (.v (.str) [])]
def LY:List Kd:=[.v (.str) [],.v (.int .i64) []]
def q84(N:Nat) (x:Y_):Option (Y_×Int) :=
 bnd (rB N x) fun v0 =>
 bnd (q83 N v0) fun v1 =>
 cnd (ine v1.2 0)
  (some (([]:Y_),v1.2))
  (bnd (q13 N v1.1) fun v2 =>
  cnd (bP v2)
   (some (([]:Y_),10))
   (some (v1.1,0)))
def LZ:List PK:=[.k (.b 174 (.st (.pair (.slice Y2) (.pair (.slice (.str)) (.bool)))) [0,1]),.k (.v (.bool) [])]
def MA:List Kd:=[.v (.int .i64) []]
def q85(N:Nat) (x:((List D1)×(List Y_)×Bool)×Bool):Option (Int×(List D1)×(List Y_)×Bool) :=
 jn (fun (v0:Bool) =>
  cnd v0
   (some (8,x.1))
   (cnd (ilt 15 (len x.1.2.1))
    (some (9,x.1))
    (cnd (ile 8192 (len x.1.1))
     (cnd x.2
      (cnd (bP x.1.2.2)
       (some (9,x.1))
       (some (0,x.1)))
      (cnd (bP false)
       (some (9,x.1))
       (some (0,x.1))))
     (some (0,x.1)))))
 fun v1 =>
 cnd (ieq (len x.1.2.1) 0)
  (cnd x.2
   (v1 true)
   (v1 (ilt 0 (len x.1.1))))
  (v1 false)
def H8:List PK:=[.k (.b 174 (.st (.pair (.slice Y2) (.pair (.slice (.str)) (.bool)))) [0,1]),.k (.v (.str) [])]
def H9:List Kd:=[.v (.int .i64) []]
def q86(N:Nat) (x:((List D1)×(List Y_)×Bool)×Y_):Option (Int×(List D1)×(List Y_)×Bool) :=
 jn (fun (v0:Unit) =>
  bnd (q84 N x.2) fun v1 =>
  cnd (ine v1.2 0)
   (some (v1.2,x.1))
   (bnd (q85 N (x.1,true)) fun v2 =>
   cnd (ine v2.1 0)
    (some v2)
    (cnd v2.2.2.2
     (grd (inb (w64 (aJ (len v2.2.1) 1)) (len v2.2.1))
      (grd (eD (aE (len (aA v2.2.1 (toN (w64 (aJ (len v2.2.1) 1))) zN).2.1) (len v1.1)))
       (grd (inb (w64 (aJ (len v2.2.1) 1)) (len v2.2.1))
        (some (0,xC v2.2.1 (toN (w64 (aJ (len v2.2.1) 1))) ((aA v2.2.1 (toN (w64 (aJ (len v2.2.1) 1))) zN).1,bH (aA v2.2.1 (toN (w64 (aJ (len v2.2.1) 1))) zN).2.1 v1.1,(aA v2.2.1 (toN (w64 (aJ (len v2.2.1) 1))) zN).2.2),v2.2.2)))))
     (grd (dV (aE (len v2.2.1) (len ([(([]:Y_),v1.1,([]:List D6),len v2.2.2.1)]:List D1))) 64)
      (some (0,bH v2.2.1 ([(([]:Y_),v1.1,([]:List D6),len v2.2.2.1)]:List D1),v2.2.2.1,true))))))
 fun v3 =>
 bnd (gI N (x.2,([9,10,13,32]:Y_))) fun v4 =>
 cnd (seq v4 ([]:Y_))
  (bnd (strings_Contains N (x.2,([10]:Y_))) fun v5 =>
  cnd v5
   (some (0,x.1))
   (cnd (ieq (len x.1.2.1) 0)
    (some (0,x.1))
    (v3 ())))
  (v3 ())
def I0:List PK:=[.k (.b 174 (.st (.pair (.slice Y2) (.pair (.slice (.str)) (.bool)))) [0,1]),.k (.v Y7 [])]
def I1:List Kd:=[.v (.int .i64) []]
def q87(N:Nat) (x:((List D1)×(List Y_)×Bool)×Int×Y_×(List D6)×Y_):Option (Int×(List D1)×(List Y_)×Bool) :=
 bnd (dZ N x.2.2.1) fun v0 =>
 cnd (bP v0)
  (some (5,x.1))
  (cnd (ieq (len x.1.2.1) 0)
   (some (8,x.1))
   (grd (inb (w64 (aJ (len x.1.2.1) 1)) (len x.1.2.1))
    (cnd (sne (aA x.1.2.1 (toN (w64 (aJ (len x.1.2.1) 1))) []) x.2.2.1)
     (some (8,x.1))
     (grd (in2 (w64 (aJ (len x.1.2.1) 1)) (ofN (kN x.1.2.1)))
      (some (0,x.1.1,gO x.1.2.1 0 (toN (w64 (aJ (len x.1.2.1) 1))),false))))))
def I2:List PK:=[.k (.b 174 (.st (.pair (.slice Y2) (.pair (.slice (.str)) (.bool)))) [0,1]),.k (.v Y7 [])]
def I3:List Kd:=[.v (.int .i64) []]
def q88(N:Nat) (x:((List D1)×(List Y_)×Bool)×Int×Y_×(List D6)×Y_):Option (Int×(List D1)×(List Y_)×Bool) :=
 jn (fun (v0:List Y_) =>
  jn (fun (v1:Unit) =>
   cnd (ilt 16 (len x.2.2.2.1))
    (some (9,x.1))
    (jn (fun (v2:D1) =>
     bnd (q85 N (x.1,false)) fun v3 =>
     cnd (ine v3.1 0)
      (some v3)
      (grd (dV (aE (len v3.2.1) (len ([v2]:List D1))) 64)
       (cnd (ieq x.2.1 1)
        (grd (dV (aE (len v3.2.2.1) (len ([x.2.2.1]:List Y_))) 16)
         (some (0,bH v3.2.1 ([v2]:List D1),bH v3.2.2.1 ([x.2.2.1]:List Y_),false)))
        (some (0,bH v3.2.1 ([v2]:List D1),v3.2.2.1,false)))))
    fun v4 =>
    bG (fun v5 (v6:Int×Y_×Y_×(List D6)×Int) =>
     cnd (ilt v6.1 (len x.2.2.2.1))
      (jn (fun (v7:D1) =>
       v5 (w64 (aE v6.1 1),v7))
      fun v8 =>
      grd (inb v6.1 (len x.2.2.2.1)) <|
      jn (fun (v9:Unit) =>
       bnd (q84 N (aA x.2.2.2.1 (toN v6.1) ([],[])).2) fun v10 =>
       cnd (ine v10.2 0)
        (some (v10.2,x.1))
        (grd (dV (aE (len v6.2.2.2.1) (len ([((aA x.2.2.2.1 (toN v6.1) ([],[])).1,v10.1)]:List D6))) 32)
         (v8 (v6.2.1,v6.2.2.1,bH v6.2.2.2.1 ([((aA x.2.2.2.1 (toN v6.1) ([],[])).1,v10.1)]:List D6),v6.2.2.2.2))))
      fun v11 =>
      grd (in2 v6.1 (len x.2.2.2.1)) <|
      bG (fun v12 (v13:Int) =>
       cnd (ilt v13 (len (bO (toN v6.1) x.2.2.2.1)))
        (grd (inb v13 (len (bO (toN v6.1) x.2.2.2.1)))
         (cnd (seq (aA (bO (toN v6.1) x.2.2.2.1) (toN v13) ([],[])).1 (aA x.2.2.2.1 (toN v6.1) ([],[])).1)
          (some (7,x.1))
          (v12 (w64 (aE v13 1)))))
        (v11 ())) N 0)
      (v4 v6.2)) N (0,x.2.2.1,([]:Y_),([]:List D6),len x.1.2.1)))
  fun v14 =>
  bG (fun v15 (v16:Int) =>
   cnd (ilt v16 (len v0))
    (grd (inb v16 (len v0))
     (bnd (dZ N (aA v0 (toN v16) [])) fun v17 =>
     cnd (bP v17)
      (some (5,x.1))
      (v15 (w64 (aE v16 1)))))
    (v14 ())) N 0)
 fun v18 =>
 bG (fun v19 (v20:(List Y_)×Int) =>
  cnd (ilt v20.2 (len x.2.2.2.1))
   (grd (inb v20.2 (len x.2.2.2.1))
    (grd (dV (aE (len v20.1) (len ([(aA x.2.2.2.1 (toN v20.2) ([],[])).1]:List Y_))) 16)
     (v19 (bH v20.1 ([(aA x.2.2.2.1 (toN v20.2) ([],[])).1]:List Y_),w64 (aE v20.2 1)))))
   (v18 v20.1)) N (([x.2.2.1]:List Y_),0)
def I4:List PK:=[.k (.b 174 (.st (.pair (.slice Y2) (.pair (.slice (.str)) (.bool)))) [0,1]),.k (.v Y7 []),.k (.v (.bool) [])]
def I5:List Kd:=[.v (.int .i64) []]
def q89(N:Nat) (x:((List D1)×(List Y_)×Bool)×(Int×Y_×(List D6)×Y_)×Bool):Option (Int×(List D1)×(List Y_)×Bool) :=
 cnd (ieq x.2.1.1 0)
  (bnd (q86 N (x.1,x.2.1.2.2.2)) fun v0 =>
  some v0)
  (cnd (ieq x.2.1.1 2)
   (bnd (q87 N (x.1,x.2.1)) fun v1 =>
   some v1)
   (cnd (ieq x.2.1.1 4)
    (cnd (seq x.2.1.2.2.2 ([60,63]:Y_))
     (cnd (bP x.2.2)
      (some (4,x.1))
      (some (0,x.1)))
     (some (0,x.1)))
    (bnd (q88 N (x.1,x.2.1)) fun v2 =>
    some v2)))
def I6:List PK:=[.k (.v (.str) [])]
def I7:List Kd:=[.v (.slice Y2) [0],.v (.slice Y8) [0]]
def q90(N:Nat) (x:Y_):Option ((List D1)×List (Int×Int×Int)) :=
 cnd (ilt 262144 (len x))
  (bnd (kO N (x,0,9)) fun v0 =>
  some (([]:List D1),v0))
  (jn (fun (v1:(List D1)×(List Y_)×Bool) =>
   cnd (ieq (len v1.1) 0)
    (bnd (kO N (x,len x,4)) fun v2 =>
    some (([]:List D1),v2))
    (cnd (ilt 0 (len v1.2.1))
     (bnd (kO N (x,len x,4)) fun v3 =>
     some (([]:List D1),v3))
     (some (v1.1,([]:List (Int×Int×Int))))))
  fun v4 =>
  bG (fun v5 (v6:Int×(List D1)×(List Y_)×Bool) =>
   cnd (ilt v6.1 (len x))
    (grd (in2 v6.1 (len x))
     (bnd (eP N (cS (toN v6.1) x)) fun v7 =>
     cnd (bP v7.2.2)
      (bnd (kO N (x,v6.1,4)) fun v8 =>
      some (([]:List D1),v8))
      (bnd (q89 N (v6.2,v7.1,ieq v6.1 0)) fun v9 =>
      cnd (ine v9.1 0)
       (bnd (kO N (x,v6.1,v9.1)) fun v10 =>
       some (([]:List D1),v10))
       (v5 (w64 (aE v6.1 v7.2.1),v9.2)))))
    (v4 v6.2)) N (0,([]:List D1),([]:List Y_),false))
def I8:List PK:=[.k (.v Y2 []),.k (.v (.str) []),.k (.v (.bool) [])]
def I9:List Kd:=[.v (.bool) []]
def q91(N:Nat) (x:D1×Y_×Bool):Option (Bool) :=
 cnd (seq x.2.1 ([]:Y_))
  (some (seq x.1.1 ([116,116]:Y_)))
  (cnd (seq x.2.1 ([116,116]:Y_))
   (cnd (seq x.1.1 ([112]:Y_))
    (some true)
    (cnd (seq x.1.1 ([114,101,103,105,111,110]:Y_))
     (some x.2.2)
     (some false)))
   (cnd (seq x.2.1 ([112]:Y_))
    (some (seq x.1.1 ([114,111,119]:Y_)))
    (cnd (seq x.2.1 ([114,111,119]:Y_))
     (some (seq x.1.1 ([114,117,110]:Y_)))
     (cnd (seq x.2.1 ([114,117,110]:Y_))
      (some (seq x.1.1 ([]:Y_)))
      (some false)))))
def J0:List PK:=[.k (.v (.str) [])]
def J1:List Kd:=[.v (.slice (.str)) [0],.v (.slice (.str)) [0]]
def q92(N:Nat) (x:Y_):Option (List Y_×List Y_) :=
 cnd (seq x ([116,116]:Y_))
  (some (([([114,97,116,101]:Y_),([108,97,115,116]:Y_)]:List Y_),([([116,105,116,108,101]:Y_),([108,97,110,103]:Y_),([100,114,111,112]:Y_)]:List Y_)))
  (cnd (seq x ([114,101,103,105,111,110]:Y_))
   (some (([([110,97,109,101]:Y_),([116,111,112]:Y_),([104,101,105,103,104,116]:Y_),([108,101,102,116]:Y_),([119,105,100,116,104]:Y_),([97,108,105,103,110]:Y_),([97,110,99,104,111,114]:Y_)]:List Y_),([]:List Y_)))
   (cnd (seq x ([112]:Y_))
    (some (([([105,100]:Y_),([105,110]:Y_),([111,117,116]:Y_),([107,105,110,100]:Y_)]:List Y_),([([114,101,103,105,111,110]:Y_),([115,112,101,97,107,101,114]:Y_)]:List Y_)))
    (cnd (seq x ([114,117,110]:Y_))
     (some (([]:List Y_),([([99,111,108,111,114]:Y_),([105,116,97,108,105,99]:Y_),([117,110,100,101,114,108,105,110,101]:Y_),([114,117,98,121]:Y_)]:List Y_)))
     (some (([]:List Y_),([]:List Y_))))))
def J2:List PK:=[.k (.v (.slice (.str)) []),.k (.v (.str) [])]
def J3:List Kd:=[.v (.bool) []]
def q93(N:Nat) (x:List Y_×Y_):Option (Bool) :=
 jn (fun (v0:Unit) =>
  some false)
 fun v1 =>
 bG (fun v2 (v3:Int) =>
  cnd (ilt v3 (len x.1))
   (grd (inb v3 (len x.1))
    (cnd (seq (aA x.1 (toN v3) []) x.2)
     (some true)
     (v2 (w64 (aE v3 1)))))
   (v1 ())) N 0
def J4:List PK:=[.k (.v Y2 [])]
def J5:List Kd:=[.v (.bool) []]
def q94(N:Nat) (x:D1):Option (Bool) :=
 bnd (q92 N x.1) fun v0 =>
 jn (fun (v1:(List Y_)×Int) =>
  some (ieq v1.2 (len v1.1)))
 fun v2 =>
 bG (fun v3 (v4:(List Y_)×(List Y_)×Int×Int) =>
  cnd (ilt v4.2.2.2 (len x.2.2.1))
   (grd (inb v4.2.2.2 (len x.2.2.1))
    (bnd (q93 N (v4.1,(aA x.2.2.1 (toN v4.2.2.2) ([],[])).1)) fun v5 =>
    cnd v5
     (v3 (v4.1,v4.2.1,w64 (aE v4.2.2.1 1),w64 (aE v4.2.2.2 1)))
     (bnd (q93 N (v4.2.1,(aA x.2.2.1 (toN v4.2.2.2) ([],[])).1)) fun v6 =>
     cnd (bP v6)
      (some false)
      (v3 (v4.1,v4.2.1,v4.2.2.1,w64 (aE v4.2.2.2 1))))))
   (v2 (v4.1,v4.2.2.1))) N (v0.1,v0.2,0,0)
def uC:List PK:=[.k (.b 160 (.st (.pair Y2 (.int .i64))) []),.k (.v (.str) [])]
def uD:List Kd:=[.v (.str) []]
def q95(N:Nat) (x:(D1×Int)×Y_):Option (Y_×D1×Int) :=
 jn (fun (v0:Unit) =>
  some (([]:Y_),x.1))
 fun v1 =>
 bG (fun v2 (v3:Int) =>
  cnd (ilt v3 (len x.1.1.2.2.1))
   (grd (inb v3 (len x.1.1.2.2.1))
    (cnd (seq (aA x.1.1.2.2.1 (toN v3) ([],[])).1 x.2)
     (some ((aA x.1.1.2.2.1 (toN v3) ([],[])).2,x.1))
     (v2 (w64 (aE v3 1)))))
   (v1 ())) N 0
def J6:List PK:=[]
def J7:List Kd:=[.v (.slice (.u8)) []]
def q96(N:Nat) (x:Unit):Option Y_ :=
 some ([1,2,3,4,5,6,7]:Y_)
def J8:List PK:=[.k (.v (.str) [])]
def J9:List Kd:=[.v (.u8) [],.v (.int .i64) []]
def q97(N:Nat) (x:Y_):Option (UInt8×Int) :=
 jn (fun (v0:Unit) =>
  some (0,4))
 fun v1 =>
 bnd (q96 N ()) fun v2 =>
 bG (fun v3 (v4:Int) =>
  cnd (ilt v4 (len v2))
   (grd (inb v4 (len v2))
    (bnd (q49 N (aA v2 (toN v4) 0)) fun v5 =>
    cnd (seq v5 x)
     (some (aA v2 (toN v4) 0,0))
     (v3 (w64 (aE v4 1)))))
   (v1 ())) N 0
def uE:List PK:=[.k (.b 160 (.st (.pair Y2 (.int .i64))) []),.k (.v (.int .i64) [])]
def uF:List Kd:=[]
def q98(N:Nat) (x:(D1×Int)×Int):Option (D1×Int) :=
 cnd (ieq x.1.2 0)
  (some (x.1.1,x.2))
  (some x.1)
def K5:List PK:=[.k (.b 160 (.st (.pair Y2 (.int .i64))) []),.k (.v (.str) [])]
def K6:List Kd:=[.v (.bool) []]
def q99(N:Nat) (x:(D1×Int)×Y_):Option (Bool×D1×Int) :=
 jn (fun (v0:D1×Int) =>
  bnd (q95 N (v0,x.2)) fun v1 =>
  some (seq v1.1 ([49]:Y_),v1.2))
 fun v2 =>
 bG (fun v3 (v4:Int×D1×Int) =>
  cnd (ilt v4.1 (len x.1.1.2.2.1))
   (grd (inb v4.1 (len x.1.1.2.2.1))
    (cnd (seq (aA x.1.1.2.2.1 (toN v4.1) ([],[])).1 x.2)
     (cnd (sne (aA x.1.1.2.2.1 (toN v4.1) ([],[])).2 ([48]:Y_))
      (cnd (sne (aA x.1.1.2.2.1 (toN v4.1) ([],[])).2 ([49]:Y_))
       (bnd (q98 N (v4.2,4)) fun v5 =>
       v3 (w64 (aE v4.1 1),v5))
       (v3 (w64 (aE v4.1 1),v4.2)))
      (v3 (w64 (aE v4.1 1),v4.2)))
     (v3 (w64 (aE v4.1 1),v4.2))))
   (v2 v4.2)) N (0,x.1)
def MB:List PK:=[.k (.v (.str) []),.k (.v (.str) [])]
def MC:List Kd:=[.v (.str) [],.v (.bool) []]
def aEU(N:Nat) (x:Y_×Y_):Option (Y_×Bool) :=
 bnd (q74 N x) fun v0 =>
 cnd (bP v0)
  (some (x.1,false))
  (grd (in2 (len x.2) (len x.1))
   (some (cS (toN (len x.2)) x.1,true)))
def MD:List PK:=[.k (.v (.str) []),.k (.v (.str) [])]
def ME:List Kd:=[.v (.str) [],.v (.bool) []]
def K7(N:Nat) (x:Y_×Y_):Option (Y_×Bool) :=
 bnd (aEU N x) fun v0 =>
 some v0
def gR:List PK:=[.k (.v (.str) []),.k (.v (.int .i64) []),.k (.v (.int .i64) [])]
def gS:List Kd:=[.v (.int .i64) [],.v (.nif) []]
def cW(N:Nat) (x:Y_×Int×Int):Option (Int×Bool):=jH N x
def MF:List PK:=[.k (.v (.str) []),.k (.v (.int .i64) []),.k (.v (.int .i64) [])]
def MG:List Kd:=[.v (.int .i64) [],.v (.int .i64) []]
def K8(N:Nat) (x:Y_×Int×Int):Option (Int×Int) :=
 bnd (K7 N (x.1,([45]:Y_))) fun v0 =>
 jn (fun (v1:Unit) =>
  jn (fun (v2:Unit) =>
   bnd (cW N (x.1,10,64)) fun v3 =>
   cnd v3.2
    (some (0,2))
    (cnd (ilt v3.1 x.2.1)
     (some (0,2))
     (cnd (ilt x.2.2 v3.1)
      (some (0,2))
      (some (v3.1,0)))))
  fun v4 =>
  bG (fun v5 (v6:Int) =>
   cnd (ilt v6 (len v0.1))
    (grd (inb v6 (len v0.1))
     (cnd (ilt (n8 (aA v0.1 (toN v6) 0)) (n8 48))
      (some (0,4))
      (grd (inb v6 (len v0.1))
       (cnd (ilt (n8 57) (n8 (aA v0.1 (toN v6) 0)))
        (some (0,4))
        (v5 (w64 (aE v6 1)))))))
    (v4 ())) N 0)
 fun v7 =>
 cnd (seq v0.1 ([]:Y_))
  (some (0,4))
  (grd (inb 0 (len v0.1))
   (cnd (ieq (n8 (aA v0.1 (toN 0) 0)) (n8 48))
    (cnd (ilt 1 (len v0.1))
     (some (0,4))
     (cnd v0.2
      (some (0,4))
      (v7 ())))
    (v7 ())))
def AY:List PK:=[.k (.b 160 (.st (.pair Y2 (.int .i64))) []),.k (.v (.str) []),.k (.v (.int .i64) [])]
def AZ:List Kd:=[.v (.int .i64) []]
def SH(N:Nat) (x:(D1×Int)×Y_×Int):Option (Int×D1×Int) :=
 bnd (K8 N (x.2.1,0,x.2.2)) fun v0 =>
 bnd (q98 N (x.1,v0.2)) fun v1 =>
 some (v0.1,v1)
def BA:List PK:=[.k (.b 160 (.st (.pair Y2 (.int .i64))) []),.k (.v (.str) []),.k (.v (.int .i64) [])]
def BB:List Kd:=[.v (.int .i64) []]
def MH(N:Nat) (x:(D1×Int)×Y_×Int):Option (Int×D1×Int) :=
 bnd (q95 N (x.1,x.2.1)) fun v0 =>
 bnd (SH N (v0.2,v0.1,x.2.2)) fun v1 =>
 some v1
def MI:List PK:=[.k (.b 160 (.st (.pair Y2 (.int .i64))) []),.k (.v (.str) [])]
def MJ:List Kd:=[.v (.int .i64) []]
def MK(N:Nat) (x:(D1×Int)×Y_):Option (Int×D1×Int) :=
 bnd (MH N (x.1,x.2,32)) fun v0 =>
 some v0
def BC:List PK:=[.k (.b 160 (.st (.pair Y2 (.int .i64))) []),.k (.v (.str) []),.k (.v (.slice (.str)) [])]
def BD:List Kd:=[.v (.int .i64) []]
def EG(N:Nat) (x:(D1×Int)×Y_×List Y_):Option (Int×D1×Int) :=
 bnd (q95 N (x.1,x.2.1)) fun v0 =>
 jn (fun (v1:Unit) =>
  bnd (q98 N (v0.2,4)) fun v2 =>
  some (0,v2))
 fun v3 =>
 bG (fun v4 (v5:Int) =>
  cnd (ilt v5 (len x.2.2))
   (grd (inb v5 (len x.2.2))
    (cnd (seq (aA x.2.2 (toN v5) []) v0.1)
     (some (v5,v0.2))
     (v4 (w64 (aE v5 1)))))
   (v3 ())) N 0
def ML:List PK:=[.k (.v (.str) []),.k (.v (.str) [])]
def MM:List Kd:=[.v (.bool) []]
def aEV(N:Nat) (x:Y_×Y_):Option (Bool) :=
 cnd (ile (len x.2) (len x.1))
  (grd (in2 (w64 (aJ (len x.1) (len x.2))) (len x.1))
   (some (seq (cS (toN (w64 (aJ (len x.1) (len x.2)))) x.1) x.2)))
  (some false)
def MN:List PK:=[.k (.v (.str) []),.k (.v (.str) [])]
def MO:List Kd:=[.v (.str) [],.v (.bool) []]
def aEW(N:Nat) (x:Y_×Y_):Option (Y_×Bool) :=
 bnd (aEV N x) fun v0 =>
 cnd (bP v0)
  (some (x.1,false))
  (grd (in2 (w64 (aJ (len x.1) (len x.2))) (len x.1))
   (some (bO (toN (w64 (aJ (len x.1) (len x.2)))) x.1,true)))
def MP:List PK:=[.k (.v (.str) []),.k (.v (.str) [])]
def MQ:List Kd:=[.v (.str) [],.v (.bool) []]
def aBM(N:Nat) (x:Y_×Y_):Option (Y_×Bool) :=
 bnd (aEW N x) fun v0 =>
 some v0
def MR:List PK:=[.k (.b 160 (.st (.pair Y2 (.int .i64))) []),.k (.v (.str) [])]
def MS:List Kd:=[.v (.int .i64) []]
def K9(N:Nat) (x:(D1×Int)×Y_):Option (Int×D1×Int) :=
 bnd (q95 N x) fun v0 =>
 bnd (aBM N (v0.1,([102]:Y_))) fun v1 =>
 cnd (bP v1.2)
  (bnd (q98 N (v0.2,4)) fun v2 =>
  some (0,v2))
  (bnd (SH N (v0.2,v1.1,5184000)) fun v3 =>
  some v3)
def MT:List PK:=[.k (.v (.str) [])]
def MU:List Kd:=[.v (.u8) [],.v (.int .i64) []]
def aBN(N:Nat) (x:Y_):Option (UInt8×Int) :=
 jn (fun (v0:Unit) =>
  some (0,4))
 fun v1 =>
 bnd (q26 N ()) fun v2 =>
 bG (fun v3 (v4:Int) =>
  cnd (ilt v4 (len v2))
   (grd (inb v4 (len v2))
    (cnd (seq (aA v2 (toN v4) []) x)
     (some (b8 (w64 (aE v4 1)),0))
     (v3 (w64 (aE v4 1)))))
   (v1 ())) N 0
def MV:List PK:=[.k (.b 160 (.st (.pair Y2 (.int .i64))) [])]
def MW:List Kd:=[.v (.u8) []]
def aBO(N:Nat) (x:D1×Int):Option (UInt8×D1×Int) :=
 jn (fun (v0:Unit) =>
  some (0,x))
 fun v1 =>
 bG (fun v2 (v3:Int) =>
  cnd (ilt v3 (len x.1.2.2.1))
   (grd (inb v3 (len x.1.2.2.1))
    (cnd (seq (aA x.1.2.2.1 (toN v3) ([],[])).1 ([99,111,108,111,114]:Y_))
     (bnd (EG N (x,([99,111,108,111,114]:Y_),gl1)) fun v4 =>
     some (b8 v4.1,v4.2))
     (v2 (w64 (aE v3 1)))))
   (v1 ())) N 0
def rC:List PK:=[.k (.d 27 Y1),.k (.v Y2 [])]
def rD:List Kd:=[.v (.int .i64) []]
def mI(N:Nat) (x:D7×Y_×Y_×(List D6)×Int):Option (Int×Y_×Y_×UInt8×Bool×Int×(List D4)×(List D2)×List D3) :=
 jn (fun (v0:D7×D1×Int) =>
  some (v0.2.2,v0.1.1,v0.1.2.1,v0.1.2.2.1,v0.1.2.2.2.1,v0.1.2.2.2.2.1,v0.1.2.2.2.2.2.1,bM v0.1.2.2.2.2.2.2.1 ((aM v0.1.2.2.2.2.2.2.1 zE).1,(aM v0.1.2.2.2.2.2.2.1 zE).2.1,(aM v0.1.2.2.2.2.2.2.1 zE).2.2.1,(aM v0.1.2.2.2.2.2.2.1 zE).2.2.2.1,(aM v0.1.2.2.2.2.2.2.1 zE).2.2.2.2.1,bM (aM v0.1.2.2.2.2.2.2.1 zE).2.2.2.2.2 (aM (aM v0.1.2.2.2.2.2.2.1 zE).2.2.2.2.2 [])),v0.1.2.2.2.2.2.2.2))
 fun v1 =>
 cnd (seq x.2.1 ([116,116]:Y_))
  (bnd (q95 N ((x.2,0),([116,105,116,108,101]:Y_))) fun v2 =>
  bnd (q95 N (v2.2,([108,97,110,103]:Y_))) fun v3 =>
  bnd (q95 N (v3.2,([114,97,116,101]:Y_))) fun v4 =>
  bnd (q97 N v4.1) fun v5 =>
  bnd (q98 N (v4.2,v5.2)) fun v6 =>
  bnd (q99 N (v6,([100,114,111,112]:Y_))) fun v7 =>
  bnd (MH N (v7.2,([108,97,115,116]:Y_),1099511627776)) fun v8 =>
  v1 ((v2.1,v3.1,v5.1,v7.1,v8.1,x.1.2.2.2.2.2.1,bM x.1.2.2.2.2.2.2.1 ((aM x.1.2.2.2.2.2.2.1 zE).1,(aM x.1.2.2.2.2.2.2.1 zE).2.1,(aM x.1.2.2.2.2.2.2.1 zE).2.2.1,(aM x.1.2.2.2.2.2.2.1 zE).2.2.2.1,(aM x.1.2.2.2.2.2.2.1 zE).2.2.2.2.1,bM (aM x.1.2.2.2.2.2.2.1 zE).2.2.2.2.2 (aM (aM x.1.2.2.2.2.2.2.1 zE).2.2.2.2.2 [])),x.1.2.2.2.2.2.2.2),v8.2))
  (cnd (seq x.2.1 ([114,101,103,105,111,110]:Y_))
   (bnd (q95 N ((x.2,0),([110,97,109,101]:Y_))) fun v9 =>
   bnd (MK N (v9.2,([116,111,112]:Y_))) fun v10 =>
   bnd (MK N (v10.2,([104,101,105,103,104,116]:Y_))) fun v11 =>
   bnd (MK N (v11.2,([108,101,102,116]:Y_))) fun v12 =>
   bnd (MK N (v12.2,([119,105,100,116,104]:Y_))) fun v13 =>
   bnd (EG N (v13.2,([97,108,105,103,110]:Y_),gl0)) fun v14 =>
   bnd (EG N (v14.2,([97,110,99,104,111,114]:Y_),([([84,79,80]:Y_),([66,79,84,84,79,77]:Y_)]:List Y_))) fun v15 =>
   grd (dV (aE (len x.1.2.2.2.2.2.1) (len ([(v9.1,v10.1,v11.1,v12.1,v13.1,b8 (w64 (aE v14.1 1)),ieq v15.1 1)]:List D4))) 56) <|
   v1 ((x.1.1,x.1.2.1,x.1.2.2.1,x.1.2.2.2.1,x.1.2.2.2.2.1,bH x.1.2.2.2.2.2.1 ([(v9.1,v10.1,v11.1,v12.1,v13.1,b8 (w64 (aE v14.1 1)),ieq v15.1 1)]:List D4),bM x.1.2.2.2.2.2.2.1 ((aM x.1.2.2.2.2.2.2.1 zE).1,(aM x.1.2.2.2.2.2.2.1 zE).2.1,(aM x.1.2.2.2.2.2.2.1 zE).2.2.1,(aM x.1.2.2.2.2.2.2.1 zE).2.2.2.1,(aM x.1.2.2.2.2.2.2.1 zE).2.2.2.2.1,bM (aM x.1.2.2.2.2.2.2.1 zE).2.2.2.2.2 (aM (aM x.1.2.2.2.2.2.2.1 zE).2.2.2.2.2 [])),x.1.2.2.2.2.2.2.2),v15.2))
   (cnd (seq x.2.1 ([112]:Y_))
    (bnd (MH N ((x.2,0),([105,100]:Y_),1099511627776)) fun v16 =>
    bnd (K9 N (v16.2,([105,110]:Y_))) fun v17 =>
    bnd (K9 N (v17.2,([111,117,116]:Y_))) fun v18 =>
    bnd (q95 N (v18.2,([114,101,103,105,111,110]:Y_))) fun v19 =>
    bnd (q95 N (v19.2,([107,105,110,100]:Y_))) fun v20 =>
    bnd (aBN N v20.1) fun v21 =>
    jn (fun (v22:D1×Int) =>
     bnd (q95 N (v22,([115,112,101,97,107,101,114]:Y_))) fun v23 =>
     grd (dV (aE (len (bM x.1.2.2.2.2.2.2.1 ((aM x.1.2.2.2.2.2.2.1 zE).1,(aM x.1.2.2.2.2.2.2.1 zE).2.1,(aM x.1.2.2.2.2.2.2.1 zE).2.2.1,(aM x.1.2.2.2.2.2.2.1 zE).2.2.2.1,(aM x.1.2.2.2.2.2.2.1 zE).2.2.2.2.1,bM (aM x.1.2.2.2.2.2.2.1 zE).2.2.2.2.2 (aM (aM x.1.2.2.2.2.2.2.1 zE).2.2.2.2.2 [])))) (len ([zE]:List D2))) 88) <|
     v1 ((x.1.1,x.1.2.1,x.1.2.2.1,x.1.2.2.2.1,x.1.2.2.2.2.1,x.1.2.2.2.2.2.1,bM (bH (bM x.1.2.2.2.2.2.2.1 ((aM x.1.2.2.2.2.2.2.1 zE).1,(aM x.1.2.2.2.2.2.2.1 zE).2.1,(aM x.1.2.2.2.2.2.2.1 zE).2.2.1,(aM x.1.2.2.2.2.2.2.1 zE).2.2.2.1,(aM x.1.2.2.2.2.2.2.1 zE).2.2.2.2.1,bM (aM x.1.2.2.2.2.2.2.1 zE).2.2.2.2.2 (aM (aM x.1.2.2.2.2.2.2.1 zE).2.2.2.2.2 []))) ([zE]:List D2)) (v16.1,(v17.1,v18.1),v19.1,v21.1,v23.1,([]:List (List D5))),x.1.2.2.2.2.2.2.2),v23.2))
    fun v24 =>
    cnd (ine v21.2 0)
     (bnd (q98 N (v20.2,4)) fun v25 =>
     v24 v25)
     (v24 v20.2))
    (cnd (seq x.2.1 ([114,111,119]:Y_))
     (grd (inb (w64 (aJ (len x.1.2.2.2.2.2.2.1) 1)) (len x.1.2.2.2.2.2.2.1))
      (grd (ieq (w64 (aJ (len x.1.2.2.2.2.2.2.1) 1)) (aJ (len x.1.2.2.2.2.2.2.1) 1))
       (grd (ieq (ofN (toN (w64 (aJ (len x.1.2.2.2.2.2.2.1) 1)))) (aJ (len x.1.2.2.2.2.2.2.1) 1))
        (grd (dV (aE (len (bM (aM x.1.2.2.2.2.2.2.1 zE).2.2.2.2.2 (aM (aM x.1.2.2.2.2.2.2.1 zE).2.2.2.2.2 []))) (len ([[]]:List (List D5)))) 24)
         (grd (inb (w64 (aJ (len x.1.2.2.2.2.2.2.1) 1)) (len x.1.2.2.2.2.2.2.1))
          (grd (ieq (w64 (aJ (len x.1.2.2.2.2.2.2.1) 1)) (aJ (len x.1.2.2.2.2.2.2.1) 1))
           (grd (ieq (ofN (toN (w64 (aJ (len x.1.2.2.2.2.2.2.1) 1)))) (aJ (len x.1.2.2.2.2.2.2.1) 1))
            (v1 ((x.1.1,x.1.2.1,x.1.2.2.1,x.1.2.2.2.1,x.1.2.2.2.2.1,x.1.2.2.2.2.2.1,bM x.1.2.2.2.2.2.2.1 ((aM x.1.2.2.2.2.2.2.1 zE).1,(aM x.1.2.2.2.2.2.2.1 zE).2.1,(aM x.1.2.2.2.2.2.2.1 zE).2.2.1,(aM x.1.2.2.2.2.2.2.1 zE).2.2.2.1,(aM x.1.2.2.2.2.2.2.1 zE).2.2.2.2.1,bM (bH (bM (aM x.1.2.2.2.2.2.2.1 zE).2.2.2.2.2 (aM (aM x.1.2.2.2.2.2.2.1 zE).2.2.2.2.2 [])) ([[]]:List (List D5))) ([]:List D5)),x.1.2.2.2.2.2.2.2),x.2,0)))))))))
     (cnd (seq x.2.1 ([114,117,110]:Y_))
      (bnd (q95 N ((x.2,0),([114,117,98,121]:Y_))) fun v26 =>
      bnd (aBO N v26.2) fun v27 =>
      bnd (q99 N (v27.2,([105,116,97,108,105,99]:Y_))) fun v28 =>
      bnd (q99 N (v28.2,([117,110,100,101,114,108,105,110,101]:Y_))) fun v29 =>
      grd (inb (w64 (aJ (len x.1.2.2.2.2.2.2.1) 1)) (len x.1.2.2.2.2.2.2.1)) <|
      grd (ieq (w64 (aJ (len x.1.2.2.2.2.2.2.1) 1)) (aJ (len x.1.2.2.2.2.2.2.1) 1)) <|
      grd (ieq (ofN (toN (w64 (aJ (len x.1.2.2.2.2.2.2.1) 1)))) (aJ (len x.1.2.2.2.2.2.2.1) 1)) <|
      grd (inb (w64 (aJ (len x.1.2.2.2.2.2.2.1) 1)) (len x.1.2.2.2.2.2.2.1)) <|
      grd (ieq (w64 (aJ (len x.1.2.2.2.2.2.2.1) 1)) (aJ (len x.1.2.2.2.2.2.2.1) 1)) <|
      grd (ieq (ofN (toN (w64 (aJ (len x.1.2.2.2.2.2.2.1) 1)))) (aJ (len x.1.2.2.2.2.2.2.1) 1)) <|
      grd (inb (w64 (aJ (len (aM x.1.2.2.2.2.2.2.1 zE).2.2.2.2.2) 1)) (len (aM x.1.2.2.2.2.2.2.1 zE).2.2.2.2.2)) <|
      grd (ieq (w64 (aJ (len (aM x.1.2.2.2.2.2.2.1 zE).2.2.2.2.2) 1)) (aJ (len (aM x.1.2.2.2.2.2.2.1 zE).2.2.2.2.2) 1)) <|
      grd (ieq (ofN (toN (w64 (aJ (len (aM x.1.2.2.2.2.2.2.1 zE).2.2.2.2.2) 1)))) (aJ (len (aM x.1.2.2.2.2.2.2.1 zE).2.2.2.2.2) 1)) <|
      grd (dV (aE (len (aM (aM x.1.2.2.2.2.2.2.1 zE).2.2.2.2.2 [])) (len ([(([]:Y_),(v27.1,v28.1,v29.1),v26.1)]:List D5))) 40) <|
      grd (ieq (ofN (toN (w64 (aJ (len (aM x.1.2.2.2.2.2.2.1 zE).2.2.2.2.2) 1)))) (aJ (len (aM x.1.2.2.2.2.2.2.1 zE).2.2.2.2.2) 1)) <|
      v1 ((x.1.1,x.1.2.1,x.1.2.2.1,x.1.2.2.2.1,x.1.2.2.2.2.1,x.1.2.2.2.2.2.1,bM x.1.2.2.2.2.2.2.1 ((aM x.1.2.2.2.2.2.2.1 zE).1,(aM x.1.2.2.2.2.2.2.1 zE).2.1,(aM x.1.2.2.2.2.2.2.1 zE).2.2.1,(aM x.1.2.2.2.2.2.2.1 zE).2.2.2.1,(aM x.1.2.2.2.2.2.2.1 zE).2.2.2.2.1,bM (aM x.1.2.2.2.2.2.2.1 zE).2.2.2.2.2 (bH (aM (aM x.1.2.2.2.2.2.2.1 zE).2.2.2.2.2 []) ([(([]:Y_),(v27.1,v28.1,v29.1),v26.1)]:List D5))),x.1.2.2.2.2.2.2.2),v29.2))
      (grd (inb (w64 (aJ (len x.1.2.2.2.2.2.2.1) 1)) (len x.1.2.2.2.2.2.2.1))
       (grd (ieq (w64 (aJ (len x.1.2.2.2.2.2.2.1) 1)) (aJ (len x.1.2.2.2.2.2.2.1) 1))
        (grd (ieq (ofN (toN (w64 (aJ (len x.1.2.2.2.2.2.2.1) 1)))) (aJ (len x.1.2.2.2.2.2.2.1) 1))
         (grd (inb (w64 (aJ (len x.1.2.2.2.2.2.2.1) 1)) (len x.1.2.2.2.2.2.2.1))
          (grd (ieq (w64 (aJ (len x.1.2.2.2.2.2.2.1) 1)) (aJ (len x.1.2.2.2.2.2.2.1) 1))
           (grd (ieq (ofN (toN (w64 (aJ (len x.1.2.2.2.2.2.2.1) 1)))) (aJ (len x.1.2.2.2.2.2.2.1) 1))
            (grd (inb (w64 (aJ (len (aM x.1.2.2.2.2.2.2.1 zE).2.2.2.2.2) 1)) (len (aM x.1.2.2.2.2.2.2.1 zE).2.2.2.2.2))
             (grd (ieq (w64 (aJ (len (aM x.1.2.2.2.2.2.2.1 zE).2.2.2.2.2) 1)) (aJ (len (aM x.1.2.2.2.2.2.2.1 zE).2.2.2.2.2) 1))
              (grd (ieq (ofN (toN (w64 (aJ (len (aM x.1.2.2.2.2.2.2.1 zE).2.2.2.2.2) 1)))) (aJ (len (aM x.1.2.2.2.2.2.2.1 zE).2.2.2.2.2) 1))
               (grd (ieq (ofN (toN (w64 (aJ (len (aM x.1.2.2.2.2.2.2.1 zE).2.2.2.2.2) 1)))) (aJ (len (aM x.1.2.2.2.2.2.2.1 zE).2.2.2.2.2) 1))
                (grd (inb (w64 (aJ (len (aM (aM x.1.2.2.2.2.2.2.1 zE).2.2.2.2.2 [])) 1)) (len (aM (aM x.1.2.2.2.2.2.2.1 zE).2.2.2.2.2 [])))
                 (v1 ((x.1.1,x.1.2.1,x.1.2.2.1,x.1.2.2.2.1,x.1.2.2.2.2.1,x.1.2.2.2.2.2.1,bM x.1.2.2.2.2.2.2.1 ((aM x.1.2.2.2.2.2.2.1 zE).1,(aM x.1.2.2.2.2.2.2.1 zE).2.1,(aM x.1.2.2.2.2.2.2.1 zE).2.2.1,(aM x.1.2.2.2.2.2.2.1 zE).2.2.2.1,(aM x.1.2.2.2.2.2.2.1 zE).2.2.2.2.1,bM (aM x.1.2.2.2.2.2.2.1 zE).2.2.2.2.2 (xC (aM (aM x.1.2.2.2.2.2.2.1 zE).2.2.2.2.2 []) (toN (w64 (aJ (len (aM (aM x.1.2.2.2.2.2.2.1 zE).2.2.2.2.2 [])) 1))) (x.2.2.1,(aA (aM (aM x.1.2.2.2.2.2.2.1 zE).2.2.2.2.2 []) (toN (w64 (aJ (len (aM (aM x.1.2.2.2.2.2.2.1 zE).2.2.2.2.2 [])) 1))) zU).2))),x.1.2.2.2.2.2.2.2),x.2,0)))))))))))))))))
def MX:List PK:=[.k (.v (.slice Y2) [])]
def MY:List Kd:=[.v Y1 [],.v (.int .i64) [],.v (.int .i64) []]
def aBP(N:Nat) (x:List D1):Option (D7×Int×Int) :=
 bnd (q61 N x) fun v0 =>
 cnd (ine v0 0)
  (some ((([]:Y_),([]:Y_),0,false,0,([]:List D4),([]:List D2),([]:List D3)),0,v0))
  (jn (fun (v1:D7) =>
   bnd (q48 N (v1.1,v1.2.1,v1.2.2.1,v1.2.2.2.1,v1.2.2.2.2.1,v1.2.2.2.2.2.1,bM v1.2.2.2.2.2.2.1 ((aM v1.2.2.2.2.2.2.1 zE).1,(aM v1.2.2.2.2.2.2.1 zE).2.1,(aM v1.2.2.2.2.2.2.1 zE).2.2.1,(aM v1.2.2.2.2.2.2.1 zE).2.2.2.1,(aM v1.2.2.2.2.2.2.1 zE).2.2.2.2.1,bM (aM v1.2.2.2.2.2.2.1 zE).2.2.2.2.2 (aM (aM v1.2.2.2.2.2.2.1 zE).2.2.2.2.2 [])),v1.2.2.2.2.2.2.2)) fun v2 =>
   cnd (ine v2 0)
    (some ((([]:Y_),([]:Y_),0,false,0,([]:List D4),([]:List D2),([]:List D3)),0,v2))
    (some ((v1.1,v1.2.1,v1.2.2.1,v1.2.2.2.1,v1.2.2.2.2.1,v1.2.2.2.2.2.1,bM v1.2.2.2.2.2.2.1 ((aM v1.2.2.2.2.2.2.1 zE).1,(aM v1.2.2.2.2.2.2.1 zE).2.1,(aM v1.2.2.2.2.2.2.1 zE).2.2.1,(aM v1.2.2.2.2.2.2.1 zE).2.2.2.1,(aM v1.2.2.2.2.2.2.1 zE).2.2.2.2.1,bM (aM v1.2.2.2.2.2.2.1 zE).2.2.2.2.2 (aM (aM v1.2.2.2.2.2.2.1 zE).2.2.2.2.2 [])),v1.2.2.2.2.2.2.2),0,0)))
  fun v3 =>
  bG (fun v4 (v5:(List Y_)×Int×Y_×Y_×UInt8×Bool×Int×(List D4)×(List D2)×List D3) =>
   cnd (ilt v5.2.1 (len x))
    (grd (inb v5.2.1 (len x))
     (grd (in2 (aA x (toN v5.2.1) zN).2.2.2 (ofN (kN v5.1)))
      (jn (fun (v6:Y_) =>
       bnd (q91 N (aA x (toN v5.2.1) zN,v6,ieq (len v5.2.2.2.2.2.2.2.2.1) 0)) fun v7 =>
       cnd (bP v7)
        (some ((([]:Y_),([]:Y_),0,false,0,([]:List D4),([]:List D2),([]:List D3)),v5.2.1,4))
        (bnd (q94 N (aA x (toN v5.2.1) zN)) fun v8 =>
        cnd (bP v8)
         (some ((([]:Y_),([]:Y_),0,false,0,([]:List D4),([]:List D2),([]:List D3)),v5.2.1,4))
         (bnd (mI N ((v5.2.2.1,v5.2.2.2.1,v5.2.2.2.2.1,v5.2.2.2.2.2.1,v5.2.2.2.2.2.2.1,v5.2.2.2.2.2.2.2.1,bM v5.2.2.2.2.2.2.2.2.1 ((aM v5.2.2.2.2.2.2.2.2.1 zE).1,(aM v5.2.2.2.2.2.2.2.2.1 zE).2.1,(aM v5.2.2.2.2.2.2.2.2.1 zE).2.2.1,(aM v5.2.2.2.2.2.2.2.2.1 zE).2.2.2.1,(aM v5.2.2.2.2.2.2.2.2.1 zE).2.2.2.2.1,bM (aM v5.2.2.2.2.2.2.2.2.1 zE).2.2.2.2.2 (aM (aM v5.2.2.2.2.2.2.2.2.1 zE).2.2.2.2.2 [])),v5.2.2.2.2.2.2.2.2.2),aA x (toN v5.2.1) zN)) fun v9 =>
         cnd (ine v9.1 0)
          (some ((([]:Y_),([]:Y_),0,false,0,([]:List D4),([]:List D2),([]:List D3)),v5.2.1,v9.1))
          (grd (dV (aE (ofN (toN (aA x (toN v5.2.1) zN).2.2.2)) (len ([(aA x (toN v5.2.1) zN).1]:List Y_))) 16)
           (v4 (bH (bO (toN (aA x (toN v5.2.1) zN).2.2.2) v5.1) ([(aA x (toN v5.2.1) zN).1]:List Y_),w64 (aE v5.2.1 1),v9.2.1,v9.2.2.1,v9.2.2.2.1,v9.2.2.2.2.1,v9.2.2.2.2.2.1,v9.2.2.2.2.2.2.1,bM v9.2.2.2.2.2.2.2.1 ((aM v9.2.2.2.2.2.2.2.1 zE).1,(aM v9.2.2.2.2.2.2.2.1 zE).2.1,(aM v9.2.2.2.2.2.2.2.1 zE).2.2.1,(aM v9.2.2.2.2.2.2.2.1 zE).2.2.2.1,(aM v9.2.2.2.2.2.2.2.1 zE).2.2.2.2.1,bM (aM v9.2.2.2.2.2.2.2.1 zE).2.2.2.2.2 (aM (aM v9.2.2.2.2.2.2.2.1 zE).2.2.2.2.2 [])),v9.2.2.2.2.2.2.2.2))))))
      fun v10 =>
      cnd (ilt 0 (aA x (toN v5.2.1) zN).2.2.2)
       (grd (inb (w64 (aJ (aA x (toN v5.2.1) zN).2.2.2 1)) (ofN (toN (aA x (toN v5.2.1) zN).2.2.2)))
        (v10 (aA v5.1 (nN 0 (toN (w64 (aJ (aA x (toN v5.2.1) zN).2.2.2 1)))) [])))
       (v10 ([]:Y_)))))
    (v3 (v5.2.2.1,v5.2.2.2.1,v5.2.2.2.2.1,v5.2.2.2.2.2.1,v5.2.2.2.2.2.2.1,v5.2.2.2.2.2.2.2.1,bM v5.2.2.2.2.2.2.2.2.1 ((aM v5.2.2.2.2.2.2.2.2.1 zE).1,(aM v5.2.2.2.2.2.2.2.2.1 zE).2.1,(aM v5.2.2.2.2.2.2.2.2.1 zE).2.2.1,(aM v5.2.2.2.2.2.2.2.2.1 zE).2.2.2.1,(aM v5.2.2.2.2.2.2.2.2.1 zE).2.2.2.2.1,bM (aM v5.2.2.2.2.2.2.2.2.1 zE).2.2.2.2.2 (aM (aM v5.2.2.2.2.2.2.2.2.1 zE).2.2.2.2.2 [])),v5.2.2.2.2.2.2.2.2.2))) N (([]:List Y_),0,([]:Y_),([]:Y_),0,false,0,([]:List D4),([]:List D2),([]:List D3)))
def MZ:List PK:=[.k (.v (.str) [])]
def NA:List Kd:=[.v Y1 [],.v (.slice Y8) [0]]
def NB(N:Nat) (x:Y_):Option (D7×List (Int×Int×Int)) :=
 bnd (q90 N x) fun v0 =>
 cnd (ilt 0 (len v0.2))
  (some ((([]:Y_),([]:Y_),0,false,0,([]:List D4),([]:List D2),([]:List D3)),v0.2))
  (bnd (aBP N v0.1) fun v1 =>
  cnd (ine v1.2.2 0)
   (some ((([]:Y_),([]:Y_),0,false,0,([]:List D4),([]:List D2),([]:List D3)),([(1,1,v1.2.2)]:List (Int×Int×Int))))
   (some (v1.1,([]:List (Int×Int×Int)))))
def NC:List PK:=[.k (.v Y1 [])]
def ND:List Kd:=[.v (.st (.pair (.str) (.pair (.str) (.pair (.u8) (.pair (.bool) (.int .i64)))))) []]
def aBQ(N:Nat) (x:D7):Option (Y_×Y_×UInt8×Bool×Int) :=
 some (x.1,x.2.1,x.2.2.1,x.2.2.2.1,x.2.2.2.2.1)
def NE:List PK:=[.k (.v (.slice Y5) []),.k (.v (.slice Y5) [])]
def NF:List Kd:=[.v (.bool) []]
def aBR(N:Nat) (x:(List D4)×List D4):Option (Bool) :=
 cnd (ine (len x.1) (len x.2))
  (some false)
  (jn (fun (v0:Unit) =>
   some true)
  fun v1 =>
  bG (fun v2 (v3:Int) =>
   cnd (ilt v3 (len x.1))
    (grd (inb v3 (len x.1))
     (grd (inb v3 (len x.2))
      (cnd (bP (dT (seq (aA x.1 (toN v3) zG).1 (aA x.2 (toN v3) zG).1) (dT (ieq (aA x.1 (toN v3) zG).2.1 (aA x.2 (toN v3) zG).2.1) (dT (ieq (aA x.1 (toN v3) zG).2.2.1 (aA x.2 (toN v3) zG).2.2.1) (dT (ieq (aA x.1 (toN v3) zG).2.2.2.1 (aA x.2 (toN v3) zG).2.2.2.1) (dT (ieq (aA x.1 (toN v3) zG).2.2.2.2.1 (aA x.2 (toN v3) zG).2.2.2.2.1) (dT (ieq (n8 (aA x.1 (toN v3) zG).2.2.2.2.2.1) (n8 (aA x.2 (toN v3) zG).2.2.2.2.2.1)) (pX (aA x.1 (toN v3) zG).2.2.2.2.2.2 (aA x.2 (toN v3) zG).2.2.2.2.2.2))))))))
       (some false)
       (v2 (w64 (aE v3 1))))))
    (v1 ())) N 0)
def NG:List PK:=[.k (.v (.slice Y4) []),.k (.v (.slice Y4) [])]
def NH:List Kd:=[.v (.bool) []]
def aBS(N:Nat) (x:(List D5)×List D5):Option (Bool) :=
 cnd (ine (len x.1) (len x.2))
  (some false)
  (jn (fun (v0:Unit) =>
   some true)
  fun v1 =>
  bG (fun v2 (v3:Int) =>
   cnd (ilt v3 (len x.1))
    (grd (inb v3 (len x.1))
     (grd (inb v3 (len x.2))
      (cnd (bP (dT (seq (aA x.1 (toN v3) zU).1 (aA x.2 (toN v3) zU).1) (dT (dT (ieq (n8 (aA x.1 (toN v3) zU).2.1.1) (n8 (aA x.2 (toN v3) zU).2.1.1)) (dT (pX (aA x.1 (toN v3) zU).2.1.2.1 (aA x.2 (toN v3) zU).2.1.2.1) (pX (aA x.1 (toN v3) zU).2.1.2.2 (aA x.2 (toN v3) zU).2.1.2.2))) (seq (aA x.1 (toN v3) zU).2.2 (aA x.2 (toN v3) zU).2.2))))
       (some false)
       (v2 (w64 (aE v3 1))))))
    (v1 ())) N 0)
def BE:List PK:=[.k (.v (.st (.slice Y4)) []),.k (.v (.st (.slice Y4)) [])]
def BF:List Kd:=[.v (.bool) []]
def SI(N:Nat) (x:(List D5)×List D5):Option (Bool) :=
 bnd (aBS N x) fun v0 =>
 some v0
def NI:List PK:=[.k (.v (.slice (.st (.slice Y4))) []),.k (.v (.slice (.st (.slice Y4))) []),.fn 163]
def NJ:List Kd:=[.v (.bool) []]
def aEX(N:Nat) (x:(List (List D5))×List (List D5)):Option (Bool) :=
 cnd (ine (len x.1) (len x.2))
  (some false)
  (jn (fun (v0:Unit) =>
   some true)
  fun v1 =>
  bG (fun v2 (v3:Int) =>
   cnd (ilt v3 (len x.1))
    (grd (inb v3 (len x.1))
     (grd (inb v3 (len x.2))
      (bnd (SI N (aA x.1 (toN v3) [],aA x.2 (toN v3) [])) fun v4 =>
      cnd (bP v4)
       (some false)
       (v2 (w64 (aE v3 1))))))
    (v1 ())) N 0)
def NK:List PK:=[.k (.v (.slice (.st (.slice Y4))) []),.k (.v (.slice (.st (.slice Y4))) [])]
def NL:List Kd:=[.v (.bool) []]
def aBT(N:Nat) (x:(List (List D5))×List (List D5)):Option (Bool) :=
 bnd (aEX N x) fun v0 =>
 some v0
def BG:List PK:=[.k (.v (.st Y3) []),.k (.v (.st Y3) [])]
def BH:List Kd:=[.v (.bool) []]
def L0(N:Nat) (x:D2×Int×(Int×Int)×Y_×UInt8×Y_×List (List D5)):Option (Bool) :=
 cnd (ieq x.1.1 x.2.1)
  (cnd (dT (ieq x.1.2.1.1 x.2.2.1.1) (ieq x.1.2.1.2 x.2.2.1.2))
   (cnd (seq x.1.2.2.1 x.2.2.2.1)
    (cnd (ieq (n8 x.1.2.2.2.1) (n8 x.2.2.2.2.1))
     (cnd (seq x.1.2.2.2.2.1 x.2.2.2.2.2.1)
      (bnd (aBT N (x.1.2.2.2.2.2,x.2.2.2.2.2.2)) fun v0 =>
      some v0)
      (some false))
     (some false))
    (some false))
   (some false))
  (some false)
def NM:List PK:=[.k (.v (.slice (.st Y3)) []),.k (.v (.slice (.st Y3)) []),.fn 56]
def NN:List Kd:=[.v (.bool) []]
def aBU(N:Nat) (x:(List D2)×List D2):Option (Bool) :=
 cnd (ine (len x.1) (len x.2))
  (some false)
  (jn (fun (v0:Unit) =>
   some true)
  fun v1 =>
  bG (fun v2 (v3:Int) =>
   cnd (ilt v3 (len x.1))
    (grd (inb v3 (len x.1))
     (grd (inb v3 (len x.2))
      (bnd (L0 N (aA x.1 (toN v3) zE,aA x.2 (toN v3) zE)) fun v4 =>
      cnd (bP v4)
       (some false)
       (v2 (w64 (aE v3 1))))))
    (v1 ())) N 0)
def NO:List PK:=[.k (.v (.slice Y6) []),.k (.v (.slice Y6) [])]
def NP:List Kd:=[.v (.bool) []]
def aEY(N:Nat) (x:(List D3)×List D3):Option (Bool) :=
 cnd (ine (len x.1) (len x.2))
  (some false)
  (jn (fun (v0:Unit) =>
   some true)
  fun v1 =>
  bG (fun v2 (v3:Int) =>
   cnd (ilt v3 (len x.1))
    (grd (inb v3 (len x.1))
     (grd (inb v3 (len x.2))
      (cnd (bP (dT (ieq (aA x.1 (toN v3) zC).1 (aA x.2 (toN v3) zC).1) (dT (ieq (aA x.1 (toN v3) zC).2.1 (aA x.2 (toN v3) zC).2.1) (dT (ieq (aA x.1 (toN v3) zC).2.2.1 (aA x.2 (toN v3) zC).2.2.1) (dT (ieq (aA x.1 (toN v3) zC).2.2.2.1 (aA x.2 (toN v3) zC).2.2.2.1) (dT (seq (aA x.1 (toN v3) zC).2.2.2.2.1 (aA x.2 (toN v3) zC).2.2.2.2.1) (dT (seq (aA x.1 (toN v3) zC).2.2.2.2.2.1 (aA x.2 (toN v3) zC).2.2.2.2.2.1) (dT (pX (aA x.1 (toN v3) zC).2.2.2.2.2.2.1 (aA x.2 (toN v3) zC).2.2.2.2.2.2.1) (pX (aA x.1 (toN v3) zC).2.2.2.2.2.2.2 (aA x.2 (toN v3) zC).2.2.2.2.2.2.2)))))))))
       (some false)
       (v2 (w64 (aE v3 1))))))
    (v1 ())) N 0)
def NQ:List PK:=[.k (.v Y1 []),.k (.v Y1 [])]
def NR:List Kd:=[.v (.bool) []]
def NS(N:Nat) (x:D7×Y_×Y_×UInt8×Bool×Int×(List D4)×(List D2)×List D3):Option (Bool) :=
 bnd (aBQ N x.1) fun v0 =>
 bnd (aBQ N x.2) fun v1 =>
 cnd (dT (seq v0.1 v1.1) (dT (seq v0.2.1 v1.2.1) (dT (ieq (n8 v0.2.2.1) (n8 v1.2.2.1)) (dT (pX v0.2.2.2.1 v1.2.2.2.1) (ieq v0.2.2.2.2 v1.2.2.2.2)))))
  (bnd (aBR N (x.1.2.2.2.2.2.1,x.2.2.2.2.2.2.1)) fun v2 =>
  cnd v2
   (bnd (aBU N (x.1.2.2.2.2.2.2.1,x.2.2.2.2.2.2.2.1)) fun v3 =>
   cnd v3
    (bnd (aEY N (x.1.2.2.2.2.2.2.2,x.2.2.2.2.2.2.2.2)) fun v4 =>
    some v4)
    (some false))
   (some false))
  (some false)
def oA:List PK:=[.k (.v (.str) [])]
def oB:List Kd:=[.v (.bool) []]
def hJ(N:Nat) (x:Y_):Option (Bool) :=
 bnd (nZ N ()) fun v0 =>
 cnd (bP v0)
  (some false)
  (bnd (lP N x) fun v1 =>
  bnd (NB N v1) fun v2 =>
  cnd (ilt 0 (len v2.2))
   (cnd (ieq (len v2.2) 1)
    (bnd (NS N (v2.1,([]:Y_),([]:Y_),0,false,0,([]:List D4),([]:List D2),([]:List D3))) fun v3 =>
    some v3)
    (some false))
   (bnd (q66 N v2.1) fun v4 =>
   bnd (NB N v4.1) fun v5 =>
   bnd (q48 N v2.1) fun v6 =>
   cnd (ieq v6 0)
    (cnd (ieq (len v2.1.2.2.2.2.2.2.2) 0)
     (cnd (ieq v4.2 0)
      (cnd (ieq (len v5.2) 0)
       (bnd (NS N (v5.1,v2.1)) fun v7 =>
       some v7)
       (some false))
      (some false))
     (some false))
    (some false)))
def aMX(N:Nat) (x:UInt8):Option (Bool) :=
 cnd (ile (n8 97) (n8 x))
  (cnd (ile (n8 x) (n8 122))
   (some true)
   (cnd (ile (n8 65) (n8 x))
    (some (ile (n8 x) (n8 90)))
    (some false)))
  (cnd (ile (n8 65) (n8 x))
   (some (ile (n8 x) (n8 90)))
   (some false))
def aIY(N:Nat) (x:UInt8):Option (Bool) :=
 cnd (ile (n8 48) (n8 x))
  (some (ile (n8 x) (n8 57)))
  (some false)
def aWH(N:Nat) (x:Unit):Option Y_ :=
 some ([32,33,34,35,36,37,38,39,40,41,42,43,44,45,46,47,48,49,50,51,52,53,54,55,56,57,58,59,60,61,62,63,64,65,66,67,68,69,70,71,72,73,74,75,76,77,78,79,80,81,82,83,84,85,86,87,88,89,90,91,92,93,94,95,96,97,98,99,100,101,102,103,104,105,106,107,108,109,110,111,112,113,114,115,116,117,118,119,120,121,122,123,124,125,126,194,161,194,162,194,163,194,164,194,165,194,166,194,167,194,169,194,171,194,174,194,176,194,183,194,187,194,189,194,191,195,128,195,129,195,130,195,131,195,132,195,133,195,134,195,135,195,136,195,137,195,138,195,139,195,140,195,141,195,142,195,143,195,145,195,146,195,147,195,148,195,149,195,150,195,152,195,153,195,154,195,155,195,156,195,159,195,160,195,161,195,162,195,163,195,164,195,165,195,166,195,167,195,168,195,169,195,170,195,171,195,172,195,173,195,174,195,175,195,177,195,178,195,179,195,180,195,181,195,182,195,184,195,185,195,186,195,187,195,188,197,146,197,147,226,128,148,226,128,152,226,128,153,226,128,156,226,128,157,226,128,162,226,128,166,226,132,162,226,153,170]:Y_)
def aEZ(N:Nat) (x:Int):Option (Int) :=
 jn (fun (v0:Unit) =>
  jn (fun (v1:Unit) =>
   some (-1))
  fun v2 =>
  bnd (aWH N ()) fun v3 =>
  bG (fun v4 (v5:Int×Y_×Int) =>
   cnd (nlt (toN v5.2.2) (kN v5.2.1))
    (cnd (ieq (xD v5.2.1 (toN v5.2.2)) x)
     (some v5.1)
     (v4 (w64 (aE v5.1 1),v5.2.1,ofN (nN (toN v5.2.2) (xE v5.2.1 (toN v5.2.2))))))
    (v2 ())) N (0,v3,ofN 0))
 fun v6 =>
 cnd (ile 32 x)
  (cnd (ile x 126)
   (some (w64 (wr .i32 (aJ x 32))))
   (v6 ()))
  (v6 ())
def aWI(N:Nat) (x:UInt8):Option (Bool) :=
 cnd (ile (n8 1) (n8 x))
  (some (ile (n8 x) (n8 7)))
  (some false)
def EH(N:Nat) (x:UInt8):Option Y_ :=
 bnd (aWI N x) fun v0 =>
 cnd (bP v0)
  (some ([]:Y_))
  (grd (inb (n8 (b8 (aJ (n8 x) (n8 1)))) (len ([([50,51,46,57,55,54]:Y_),([50,52]:Y_),([50,53]:Y_),([50,57,46,57,55]:Y_),([51,48]:Y_),([53,48]:Y_),([53,57,46,57,52]:Y_)]:List Y_)))
   (some (aA ([([50,51,46,57,55,54]:Y_),([50,52]:Y_),([50,53]:Y_),([50,57,46,57,55]:Y_),([51,48]:Y_),([53,48]:Y_),([53,57,46,57,52]:Y_)]:List Y_) (toN (n8 (b8 (aJ (n8 x) (n8 1))))) [])))
def aWJ(N:Nat) (x:Unit):Option (List Y_) :=
 some ([([68,73,65,76,79,71,85,69]:Y_),([83,79,85,78,68]:Y_),([84,73,84,76,69]:Y_),([77,85,83,73,67]:Y_)]:List Y_)
def BI(N:Nat) (x:UInt8):Option (Int) :=
 bnd (aIY N x) fun v0 =>
 cnd v0
  (some (w64 (n8 (b8 (aJ (n8 x) (n8 48))))))
  (jn (fun (v1:Bool) =>
   cnd v1
    (some (w64 (aE (w64 (n8 (b8 (aJ (n8 x) (n8 97))))) 10)))
    (cnd (ile (n8 65) (n8 x))
     (cnd (ile (n8 x) (n8 70))
      (some (w64 (aE (w64 (n8 (b8 (aJ (n8 x) (n8 65))))) 10)))
      (some (-1)))
     (some (-1))))
  fun v2 =>
  cnd (ile (n8 97) (n8 x))
   (v2 (ile (n8 x) (n8 102)))
   (v2 false))
def SJ(N:Nat) (x:Y_×Int×Int):Option (Int) :=
 cnd (seq x.1 ([]:Y_))
  (some (-1))
  (cnd (ilt x.2.2 (len x.1))
   (some (-1))
   (jn (fun (v0:Int) =>
    some v0)
   fun v1 =>
   bG (fun v2 (v3:Int×Int) =>
    cnd (ilt v3.2 (len x.1))
     (grd (inb v3.2 (len x.1))
      (bnd (BI N (aA x.1 (toN v3.2) 0)) fun v4 =>
      cnd (ilt v4 0)
       (some (-1))
       (cnd (ile x.2.1 v4)
        (some (-1))
        (v2 (w64 (aE (w64 (nM v3.1 x.2.1)) v4),w64 (aE v3.2 1))))))
     (v1 v3.1)) N (0,0)))
def aMY(N:Nat) (x:List Int):Option Y_ :=
 jn (fun (v0:Y_) =>
  some v0)
 fun v1 =>
 bG (fun v2 (v3:Y_×Int) =>
  cnd (ilt v3.2 (len x))
   (grd (inb v3.2 (len x))
    (bnd (aEZ N (aA x (toN v3.2) 0)) fun v4 =>
    cnd (ilt v4 0)
     (some ([]:Y_))
     (grd (eD (aE (len v3.1) (len (enc (aA x (toN v3.2) 0)))))
      (v2 (bH v3.1 (enc (aA x (toN v3.2) 0)),w64 (aE v3.2 1))))))
   (v1 v3.1)) N (([]:Y_),0)
def aMZ(N:Nat) (x:UInt8):Option Y_ :=
 cnd (ilt (n8 x) (n8 1))
  (some ([]:Y_))
  (cnd (ilt (n8 4) (n8 x))
   (some ([]:Y_))
   (bnd (aWJ N ()) fun v0 =>
   grd (inb (n8 (b8 (aJ (n8 x) (n8 1)))) (len v0)) <|
   some (aA v0 (toN (n8 (b8 (aJ (n8 x) (n8 1))))) [])))
end
end Go.Mo
end

section
set_option linter.unusedVariables false
namespace Go.Mo
open Go Go.W Go.Proofs Go.RowKit
theorem aK8:(Tryz.prog.info? 131).map (·.size)=some 2:=by kernel_rfl
theorem aPZ:liesAt Tryz.prog Tryz.prog.depth 131 (2 / Tryz.prog.cellsOf 131) 0 131 1=true:=by kernel_rfl
theorem cellsByte:Tryz.prog.cellsOf 5=1:=by kernel_rfl
theorem aM0:Tryz.prog.underlying 128=some (.pointer 131):=by kernel_rfl
theorem aP0:Tryz.prog.underlying 240=some .unsafePointer:=by kernel_rfl
theorem aK9:Tryz.prog.underlying 204=some (.pointer 5):=by kernel_rfl
theorem aWX:Tryz.prog.underlying 129=some (.slice 5):=by kernel_rfl
theorem aWK:Tryz.prog.follows .mixedOrders=true:=by kernel_rfl
theorem fNe:Tryz.prog.funcs[206]?=some Tryz.f206:=by kernel_rfl
set_option maxHeartbeats 1000000 in
set_option maxRecDepth 100000 in
theorem aIZ(b:Nat) (w:World) (h0:w.cell? ⟨b,0,none⟩=some (.pointer (some ⟨b,0,none⟩))) :
  Calls Tryz.prog 146 #[.pointer (some ⟨b,0,none⟩)] w fun e w'=>e=.returned (.tuple #[])∧w'=w:=by
 obtain⟨j,hj,_⟩:=aXI.1 aK8
 go_enter Tryz.func146,Tryz.ntmps146
 go_wp2
 rw[Lib.run_neq_ptr_same w _ aM0 hj]
 go_wp2
 go_end0
 exact⟨rfl,rfl⟩
set_option maxHeartbeats 1000000 in
set_option maxRecDepth 100000 in
theorem aE0(b:Nat) (w:World) (h0:w.cell? ⟨b,0,none⟩=some (.pointer none)) (hsh:w.shape? b=some (131,2)) (hfz:w.frozen? ⟨b,0,none⟩=false) :
  Calls Tryz.prog 146 #[.pointer (some ⟨b,0,none⟩)] w fun e w'=>e=.returned (.tuple #[])∧w'=w.setCell ⟨b,0,none⟩ (.pointer (some ⟨b,0,none⟩)):=by
 obtain⟨j,hj,hjs⟩:=aXI.1 aK8
 go_enter Tryz.func146,Tryz.ntmps146
 go_wp2
 rw[Lib.run_to_unsafe w ⟨b,0,none⟩ aM0 aP0 hj (by rw[hjs]; decide) hsh (Nat.zero_lt_succ 1)];simp only[Result.andThen];rw[Oper.upon_value]
 go_wp2
 rw[run_callFunc_extern fNe (by kernel_rfl) (by kernel_rfl) (by kernel_rfl) (e:=Extern.AbiNoEscape.same) (by kernel_rfl)];rw[Lib.run_noEscape];simp only[Result.andThen];rw[Oper.upon_value]
 go_wp2
 rw[Lib.run_from_unsafe w ⟨b,0,none⟩ aP0 aM0 hj hsh aPZ];simp only[Result.andThen];rw[Oper.upon_value]
 go_wp2
 go_end0
 exact⟨rfl,rfl⟩
theorem aWL:aMM Tryz.prog 146 131:=by
 intro w b p v hb hp;refine⟨by
  unfold callFunc;simp only[program,aZU,Sem.run,aYM,show Tryz.prog.funcs[146]?=some Tryz.f146 from by kernel_rfl];rfl,?_⟩
 have c0:w.cell? ⟨b,0,none⟩=some p:=by rw[Lib.cell_of_heap hb]; rfl
 rcases hp with hp|hp
 ·subst hp;refine(aE0 b w c0 (by simp[World.shape?,hb]) (Lib.frozen_of_heap hb 0)).mono ?_;rintro e w' ⟨rfl,rfl⟩;refine⟨rfl,rfl,rfl,rfl,by simp[World.setCell],fun b' hb'=>?_,.pointer (some ⟨b,0,none⟩),?_,.inr rfl⟩
  ·simp[World.setCell,aXP,Ne.symm hb']
  ·simp[World.setCell,aXP,hb]
 ·subst hp;refine(aIZ b w c0).mono ?_;rintro e w' ⟨rfl,rfl⟩;exact⟨rfl,rfl,rfl,rfl,rfl,fun _ _=>rfl,_,hb,.inr rfl⟩
section
variable (b:Nat) (p:Value) (w:World)
set_option maxHeartbeats 2000000 in
set_option maxRecDepth 100000 in
theorem aI0(l:Y_) (h0:l≠[]) (g cap:Nat) (cur:Array Value) (fz:Nat×Nat) (hbk:w.heap[b]?=some (.cells #[p,.slice (some ⟨g,0,none⟩) l.length cap] 131 (0,0))) (hg:w.heap[g]?=some (.cells cur 5 fz)) (hnc:l.length≤cap) (hcm:cap≤maxLen) (hcs:cap≤cur.size) (htake:cur.toList.take l.length=l.map fun b=>Value.int .u8 (b.toNat:Int)) :
  Calls Tryz.prog 82 #[.pointer (some ⟨b,0,none⟩)] w fun e w'=>e=.returned (.string ⟨l.toArray⟩)∧w'=w.drew.freeze ⟨g,0,none⟩ l.length:=by
 have hl0:l.length≠0:=by simpa using h0
 have c1:w.drew.cell? ⟨b,1,none⟩=some (.slice (some ⟨g,0,none⟩) l.length cap):=by
  have:w.drew.heap[b]?=some (.cells #[p,.slice (some ⟨g,0,none⟩) l.length cap] 131 (0,0)):=hbk
  rw[Lib.cell_of_heap this]; rfl
 have hSD:(Builtin.unsafeSliceData_ #[129] 204 #[.slice (some ⟨g,0,none⟩) l.length cap]).run Tryz.prog w.drew=.ok (.pointer (some ⟨g,0,none⟩)) w.drew :=
  Lib.run_unsafeSliceData_row _ _ _ _ _ _ (by omega)
 have hUS:(Builtin.unsafeString_ #[204,3] 9 #[.pointer (some ⟨g,0,none⟩),.int .i64 l.length]).run Tryz.prog w.drew=.ok (.string ⟨l.toArray⟩) (w.drew.freeze ⟨g,0,none⟩ l.length):=by
  refine Lib.run_unsafeString_row w.drew 204 3 9 5 aK9 cellsByte g cur.size (by have hg':w.drew.heap[g]?=some (.cells cur 5 fz):=hg; simp[World.shape?,hg']) l h0 (by omega) (by unfold maxLen at hcm; omega) ?_;intro j x hx
  have hg':w.drew.heap[g]?=some (.cells cur 5 fz):=hg
  rw[add_lit,iS hg',aZS]
  have hj:j<l.length:=(aW6.1 hx).1
  have:=congrArg (·[j]?) htake
  simp only[aYB,hj,if_true,aYO,hx,aY7] at this
  simpa using this
 go_enter Tryz.func82,Tryz.ntmps82
 go_wp2
 go_region
 all_goals (go_wp2; go_ret; exact⟨rfl,rfl⟩)
theorem NT(W:World) (q:Option Addr):(Builtin.unsafeString_ #[204,3] 9 #[.pointer q,.int .i64 0]).run Tryz.prog W=.ok (.string .empty) W:=Lib.run_unsafeString_none W _ _ _ q
set_option maxHeartbeats 2000000 in
set_option maxRecDepth 100000 in
theorem aM1(hbk:w.heap[b]?=some (.cells #[p,.slice none 0 0] 131 (0,0))) :
  Calls Tryz.prog 82 #[.pointer (some ⟨b,0,none⟩)] w fun e w'=>e=.returned (.string ⟨#[]⟩)∧w'=w.drew:=by
 have hUS:=NT
 have c1:w.drew.cell? ⟨b,1,none⟩=some (.slice none 0 0):=by
  have:w.drew.heap[b]?=some (.cells #[p,.slice none 0 0] 131 (0,0)):=hbk
  rw[Lib.cell_of_heap this]; rfl
 have hSD:(Builtin.unsafeSliceData_ #[129] 204 #[.slice none 0 0]).run Tryz.prog w.drew=.ok (.pointer none) w.drew:=rfl
 go_enter Tryz.func82,Tryz.ntmps82
 go_wp2
 go_region
 all_goals (go_wp2; go_ret; exact⟨rfl,rfl⟩)
set_option maxHeartbeats 2000000 in
set_option maxRecDepth 100000 in
theorem aBV(g:Nat) (cur:Array Value) (fz:Nat×Nat) (hbk:w.heap[b]?=some (.cells #[p,.slice (some ⟨g,0,none⟩) 0 0] 131 (0,0))) (hg:w.heap[g]?=some (.cells cur 5 fz)) :
  Calls Tryz.prog 82 #[.pointer (some ⟨b,0,none⟩)] w fun e w'=>e=.returned (.string ⟨#[]⟩)∧∃d o,w'=World.alloc { w with drawn:=d } o:=by
 have hUS:=NT
 have hlt:b<w.heap.size:=(aW3.1 hbk).1
 have c1:w.drew.cell? ⟨b,1,none⟩=some (.slice (some ⟨g,0,none⟩) 0 0):=by
  have:w.drew.heap[b]?=some (.cells #[p,.slice (some ⟨g,0,none⟩) 0 0] 131 (0,0)):=hbk
  rw[Lib.cell_of_heap this]; rfl
 have hSD:(Builtin.unsafeSliceData_ #[129] 204 #[.slice (some ⟨g,0,none⟩) 0 0]).run Tryz.prog w.drew=.ok (.pointer (some ⟨w.drew.heap.size,0,none⟩)) (w.drew.alloc (.view ⟨g,0,none⟩ 5)) :=
  Lib.run_unsafeSliceData_zero w.drew _ _ 5 aK9 ⟨g,0,none⟩ 0 (5,cur.size) (by have hg':w.drew.heap[g]?=some (.cells cur 5 fz):=hg; simp[World.shape?,hg'])
 have c2:(w.drew.alloc (.view ⟨g,0,none⟩ 5)).cell? ⟨b,1,none⟩=some (.slice (some ⟨g,0,none⟩) 0 0):=by
  have:(w.drew.alloc (.view ⟨g,0,none⟩ 5)).heap[b]?=_:=(Lib.alloc_old w.drew _ b hlt).trans hbk
  rw[Lib.cell_of_heap this]; rfl
 have c3:(w.alloc (.view ⟨g,0,none⟩ 5)).drew.cell? ⟨b,1,none⟩=some (.slice (some ⟨g,0,none⟩) 0 0):=c2
 have c0:w.cell? ⟨b,1,none⟩=some (.slice (some ⟨g,0,none⟩) 0 0):=c1
 go_enter Tryz.func82,Tryz.ntmps82
 go_wp2
 go_region
 all_goals (go_wp2; go_ret; exact⟨rfl,w.drawn+1,.view ⟨g,0,none⟩ 5,rfl⟩)
set_option maxHeartbeats 2000000 in
set_option maxRecDepth 100000 in
theorem aI1(g cap:Nat) (hc0:cap≠0) (hbk:w.heap[b]?=some (.cells #[p,.slice (some ⟨g,0,none⟩) 0 cap] 131 (0,0))) :
  Calls Tryz.prog 82 #[.pointer (some ⟨b,0,none⟩)] w fun e w'=>e=.returned (.string ⟨#[]⟩)∧w'=w.drew:=by
 have hUS:=NT
 have c1:w.drew.cell? ⟨b,1,none⟩=some (.slice (some ⟨g,0,none⟩) 0 cap):=by
  have:w.drew.heap[b]?=some (.cells #[p,.slice (some ⟨g,0,none⟩) 0 cap] 131 (0,0)):=hbk
  rw[Lib.cell_of_heap this]; rfl
 have hSD:(Builtin.unsafeSliceData_ #[129] 204 #[.slice (some ⟨g,0,none⟩) 0 cap]).run Tryz.prog w.drew=.ok (.pointer (some ⟨g,0,none⟩)) w.drew :=
  Lib.run_unsafeSliceData_row _ _ _ _ _ _ hc0
 clear hc0
 go_enter Tryz.func82,Tryz.ntmps82
 go_wp2
 go_region
 all_goals (go_wp2; go_ret; exact⟨rfl,rfl⟩)
end
theorem aP1:aPT Tryz.prog 82 131:=by
 intro w b p A c xs hb hcm hpre;refine⟨by
  unfold callFunc;simp only[program,aZU,Sem.run,aYM,show Tryz.prog.funcs[82]?=some Tryz.f82 from by kernel_rfl];rfl,?_⟩
 have same:∀(A:Option Addr) (w':World),w'=w.drew→JZ w w' A:=fun A w' e=>by
  subst e;exact⟨rfl,rfl,rfl,aZ0 _,fun _ _ _=>rfl,fun ad _ cs e fz h=>⟨fz,h⟩⟩
 rcases hpre with⟨rfl,rfl,rfl⟩|⟨g,cur,fz,rfl,h1,h2,h3,h4,h5⟩
 ·exact(aM1 b p w hb).mono fun e w' ⟨he,hw⟩=>⟨he,same _ _ hw⟩
 ·by_cases hx:xs=[]
  ·subst hx
   by_cases hc:c=0
   ·subst hc;refine(aBV b p w g cur fz hb h1).mono fun e w' ⟨he,d,o,hw⟩=>⟨he,?_⟩
    subst hw
    have old:∀b',b'<w.heap.size→(World.alloc { w with drawn:=d } o).heap[b']?=w.heap[b']?:=fun b' hb'=>Below.heap_alloc { w with drawn:=d } o b' hb'
    exact⟨rfl,rfl,rfl,by simp[World.alloc],fun b' hb' _=>old b' hb',fun ad _ cs e fz h=>⟨fz,by rw[old _ (aW3.1 h).1]; exact h⟩⟩
   ·exact(aI1 b p w g c hc hb).mono fun e w' ⟨he,hw⟩=>⟨he,same _ _ hw⟩
  ·refine(aI0 b p w xs hx g c cur fz hb h1 h3 hcm h4 h5).mono fun e w' ⟨he,hw⟩=>⟨he,?_⟩
   subst hw
   have hne:xs.length≠0:=by simpa using hx
   unfold World.freeze;rw[if_neg hne];refine⟨rfl,rfl,rfl,by simp,fun b' _ hb'=>?_,fun ad had cs e fz' h=>?_⟩
   ·have hgb:g≠b':=fun e=>hb' _ rfl e.symm
    show(w.heap.modify g _)[b']?=w.heap[b']?;rw[aXP,if_neg hgb]
   ·injection had with had;subst had
    have h:w.heap[g]?=some (.cells cs e fz'):=h
    obtain⟨lo,hi⟩:=fz';refine⟨if lo==hi then(0,0+xs.length) else(min lo 0,max hi (0+xs.length)),?_⟩;show(w.heap.modify g _)[g]?=_;rw[aXP,if_pos rfl,h];rfl
end Go.Mo
end

section
set_option linter.unusedVariables false
namespace Go.Mo
open Go Go.W Go.Proofs Go.Shelf Go.RowKit
set_option maxRecDepth 100000
def aWM:Ren:=⟨fun n=>match n with | 196=>193 | 259=>242|n=>n,fun n=>match n with | 46=>265 | 53=>146 | 119=>261 | 138=>263 | 139=>264|n=>n,fun n=>match n with | 3=>3 | 4=>4|n=>n⟩
theorem aP2:Lays.n196 Tryz.prog aWM:={ mixed:=by kernel_rfl,f196:=by kernel_rfl,f259:=by kernel_rfl,t0:=by kernel_rfl,a0:=fun _=>by kernel_rfl,z0:=fun _=>by kernel_rfl,v0:=fun _=>by kernel_rfl,t3:=by kernel_rfl,a3:=fun _=>by kernel_rfl,z3:=fun _=>by kernel_rfl,v3:=fun _=>by kernel_rfl,t4:=by kernel_rfl,a4:=fun _=>by kernel_rfl,z4:=fun _=>by kernel_rfl,v4:=fun _=>by kernel_rfl,t5:=by kernel_rfl,a5:=fun _=>by kernel_rfl,z5:=fun _=>by kernel_rfl,v5:=fun _=>by kernel_rfl,t9:=by kernel_rfl,a9:=fun _=>by kernel_rfl,z9:=fun _=>by kernel_rfl,v9:=fun _=>by kernel_rfl,t12:=by kernel_rfl,a12:=fun _=>by kernel_rfl,z12:=fun _=>by kernel_rfl,v12:=fun _=>by kernel_rfl,t46:=by kernel_rfl,a46:=fun _=>by kernel_rfl,z46:=fun _=>by kernel_rfl,v46:=fun _=>by kernel_rfl,t53:=by kernel_rfl,a53:=fun _=>by kernel_rfl,z53:=fun _=>by kernel_rfl,v53:=fun _=>by kernel_rfl,t119:=by kernel_rfl,a119:=fun _=>by kernel_rfl,z119:=fun _=>by kernel_rfl,t138:=by kernel_rfl,a138:=fun _=>by kernel_rfl,z138:=fun _=>by kernel_rfl,v138:=fun _=>by kernel_rfl,t139:=by kernel_rfl,a139:=fun _=>by kernel_rfl,z139:=fun _=>by kernel_rfl,v139:=fun _=>by kernel_rfl,g3:=by kernel_rfl,g4:=by kernel_rfl }
theorem aBW:((List.range 256).all fun c=>Nat.beq ((gl3.getD c 0).toNat) (Lib.firstT c)&&Nat.beq gl3.length 256)=true:=by kernel_rfl
theorem aI2:((List.range 16).all fun c=>Nat.beq ((gl4.getD c (0,0)).1.toNat) (Lib.accLo c)&&Nat.beq ((gl4.getD c (0,0)).2.toNat) (Lib.accHi c)&&Nat.beq gl4.length 16)=true:=by kernel_rfl
theorem IB{K:Kn}:∀ {xs:List (UInt8×UInt8)}{vs:List Value},dH (aT K (.st (.pair .u8 .u8))) xs vs→∀i x,xs[i]?=some x→vs[2*i]?=some (.int .u8 (n8 x.1))∧vs[2*i+1]?=some (.int .u8 (n8 x.2))
 | [],vs,h,i,x,hx=>by simp at hx
 |y::xs,vs,⟨c1,c2,e,h1,h2⟩,i,x,hx=>by
  obtain⟨d1,d2,e1,e2,e3⟩:=h1
  have e2:d1=[.int .u8 (n8 y.1)]:=e2
  have e3:d2=[.int .u8 (n8 y.2)]:=e3
  subst e2;subst e3;subst e1;subst e
  cases i with
  |zero=>simp at hx; subst hx; exact⟨rfl,rfl⟩
  |succ i =>
   have:=IB h2 i x (by simpa using hx)
   rw[show 2*(i+1)=2*i+1+1 by omega]
   simpa using this
theorem aP3{K:Kn}{w:World}(hg:eU E K) (hk:KOk K w):Lib.Utf8Tabs 3 4 w:=by
 have cell:∀ {b o:Nat} {v:Value},K b o=some v→v.oneCell'=true→w.cell? ⟨b,o,none⟩=some v:=fun {b o v} h hv=>by
  obtain⟨cs,e,fz,h1,h2⟩:=hk b o v h;rw[iS h1];exact h2.1 hv
 constructor
 ·obtain⟨cs,⟨_,r2⟩,r3,_⟩:=hg.1 3 _ _ (show lkG E.gl 3=some ⟨.arr 256 .u8,gl3⟩ from by kernel_rfl)
  have hcs:=nG r2
  intro c hc
  have ht:=aY0.1 aBW c (List.mem_range.2 hc)
  simp only[aYS] at ht
  have ht1:=aXJ ht.1
  have ht2:=aXJ ht.2
  have hlt:c<gl3.length:=by rw[ht2]; exact hc
  refine cell (r3 c _ ?_) rfl;rw[hcs,aYO,aXB hlt]
  have:gl3.getD c 0=gl3[c]:=by simp[hlt]
  rw[this] at ht1;simp[ht1]
 ·obtain⟨cs,⟨_,r2⟩,r3,_⟩:=hg.1 4 _ _ (show lkG E.gl 4=some ⟨.arr 16 (.st (.pair .u8 .u8)),gl4⟩ from by kernel_rfl);intro c hc
  have ht:=aY0.1 aI2 c (List.mem_range.2 hc)
  simp only[aYS] at ht
  have ht1:=aXJ ht.1.1
  have ht2:=aXJ ht.1.2
  have ht3:=aXJ ht.2
  have hlt:c<gl4.length:=by rw[ht3]; exact hc
  obtain⟨q1,q2⟩:=IB r2 c _ (aXB hlt)
  have:gl4.getD c (0,0)=gl4[c]:=by simp[hlt]
  rw[this] at ht1 ht2;refine⟨cell (r3 _ _ (by rw[q1]; unfold n8; rw[ht1])) rfl,cell (r3 _ _ (by rw[q2]; unfold n8; rw[ht2])) rfl⟩
theorem khV(N:Nat):aH E ⟨193,[.k (.v .str [])],[.v .bool []],jG N⟩:=by
 intro x r h w K H γ args hEnt;obtain⟨hgd,h⟩:=aP (show grd (eD (len x)) (some (Lib.validD x))=some r from h);injection h with h;subst h
 have hgd:(x.length:Int)≤9223372036854775807:=of_decide_eq_true hgd
 right
 have hs:args.size=1:=hEnt.size
 have s0:=(hEnt.slots 0 0 (.val (.one (.v .str x))) rfl).2
 have s0:args.getD 0 undef=.string (bst x):=by simpa [aV,bY,aF,aT] using s0
 have ha:args=#[.string (bst x)]:=by
  apply aZ2
  ·simpa using hs
  ·intro i h1 h3;simp at h3;subst h3
   have:args.getD 0 undef=args[0]:=by simp[Array.getD,hs]
   rw[←this,s0];rfl
 subst ha
 have hsz:(bst x).size=x.length:=cD x
 refine⟨by
  unfold callFunc;simp only[program,aZU,Sem.run,aYM,show E.P.funcs[193]?=some Tryz.f193 from by kernel_rfl];rfl,?_⟩
 have hT:=aP3 hEnt.glob hEnt.hp.kok
 refine(Any.utf8_ValidString aP2 (bst x) w (by rw[hsz]; omega) hT).mono fun e w' he=>?_
 obtain⟨rfl,hb⟩:=he;intro tk _;refine⟨γ,obs (W.start [.k (.v .str [])] x),K,[],[],?_,⟨rfl,rfl⟩,fun j=>by simp,fun i o ho=>?_,fun γ2 _=>rfl⟩
 ·have hn:∀j,obs (W.start [.k (.v .str [])] x) j=none:=fun j=>rfl
  refine⟨hb.os,hb.tape,hb.output,hb.size,fun b hlt _=>⟨hb.block b hlt,fun _=>rfl⟩,Kn.le.refl K,fun b o v hv=>?_,fun j o g hj=>(by rw[hn] at hj; cases hj),fun j o g hj=>(by rw[hn] at hj; cases hj),fun i j p q g g' hi=>(by rw[hn] at hi; cases hi)⟩;obtain⟨cs,ee,fz,h1,h2⟩:=hEnt.hp.kok b o v hv;exact⟨cs,ee,fz,by rw[hb.block b (aW3.1 h1).1]; exact h1,h2⟩
 ·have ho:([]:List Ob)[i]?=some o:=ho
  simp at ho
end Go.Mo
end

section
set_option linter.all false
namespace Go.Mo
open Go Go.W Go.Proofs Go.Shelf Go.RowKit
set_option maxRecDepth 100000
def aWN:Ren:=⟨fun n=>match n with | 143=>180 | 144=>201 | 217=>230 | 219=>232 | 224=>263 | 225=>262 | 266=>261 | 267=>264 | 314=>284|n=>n,fun n=>match n with | 46=>265 | 51=>274 | 146=>282 | 22=>226 | 23=>255 | 24=>216 | 25=>217 | 27=>223 | 28=>196 | 31=>92 | 32=>219 | 33=>157 | 37=>129 | 39=>218 | 40=>331 | 41=>249 | 42=>90 | 47=>277 | 48=>334 | 52=>291 | 53=>146 | 54=>245 | 55=>224 | 63=>293 | 64=>266 | 65=>242 | 66=>203 | 69=>52 | 70=>128 | 71=>130 | 72=>131 | 73=>268 | 74=>132 | 75=>133 | 76=>134 | 77=>135 | 78=>296 | 80=>137 | 81=>136 | 83=>243 | 84=>142 | 85=>280 | 86=>281 | 94=>403 | 103=>165 | 104=>59 | 105=>269 | 106=>270 | 108=>330 | 111=>276 | 114=>271 | 115=>285 | 116=>286 | 117=>287 | 118=>288 | 119=>261 | 122=>284 | 123=>289 | 124=>290 | 127=>204 | 128=>292 | 131=>126 | 136=>260 | 137=>262 | 138=>263 | 139=>264 | 143=>335 | 144=>336 | 145=>337 | 151=>283 | 164=>240 | 165=>241 | 166=>299 | 167=>302 | 168=>305 | 169=>306 | 170=>307 | 171=>244 | 172=>246 | 173=>247 | 174=>248 | 175=>303 | 176=>304 | 209=>328 | 210=>329 | 211=>272 | 212=>273 | 213=>275 | 214=>327 | 232=>300 | 233=>301 | 238=>378 | 239=>379 | 240=>380 | 241=>381 | 242=>382 | 243=>383 | 244=>384 | 245=>385 | 246=>386 | 247=>387 | 248=>388 | 249=>389|n=>n,fun n=>match n with | 1=>6 | 15=>9 | 16=>10 | 17=>5 | 18=>7 | 19=>8|n=>n⟩
theorem aP4:Lays.n144 Tryz.prog aWN:={ mixed:=by kernel_rfl,f143:=by kernel_rfl,f144:=by kernel_rfl,f217:=by kernel_rfl,f219:=by kernel_rfl,f224:=by kernel_rfl,f225:=by kernel_rfl,f266:=by kernel_rfl,f267:=by kernel_rfl,f314:=by kernel_rfl,t3:=by kernel_rfl,a3:=fun _=>by kernel_rfl,z3:=fun _=>by kernel_rfl,v3:=fun _=>by kernel_rfl,t4:=by kernel_rfl,a4:=fun _=>by kernel_rfl,z4:=fun _=>by kernel_rfl,v4:=fun _=>by kernel_rfl,t5:=by kernel_rfl,a5:=fun _=>by kernel_rfl,z5:=fun _=>by kernel_rfl,v5:=fun _=>by kernel_rfl,t9:=by kernel_rfl,a9:=fun _=>by kernel_rfl,z9:=fun _=>by kernel_rfl,v9:=fun _=>by kernel_rfl,t46:=by kernel_rfl,a46:=fun _=>by kernel_rfl,z46:=fun _=>by kernel_rfl,v46:=fun _=>by kernel_rfl,t51:=by kernel_rfl,a51:=fun _=>by kernel_rfl,z51:=fun _=>by kernel_rfl,v51:=fun _=>by kernel_rfl,t146:=by kernel_rfl,a146:=fun _=>by kernel_rfl,z146:=fun _=>by kernel_rfl,v146:=fun _=>by kernel_rfl,g1:=by kernel_rfl }
theorem L1(N:Nat):aH E ⟨201,[.k (.v .str []),.k (.v .str [])],[.v .bool []],fI N⟩ :=
 aIP (fn:=Tryz.f201) _ (show E.P.funcs[201]?=some Tryz.f201 from by kernel_rfl) (by kernel_rfl) (by kernel_rfl) fun x r h w K hG hk=>by
  obtain⟨hb,h⟩:=aP h;injection h with h;subst h
  have hb:x.1.length<4294967281:=of_decide_eq_true hb
  obtain⟨m,hm⟩:=hG.2.1 6 (by kernel_rfl);obtain⟨cs,e,fz,h1,h2⟩:=hk _ _ _ hm;exact Any.strings_Contains aP4 (bst x.1) (bst x.2) m w (by rw[cD]; exact hb) (by
   show w.cell? ⟨6,0,none⟩=_;rw[iS h1];exact h2.1 rfl)
def aWO:Ren:=⟨fun n=>match n with | 143=>180 | 217=>230 | 219=>232 | 224=>263 | 225=>262 | 266=>261 | 267=>264 | 314=>284|n=>n,fun n=>match n with | 46=>265 | 51=>274 | 146=>282 | 22=>226 | 23=>255 | 24=>216 | 25=>217 | 27=>223 | 28=>196 | 31=>92 | 32=>219 | 33=>157 | 37=>129 | 39=>218 | 40=>331 | 41=>249 | 42=>90 | 47=>277 | 48=>334 | 52=>291 | 53=>146 | 54=>245 | 55=>224 | 63=>293 | 64=>266 | 65=>242 | 66=>203 | 69=>52 | 70=>128 | 71=>130 | 72=>131 | 73=>268 | 74=>132 | 75=>133 | 76=>134 | 77=>135 | 78=>296 | 80=>137 | 81=>136 | 83=>243 | 84=>142 | 85=>280 | 86=>281 | 94=>403 | 103=>165 | 104=>59 | 105=>269 | 106=>270 | 108=>330 | 111=>276 | 114=>271 | 115=>285 | 116=>286 | 117=>287 | 118=>288 | 119=>261 | 122=>284 | 123=>289 | 124=>290 | 127=>204 | 128=>292 | 131=>126 | 136=>260 | 137=>262 | 138=>263 | 139=>264 | 143=>335 | 144=>336 | 145=>337 | 151=>283 | 164=>240 | 165=>241 | 166=>299 | 167=>302 | 168=>305 | 169=>306 | 170=>307 | 171=>244 | 172=>246 | 173=>247 | 174=>248 | 175=>303 | 176=>304 | 209=>328 | 210=>329 | 211=>272 | 212=>273 | 213=>275 | 214=>327 | 232=>300 | 233=>301 | 238=>378 | 239=>379 | 240=>380 | 241=>381 | 242=>382 | 243=>383 | 244=>384 | 245=>385 | 246=>386 | 247=>387 | 248=>388 | 249=>389|n=>n,fun n=>match n with | 1=>6 | 15=>9 | 16=>10 | 17=>5 | 18=>7 | 19=>8|n=>n⟩
theorem aP5:Lays.n143 Tryz.prog aWO:={ mixed:=by kernel_rfl,f143:=by kernel_rfl,f217:=by kernel_rfl,f219:=by kernel_rfl,f224:=by kernel_rfl,f225:=by kernel_rfl,f266:=by kernel_rfl,f267:=by kernel_rfl,f314:=by kernel_rfl,t3:=by kernel_rfl,a3:=fun _=>by kernel_rfl,z3:=fun _=>by kernel_rfl,v3:=fun _=>by kernel_rfl,t4:=by kernel_rfl,a4:=fun _=>by kernel_rfl,z4:=fun _=>by kernel_rfl,v4:=fun _=>by kernel_rfl,t5:=by kernel_rfl,a5:=fun _=>by kernel_rfl,z5:=fun _=>by kernel_rfl,v5:=fun _=>by kernel_rfl,t9:=by kernel_rfl,a9:=fun _=>by kernel_rfl,z9:=fun _=>by kernel_rfl,v9:=fun _=>by kernel_rfl,t46:=by kernel_rfl,a46:=fun _=>by kernel_rfl,z46:=fun _=>by kernel_rfl,v46:=fun _=>by kernel_rfl,t51:=by kernel_rfl,a51:=fun _=>by kernel_rfl,z51:=fun _=>by kernel_rfl,v51:=fun _=>by kernel_rfl,t146:=by kernel_rfl,a146:=fun _=>by kernel_rfl,z146:=fun _=>by kernel_rfl,v146:=fun _=>by kernel_rfl,g1:=by kernel_rfl }
theorem aI3(N:Nat):aH E ⟨180,[.k (.v .str []),.k (.v .str [])],[.v (.int .i64) []],iF N⟩ :=
 aIR (fn:=Tryz.f180) _ (show E.P.funcs[180]?=some Tryz.f180 from by kernel_rfl) (by kernel_rfl) (by kernel_rfl) fun x r h w K hG hk=>by
  obtain⟨hb,h⟩:=aP h;injection h with h;subst h
  have hb:x.1.length<4294967281:=of_decide_eq_true hb
  obtain⟨m,hm⟩:=hG.2.1 6 (by kernel_rfl);obtain⟨cs,e,fz,h1,h2⟩:=hk _ _ _ hm;refine(Any.strings_Index aP5 (bst x.1) (bst x.2) m w (by rw[cD]; exact hb) (by
   show w.cell? ⟨6,0,none⟩=_;rw[iS h1];exact h2.1 rfl)).mono fun e w' he=>?_
  obtain⟨q1,q2⟩:=he;subst q2;exact⟨q1,rfl,rfl,rfl,aZ0 _,fun b _=>rfl⟩
def aP6:Ren:=⟨fun n=>match n with | 138=>176 | 143=>180 | 154=>207 | 165=>247 | 166=>79 | 169=>82 | 195=>226 | 197=>248 | 217=>230 | 218=>227 | 219=>232 | 224=>263 | 225=>262 | 240=>146 | 241=>277 | 260=>278 | 266=>261 | 267=>264 | 276=>206 | 277=>293 | 314=>284|n=>n,fun n=>match n with | 37=>129 | 46=>265 | 51=>274 | 70=>128 | 72=>131 | 75=>133 | 76=>134 | 80=>137 | 105=>269 | 119=>261 | 127=>204 | 138=>263 | 139=>264 | 146=>282 | 164=>240 | 22=>226 | 23=>255 | 24=>216 | 25=>217 | 27=>223 | 28=>196 | 31=>92 | 32=>219 | 33=>157 | 39=>218 | 40=>331 | 41=>249 | 42=>90 | 47=>277 | 48=>334 | 52=>291 | 53=>146 | 54=>245 | 55=>224 | 63=>293 | 64=>266 | 65=>242 | 66=>203 | 69=>52 | 71=>130 | 73=>268 | 74=>132 | 77=>135 | 78=>296 | 81=>136 | 83=>243 | 84=>142 | 85=>280 | 86=>281 | 94=>403 | 103=>165 | 104=>59 | 106=>270 | 108=>330 | 111=>276 | 114=>271 | 115=>285 | 116=>286 | 117=>287 | 118=>288 | 122=>284 | 123=>289 | 124=>290 | 128=>292 | 131=>126 | 136=>260 | 137=>262 | 143=>335 | 144=>336 | 145=>337 | 151=>283 | 165=>241 | 166=>299 | 167=>302 | 168=>305 | 169=>306 | 170=>307 | 171=>244 | 172=>246 | 173=>247 | 174=>248 | 175=>303 | 176=>304 | 209=>328 | 210=>329 | 211=>272 | 212=>273 | 213=>275 | 214=>327 | 232=>300 | 233=>301 | 238=>378 | 239=>379 | 240=>380 | 241=>381 | 242=>382 | 243=>383 | 244=>384 | 245=>385 | 246=>386 | 247=>387 | 248=>388 | 249=>389|n=>n,fun n=>match n with | 1=>6 | 15=>9 | 16=>10 | 17=>5 | 18=>7 | 19=>8|n=>n⟩
theorem SK:Lays.n154 Tryz.prog aP6:={ mixed:=by kernel_rfl,f138:=by kernel_rfl,f143:=by kernel_rfl,f154:=by kernel_rfl,f165:=by kernel_rfl,f166:=by kernel_rfl,f169:=by kernel_rfl,f195:=by kernel_rfl,f197:=by kernel_rfl,f217:=by kernel_rfl,f218:=by kernel_rfl,f219:=by kernel_rfl,f224:=by kernel_rfl,f225:=by kernel_rfl,f240:=by kernel_rfl,f241:=by kernel_rfl,f260:=by kernel_rfl,f266:=by kernel_rfl,f267:=by kernel_rfl,f276:=by kernel_rfl,f277:=by kernel_rfl,f314:=by kernel_rfl,t0:=by kernel_rfl,a0:=fun _=>by kernel_rfl,z0:=fun _=>by kernel_rfl,v0:=fun _=>by kernel_rfl,t3:=by kernel_rfl,a3:=fun _=>by kernel_rfl,z3:=fun _=>by kernel_rfl,v3:=fun _=>by kernel_rfl,t4:=by kernel_rfl,a4:=fun _=>by kernel_rfl,z4:=fun _=>by kernel_rfl,v4:=fun _=>by kernel_rfl,t5:=by kernel_rfl,a5:=fun _=>by kernel_rfl,z5:=fun _=>by kernel_rfl,v5:=fun _=>by kernel_rfl,t9:=by kernel_rfl,a9:=fun _=>by kernel_rfl,z9:=fun _=>by kernel_rfl,v9:=fun _=>by kernel_rfl,t20:=by kernel_rfl,a20:=fun _=>by kernel_rfl,z20:=fun _=>by kernel_rfl,v20:=fun _=>by kernel_rfl,t21:=by kernel_rfl,a21:=fun _=>by kernel_rfl,z21:=fun _=>by kernel_rfl,v21:=fun _=>by kernel_rfl,t37:=by kernel_rfl,a37:=fun _=>by kernel_rfl,z37:=fun _=>by kernel_rfl,v37:=fun _=>by kernel_rfl,t46:=by kernel_rfl,a46:=fun _=>by kernel_rfl,z46:=fun _=>by kernel_rfl,v46:=fun _=>by kernel_rfl,t51:=by kernel_rfl,a51:=fun _=>by kernel_rfl,z51:=fun _=>by kernel_rfl,v51:=fun _=>by kernel_rfl,t70:=by kernel_rfl,a70:=fun _=>by kernel_rfl,z70:=fun _=>by kernel_rfl,v70:=fun _=>by kernel_rfl,t72:=by kernel_rfl,a72:=fun _=>by kernel_rfl,z72:=fun _=>by kernel_rfl,v72:=fun _=>by kernel_rfl,t75:=by kernel_rfl,a75:=fun _=>by kernel_rfl,z75:=fun _=>by kernel_rfl,v75:=fun _=>by kernel_rfl,t76:=by kernel_rfl,a76:=fun _=>by kernel_rfl,z76:=fun _=>by kernel_rfl,v76:=fun _=>by kernel_rfl,t105:=by kernel_rfl,a105:=fun _=>by kernel_rfl,z105:=fun _=>by kernel_rfl,v105:=fun _=>by kernel_rfl,t119:=by kernel_rfl,a119:=fun _=>by kernel_rfl,z119:=fun _=>by kernel_rfl,t127:=by kernel_rfl,a127:=fun _=>by kernel_rfl,z127:=fun _=>by kernel_rfl,v127:=fun _=>by kernel_rfl,t138:=by kernel_rfl,a138:=fun _=>by kernel_rfl,z138:=fun _=>by kernel_rfl,v138:=fun _=>by kernel_rfl,t139:=by kernel_rfl,a139:=fun _=>by kernel_rfl,z139:=fun _=>by kernel_rfl,v139:=fun _=>by kernel_rfl,t146:=by kernel_rfl,a146:=fun _=>by kernel_rfl,z146:=fun _=>by kernel_rfl,v146:=fun _=>by kernel_rfl,t164:=by kernel_rfl,a164:=fun _=>by kernel_rfl,z164:=fun _=>by kernel_rfl,v164:=fun _=>by kernel_rfl,g1:=by kernel_rfl,g3:=by kernel_rfl,g4:=by kernel_rfl }
theorem aM2:Builder.Extra Tryz.prog aP6 where
 sizeBuilder:=by kernel_rfl
 liesBuilder:=by kernel_rfl
 t5:=SK.t5
 a5:=SK.a5
 z5:=SK.z5
 v5:=SK.v5
 infoByte:=by kernel_rfl
 cellsByte:=by kernel_rfl
 sizeByte:=by kernel_rfl
 neB5:=by decide
theorem aBX(N:Nat):aH E ⟨207,[.k (.v .str []),.k (.v .str []),.k (.v .str []),.k (.v (.int .i64) [])],[.v .str []],fZ N⟩ :=
 aED (fn:=Tryz.f207) _ (show E.P.funcs[207]?=some Tryz.f207 from by kernel_rfl) (by kernel_rfl) (by kernel_rfl) fun x r h w K hG hk=>by
  obtain⟨hb,h⟩:=aP h;obtain⟨hc,h⟩:=aP h;obtain⟨hd,h⟩:=aP h;injection h with h;subst h
  have hb:x.1.length<4294967281:=of_decide_eq_true hb
  have hc:1≤x.2.1.length:=of_decide_eq_true hc
  have hd:x.1.length+Lib.count x.1 x.2.1*x.2.2.1.length≤140737488355328:=of_decide_eq_true hd
  obtain⟨m,hm⟩:=hG.2.1 6 (by kernel_rfl);obtain⟨cs,e,fz,h1,h2⟩:=hk _ _ _ hm;refine(Any.strings_Replace SK aM2 (bst x.1) (bst x.2.1) (bst x.2.2.1) x.2.2.2 m w (by rw[cD]; exact hb) (by
   show w.cell? ⟨6,0,none⟩=_;rw[iS h1];exact h2.1 rfl) (by rw[cD]; exact hc) (by rw[cD,cD]; exact hd)).mono fun e w' he=>?_
  obtain⟨q1,q2⟩:=he;exact⟨q1,q2.os,q2.tape,q2.output,q2.size,q2.block⟩
def aWP:Ren:=⟨fun n=>match n with | 119=>311 | 120=>300 | 137=>178 | 151=>286 | 152=>299 | 160=>235 | 197=>248 | 217=>230 | 224=>263 | 225=>262 | 227=>267 | 228=>285 | 231=>265 | 232=>266 | 233=>268 | 234=>269 | 235=>270 | 236=>271 | 260=>278 | 266=>261 | 271=>287|n=>n,fun n=>match n with | 46=>265 | 105=>269 | 116=>286 | 117=>287 | 119=>261 | 124=>290 | 138=>263 | 139=>264 | 22=>226 | 23=>255 | 24=>216 | 25=>217 | 27=>223 | 28=>196 | 31=>92 | 32=>219 | 33=>157 | 37=>129 | 39=>218 | 40=>331 | 41=>249 | 42=>90 | 47=>277 | 48=>334 | 51=>274 | 52=>291 | 53=>146 | 54=>245 | 55=>224 | 63=>293 | 64=>266 | 65=>242 | 66=>203 | 69=>52 | 70=>128 | 71=>130 | 72=>131 | 73=>268 | 74=>132 | 75=>133 | 76=>134 | 77=>135 | 78=>296 | 80=>137 | 81=>136 | 83=>243 | 84=>142 | 85=>280 | 86=>281 | 94=>403 | 103=>165 | 104=>59 | 106=>270 | 108=>330 | 111=>276 | 114=>271 | 115=>285 | 118=>288 | 122=>284 | 123=>289 | 127=>204 | 128=>292 | 131=>126 | 136=>260 | 137=>262 | 143=>335 | 144=>336 | 145=>337 | 146=>282 | 151=>283 | 164=>240 | 165=>241 | 166=>299 | 167=>302 | 168=>305 | 169=>306 | 170=>307 | 171=>244 | 172=>246 | 173=>247 | 174=>248 | 175=>303 | 176=>304 | 209=>328 | 210=>329 | 211=>272 | 212=>273 | 213=>275 | 214=>327 | 232=>300 | 233=>301 | 238=>378 | 239=>379 | 240=>380 | 241=>381 | 242=>382 | 243=>383 | 244=>384 | 245=>385 | 246=>386 | 247=>387 | 248=>388 | 249=>389|n=>n,fun n=>match n with | 1=>6 | 15=>9 | 16=>10 | 17=>5 | 18=>7 | 19=>8|n=>n⟩
theorem aP7:Lays.n160 Tryz.prog aWP:={ mixed:=by kernel_rfl,f119:=by kernel_rfl,f120:=by kernel_rfl,f137:=by kernel_rfl,f151:=by kernel_rfl,f152:=by kernel_rfl,f160:=by kernel_rfl,f197:=by kernel_rfl,f217:=by kernel_rfl,f224:=by kernel_rfl,f225:=by kernel_rfl,f227:=by kernel_rfl,f228:=by kernel_rfl,f231:=by kernel_rfl,f232:=by kernel_rfl,f233:=by kernel_rfl,f234:=by kernel_rfl,f235:=by kernel_rfl,f236:=by kernel_rfl,f260:=by kernel_rfl,f266:=by kernel_rfl,f271:=by kernel_rfl,t0:=by kernel_rfl,a0:=fun _=>by kernel_rfl,z0:=fun _=>by kernel_rfl,v0:=fun _=>by kernel_rfl,t3:=by kernel_rfl,a3:=fun _=>by kernel_rfl,z3:=fun _=>by kernel_rfl,v3:=fun _=>by kernel_rfl,t4:=by kernel_rfl,a4:=fun _=>by kernel_rfl,z4:=fun _=>by kernel_rfl,v4:=fun _=>by kernel_rfl,t5:=by kernel_rfl,a5:=fun _=>by kernel_rfl,z5:=fun _=>by kernel_rfl,v5:=fun _=>by kernel_rfl,t9:=by kernel_rfl,a9:=fun _=>by kernel_rfl,z9:=fun _=>by kernel_rfl,v9:=fun _=>by kernel_rfl,t21:=by kernel_rfl,a21:=fun _=>by kernel_rfl,z21:=fun _=>by kernel_rfl,v21:=fun _=>by kernel_rfl,t46:=by kernel_rfl,a46:=fun _=>by kernel_rfl,z46:=fun _=>by kernel_rfl,v46:=fun _=>by kernel_rfl,t105:=by kernel_rfl,a105:=fun _=>by kernel_rfl,z105:=fun _=>by kernel_rfl,v105:=fun _=>by kernel_rfl,t116:=by kernel_rfl,a116:=fun _=>by kernel_rfl,z116:=fun _=>by kernel_rfl,t117:=by kernel_rfl,a117:=fun _=>by kernel_rfl,z117:=fun _=>by kernel_rfl,v117:=fun _=>by kernel_rfl,t119:=by kernel_rfl,a119:=fun _=>by kernel_rfl,z119:=fun _=>by kernel_rfl,t124:=by kernel_rfl,a124:=fun _=>by kernel_rfl,z124:=fun _=>by kernel_rfl,v124:=fun _=>by kernel_rfl,t138:=by kernel_rfl,a138:=fun _=>by kernel_rfl,z138:=fun _=>by kernel_rfl,v138:=fun _=>by kernel_rfl,t139:=by kernel_rfl,a139:=fun _=>by kernel_rfl,z139:=fun _=>by kernel_rfl,v139:=fun _=>by kernel_rfl,g3:=by kernel_rfl,g4:=by kernel_rfl }
theorem aM3(N:Nat):aH E ⟨235,[.k (.v .str []),.k (.v .str [])],[.v .str []],iX N⟩ :=
 aIS (fn:=Tryz.f235) _ (show E.P.funcs[235]?=some Tryz.f235 from by kernel_rfl) (by kernel_rfl) (by kernel_rfl) fun x r h w K hG hk=>by
  obtain⟨hb,h⟩:=aP h;obtain⟨hc,h⟩:=aP h;obtain⟨hd,h⟩:=aP h;injection h with h;subst h
  have hb:x.1.length<4294967281:=of_decide_eq_true hb
  have hc:x.2.length<4294967281:=of_decide_eq_true hc
  refine(Any.strings_Trim_laid aP7 (by kernel_rfl) (bst x.1) (bst x.2) w (by rw[cD]; omega) (by rw[cD]; exact hc) (HX hd)).mono fun e w' he=>?_
  obtain⟨q1,q2⟩:=he;exact⟨q1,q2.os,q2.tape,q2.output,q2.size,q2.block⟩
theorem aM4(N:Nat):aH E ⟨273,[.k (.v .str [])],[.v .str []],nI N⟩ :=
 aMO (fn:=Tryz.f273) _ (show E.P.funcs[273]?=some Tryz.f273 from by kernel_rfl) (by kernel_rfl) (by kernel_rfl) fun x r h w K hG hk=>by
  obtain⟨hb,h⟩:=aP h;injection h with h;subst h
  have hb:x.length<4294967281:=of_decide_eq_true hb
  refine(aET (bst x) w (by rw[cD]; omega)).mono fun e w' he=>?_
  obtain⟨q1,q2⟩:=he;exact⟨q1,q2.os,q2.tape,q2.output,q2.size,q2.block⟩
def aWQ:Ren:=⟨fun n=>match n with | 129=>250 | 246=>148 | 283=>208 | 284=>209 | 285=>210 | 286=>211 | 317=>249 | 318=>251 | 319=>252 | 320=>253 | 337=>279 | 338=>280|n=>n,fun n=>match n with | 37=>129 | 46=>265 | 51=>274 | 53=>146 | 171=>244 | 173=>247 | 212=>273 | 213=>275 | 232=>300 | 233=>301 | 22=>226 | 23=>255 | 24=>216 | 25=>217 | 27=>223 | 28=>196 | 31=>92 | 32=>219 | 33=>157 | 39=>218 | 40=>331 | 41=>249 | 42=>90 | 47=>277 | 48=>334 | 52=>291 | 54=>245 | 55=>224 | 63=>293 | 64=>266 | 65=>242 | 66=>203 | 69=>52 | 70=>128 | 71=>130 | 72=>131 | 73=>268 | 74=>132 | 75=>133 | 76=>134 | 77=>135 | 78=>296 | 80=>137 | 81=>136 | 83=>243 | 84=>142 | 85=>280 | 86=>281 | 94=>403 | 103=>165 | 104=>59 | 105=>269 | 106=>270 | 108=>330 | 111=>276 | 114=>271 | 115=>285 | 116=>286 | 117=>287 | 118=>288 | 119=>261 | 122=>284 | 123=>289 | 124=>290 | 127=>204 | 128=>292 | 131=>126 | 136=>260 | 137=>262 | 138=>263 | 139=>264 | 143=>335 | 144=>336 | 145=>337 | 146=>282 | 151=>283 | 164=>240 | 165=>241 | 166=>299 | 167=>302 | 168=>305 | 169=>306 | 170=>307 | 172=>246 | 174=>248 | 175=>303 | 176=>304 | 209=>328 | 210=>329 | 211=>272 | 214=>327 | 238=>378 | 239=>379 | 240=>380 | 241=>381 | 242=>382 | 243=>383 | 244=>384 | 245=>385 | 246=>386 | 247=>387 | 248=>388 | 249=>389|n=>n,fun n=>match n with | 17=>5 | 18=>7 | 19=>8 | 1=>6 | 15=>9 | 16=>10|n=>n⟩
theorem aP8:LaysM.n246 Tryz.prog aWQ:={ mixed:=by kernel_rfl,f129:=by kernel_rfl,f246:=by kernel_rfl,f283:=by kernel_rfl,f284:=by kernel_rfl,f285:=by kernel_rfl,f286:=by kernel_rfl,f317:=by kernel_rfl,f318:=by kernel_rfl,f319:=by kernel_rfl,f320:=by kernel_rfl,f337:=by kernel_rfl,f338:=by kernel_rfl,t0:=by kernel_rfl,a0:=fun _=>by kernel_rfl,z0:=fun _=>by kernel_rfl,v0:=fun _=>by kernel_rfl,t2:=by kernel_rfl,a2:=fun _=>by kernel_rfl,z2:=fun _=>by kernel_rfl,v2:=fun _=>by kernel_rfl,t3:=by kernel_rfl,a3:=fun _=>by kernel_rfl,z3:=fun _=>by kernel_rfl,v3:=fun _=>by kernel_rfl,t4:=by kernel_rfl,a4:=fun _=>by kernel_rfl,z4:=fun _=>by kernel_rfl,v4:=fun _=>by kernel_rfl,t5:=by kernel_rfl,a5:=fun _=>by kernel_rfl,z5:=fun _=>by kernel_rfl,v5:=fun _=>by kernel_rfl,t9:=by kernel_rfl,a9:=fun _=>by kernel_rfl,z9:=fun _=>by kernel_rfl,v9:=fun _=>by kernel_rfl,t20:=by kernel_rfl,a20:=fun _=>by kernel_rfl,z20:=fun _=>by kernel_rfl,v20:=fun _=>by kernel_rfl,t37:=by kernel_rfl,a37:=fun _=>by kernel_rfl,z37:=fun _=>by kernel_rfl,v37:=fun _=>by kernel_rfl,t46:=by kernel_rfl,a46:=fun _=>by kernel_rfl,z46:=fun _=>by kernel_rfl,v46:=fun _=>by kernel_rfl,t51:=by kernel_rfl,a51:=fun _=>by kernel_rfl,z51:=fun _=>by kernel_rfl,v51:=fun _=>by kernel_rfl,t53:=by kernel_rfl,a53:=fun _=>by kernel_rfl,z53:=fun _=>by kernel_rfl,v53:=fun _=>by kernel_rfl,t171:=by kernel_rfl,a171:=fun _=>by kernel_rfl,z171:=fun _=>by kernel_rfl,v171:=fun _=>by kernel_rfl,t173:=by kernel_rfl,a173:=fun _=>by kernel_rfl,z173:=fun _=>by kernel_rfl,v173:=fun _=>by kernel_rfl,t212:=by kernel_rfl,a212:=fun _=>by kernel_rfl,z212:=fun _=>by kernel_rfl,v212:=fun _=>by kernel_rfl,t213:=by kernel_rfl,a213:=fun _=>by kernel_rfl,z213:=fun _=>by kernel_rfl,t232:=by kernel_rfl,a232:=fun _=>by kernel_rfl,z232:=fun _=>by kernel_rfl,v232:=fun _=>by kernel_rfl,t233:=by kernel_rfl,a233:=fun _=>by kernel_rfl,z233:=fun _=>by kernel_rfl,v233:=fun _=>by kernel_rfl,g17:=by kernel_rfl,g18:=by kernel_rfl,g19:=by kernel_rfl,i0:=by kernel_rfl,i2:=by kernel_rfl,i3:=by kernel_rfl,i4:=by kernel_rfl,i5:=by kernel_rfl,i9:=by kernel_rfl,i20:=by kernel_rfl,i37:=by kernel_rfl,i46:=by kernel_rfl,i51:=by kernel_rfl,i53:=by kernel_rfl,i171:=by kernel_rfl,i173:=by kernel_rfl,i212:=by kernel_rfl,i232:=by kernel_rfl,i233:=by kernel_rfl,m17:=by kernel_rfl,m18:=by kernel_rfl,m19:=by kernel_rfl }
theorem SL(N:Nat):aH E ⟨148,[.k (.v (.int .i64) []),.k (.v (.int .i64) [])],[.v .str []],dC N⟩ :=
 aIQ (fn:=Tryz.f148) _ (show E.P.funcs[148]?=some Tryz.f148 from by kernel_rfl) (by kernel_rfl) (by kernel_rfl) fun x r h w K hG hk=>by
  obtain⟨h1,h⟩:=aP (show grd (ieq x.2 10) _=some r from h);obtain⟨h2,h⟩:=aP h;obtain⟨h3,h⟩:=aP h;injection h with h;subst h
  have e1:x.2=10:=by unfold ieq at h1; simpa using h1
  have h2:-9223372036854775808≤x.1:=of_decide_eq_true h2
  have h3:x.1≤9223372036854775807:=of_decide_eq_true h3
  obtain⟨cs,r2,r3,r4⟩:=hG.1 5 _ _ (show lkG E.gl 5=some ⟨.arr 20 (.int .u64),gl5⟩ from by kernel_rfl)
  have htab:Lib.TabIs E.P w "internal/strconv.uint64pow10" .u64 Lib.pow10Tab:=by
   have:=aMP (P:=E.P) (name:= "internal/strconv.uint64pow10") hk r2 r3 r4 (by kernel_rfl)
   rwa [show(gl5:List Int)=Lib.pow10Tab by kernel_rfl] at this
  rw[e1];refine(Any.internal_strconv_FormatInt_10 aP8 x.1 h2 h3 w htab).mono fun e w' he=>?_
  obtain⟨q1,k,os,q2⟩:=he;subst q2;exact⟨by rw[q1,aBD h2 h3]; rfl,rfl,rfl,rfl,Lib.size_grow w k os,fun b hb=>Lib.heap_grow_old w k os b hb⟩
def aP9:Ren:=⟨fun n=>match n with | 129=>250 | 171=>310 | 174=>256 | 205=>309 | 243=>316 | 245=>283 | 246=>148 | 247=>282 | 279=>295 | 280=>296 | 281=>297 | 282=>298 | 283=>208 | 284=>209 | 285=>210 | 286=>211 | 287=>294 | 316=>308 | 317=>249 | 318=>251 | 319=>252 | 320=>253 | 321=>306 | 322=>307 | 337=>279 | 338=>280|n=>n,fun n=>match n with | 37=>129 | 46=>265 | 51=>274 | 53=>146 | 75=>133 | 80=>137 | 85=>280 | 127=>204 | 143=>335 | 145=>337 | 167=>302 | 168=>305 | 171=>244 | 173=>247 | 175=>303 | 210=>329 | 212=>273 | 213=>275 | 232=>300 | 233=>301 | 22=>226 | 23=>255 | 24=>216 | 25=>217 | 27=>223 | 28=>196 | 31=>92 | 32=>219 | 33=>157 | 39=>218 | 40=>331 | 41=>249 | 42=>90 | 47=>277 | 48=>334 | 52=>291 | 54=>245 | 55=>224 | 63=>293 | 64=>266 | 65=>242 | 66=>203 | 69=>52 | 70=>128 | 71=>130 | 72=>131 | 73=>268 | 74=>132 | 76=>134 | 77=>135 | 78=>296 | 81=>136 | 83=>243 | 84=>142 | 86=>281 | 94=>403 | 103=>165 | 104=>59 | 105=>269 | 106=>270 | 108=>330 | 111=>276 | 114=>271 | 115=>285 | 116=>286 | 117=>287 | 118=>288 | 119=>261 | 122=>284 | 123=>289 | 124=>290 | 128=>292 | 131=>126 | 136=>260 | 137=>262 | 138=>263 | 139=>264 | 144=>336 | 146=>282 | 151=>283 | 164=>240 | 165=>241 | 166=>299 | 169=>306 | 170=>307 | 172=>246 | 174=>248 | 176=>304 | 209=>328 | 211=>272 | 214=>327 | 238=>378 | 239=>379 | 240=>380 | 241=>381 | 242=>382 | 243=>383 | 244=>384 | 245=>385 | 246=>386 | 247=>387 | 248=>388 | 249=>389|n=>n,fun n=>match n with | 15=>9 | 16=>10 | 17=>5 | 18=>7 | 19=>8 | 1=>6|n=>n⟩
theorem aE1:LaysC.n174 Tryz.prog aP9:={ mixed:=by kernel_rfl,f129:=by kernel_rfl,f171:=by kernel_rfl,f174:=by kernel_rfl,f205:=by kernel_rfl,f243:=by kernel_rfl,f245:=by kernel_rfl,f246:=by kernel_rfl,f247:=by kernel_rfl,f279:=by kernel_rfl,f280:=by kernel_rfl,f281:=by kernel_rfl,f282:=by kernel_rfl,f283:=by kernel_rfl,f284:=by kernel_rfl,f285:=by kernel_rfl,f286:=by kernel_rfl,f287:=by kernel_rfl,f316:=by kernel_rfl,f317:=by kernel_rfl,f318:=by kernel_rfl,f319:=by kernel_rfl,f320:=by kernel_rfl,f321:=by kernel_rfl,f322:=by kernel_rfl,f337:=by kernel_rfl,f338:=by kernel_rfl,t0:=by kernel_rfl,a0:=fun _=>by kernel_rfl,z0:=fun _=>by kernel_rfl,v0:=fun _=>by kernel_rfl,t2:=by kernel_rfl,a2:=fun _=>by kernel_rfl,z2:=fun _=>by kernel_rfl,v2:=fun _=>by kernel_rfl,t3:=by kernel_rfl,a3:=fun _=>by kernel_rfl,z3:=fun _=>by kernel_rfl,v3:=fun _=>by kernel_rfl,t4:=by kernel_rfl,a4:=fun _=>by kernel_rfl,z4:=fun _=>by kernel_rfl,v4:=fun _=>by kernel_rfl,t5:=by kernel_rfl,a5:=fun _=>by kernel_rfl,z5:=fun _=>by kernel_rfl,v5:=fun _=>by kernel_rfl,t9:=by kernel_rfl,a9:=fun _=>by kernel_rfl,z9:=fun _=>by kernel_rfl,v9:=fun _=>by kernel_rfl,t20:=by kernel_rfl,a20:=fun _=>by kernel_rfl,z20:=fun _=>by kernel_rfl,v20:=fun _=>by kernel_rfl,t21:=by kernel_rfl,a21:=fun _=>by kernel_rfl,z21:=fun _=>by kernel_rfl,v21:=fun _=>by kernel_rfl,t37:=by kernel_rfl,a37:=fun _=>by kernel_rfl,z37:=fun _=>by kernel_rfl,v37:=fun _=>by kernel_rfl,t46:=by kernel_rfl,a46:=fun _=>by kernel_rfl,z46:=fun _=>by kernel_rfl,v46:=fun _=>by kernel_rfl,t51:=by kernel_rfl,a51:=fun _=>by kernel_rfl,z51:=fun _=>by kernel_rfl,v51:=fun _=>by kernel_rfl,t53:=by kernel_rfl,a53:=fun _=>by kernel_rfl,z53:=fun _=>by kernel_rfl,v53:=fun _=>by kernel_rfl,t75:=by kernel_rfl,a75:=fun _=>by kernel_rfl,z75:=fun _=>by kernel_rfl,v75:=fun _=>by kernel_rfl,t85:=by kernel_rfl,a85:=fun _=>by kernel_rfl,z85:=fun _=>by kernel_rfl,v85:=fun _=>by kernel_rfl,t127:=by kernel_rfl,a127:=fun _=>by kernel_rfl,z127:=fun _=>by kernel_rfl,v127:=fun _=>by kernel_rfl,t143:=by kernel_rfl,a143:=fun _=>by kernel_rfl,z143:=fun _=>by kernel_rfl,v143:=fun _=>by kernel_rfl,t145:=by kernel_rfl,a145:=fun _=>by kernel_rfl,z145:=fun _=>by kernel_rfl,v145:=fun _=>by kernel_rfl,t167:=by kernel_rfl,a167:=fun _=>by kernel_rfl,z167:=fun _=>by kernel_rfl,v167:=fun _=>by kernel_rfl,t168:=by kernel_rfl,a168:=fun _=>by kernel_rfl,z168:=fun _=>by kernel_rfl,v168:=fun _=>by kernel_rfl,t171:=by kernel_rfl,a171:=fun _=>by kernel_rfl,z171:=fun _=>by kernel_rfl,v171:=fun _=>by kernel_rfl,t173:=by kernel_rfl,a173:=fun _=>by kernel_rfl,z173:=fun _=>by kernel_rfl,v173:=fun _=>by kernel_rfl,t175:=by kernel_rfl,a175:=fun _=>by kernel_rfl,z175:=fun _=>by kernel_rfl,v175:=fun _=>by kernel_rfl,t210:=by kernel_rfl,a210:=fun _=>by kernel_rfl,z210:=fun _=>by kernel_rfl,v210:=fun _=>by kernel_rfl,t212:=by kernel_rfl,a212:=fun _=>by kernel_rfl,z212:=fun _=>by kernel_rfl,v212:=fun _=>by kernel_rfl,t213:=by kernel_rfl,a213:=fun _=>by kernel_rfl,z213:=fun _=>by kernel_rfl,t232:=by kernel_rfl,a232:=fun _=>by kernel_rfl,z232:=fun _=>by kernel_rfl,v232:=fun _=>by kernel_rfl,t233:=by kernel_rfl,a233:=fun _=>by kernel_rfl,z233:=fun _=>by kernel_rfl,v233:=fun _=>by kernel_rfl,g15:=by kernel_rfl,g16:=by kernel_rfl,g17:=by kernel_rfl,g18:=by kernel_rfl,g19:=by kernel_rfl,t80:=by kernel_rfl,a80:=fun _=>by kernel_rfl,z80:=fun _=>by kernel_rfl,v80:=fun _=>by kernel_rfl,i0:=by kernel_rfl,i2:=by kernel_rfl,i3:=by kernel_rfl,i4:=by kernel_rfl,i5:=by kernel_rfl,i9:=by kernel_rfl,i20:=by kernel_rfl,i21:=by kernel_rfl,i37:=by kernel_rfl,i46:=by kernel_rfl,i51:=by kernel_rfl,i53:=by kernel_rfl,i75:=by kernel_rfl,i80:=by kernel_rfl,i85:=by kernel_rfl,i127:=by kernel_rfl,i143:=by kernel_rfl,i145:=by kernel_rfl,i167:=by kernel_rfl,i168:=by kernel_rfl,i171:=by kernel_rfl,i173:=by kernel_rfl,i175:=by kernel_rfl,i210:=by kernel_rfl,i212:=by kernel_rfl,i232:=by kernel_rfl,i233:=by kernel_rfl,m15:=by kernel_rfl,m16:=by kernel_rfl,m17:=by kernel_rfl,m18:=by kernel_rfl,m19:=by kernel_rfl,c0:=by kernel_rfl,c2:=by kernel_rfl,c3:=by kernel_rfl,c4:=by kernel_rfl,c5:=by kernel_rfl,c9:=by kernel_rfl,c20:=by kernel_rfl,c21:=by kernel_rfl,c37:=by kernel_rfl,c46:=by kernel_rfl,c51:=by kernel_rfl,c53:=by kernel_rfl,c75:=by kernel_rfl,c80:=by kernel_rfl,c85:=by kernel_rfl,c127:=by kernel_rfl,c143:=by kernel_rfl,c145:=by kernel_rfl,c167:=by kernel_rfl,c168:=by kernel_rfl,c171:=by kernel_rfl,c173:=by kernel_rfl,c175:=by kernel_rfl,c210:=by kernel_rfl,c212:=by kernel_rfl,c213:=by kernel_rfl,c232:=by kernel_rfl,c233:=by kernel_rfl }
theorem L2(N:Nat):aH E ⟨256,[.k (.v .str []),.k (.v (.int .i64) []),.k (.v (.int .i64) [])],[.v (.int .i64) [],.v .nif []],jH N⟩ :=
 aMN (fn:=Tryz.f256) _ (show E.P.funcs[256]?=some Tryz.f256 from by kernel_rfl) (by kernel_rfl) (by kernel_rfl) fun x r h w K hG hk=>by
  obtain⟨h1,h⟩:=aP (show grd (ieq x.2.1 10) _=some r from h);obtain⟨h2,h⟩:=aP h;obtain⟨h3,h⟩:=aP h;injection h with h;subst h
  have e1:x.2.1=10:=by unfold ieq at h1; simpa using h1
  have e2:x.2.2=64:=by unfold ieq at h2; simpa using h2
  have h3:x.1.length≤281474976710656:=of_decide_eq_true h3
  have hsz:(bst x.1).size≤281474976710656:=by rw[cD]; exact h3
  have hdl:(bst x.1).data.toList=x.1:=by simp[bst]
  have err:∀g,lU g E.ie=true→∃v,w.cell? ⟨g,0,none⟩=some v∧(v=.nilIface∨∃u y,v=.iface u y):=fun g hg=>by
   obtain⟨v,hv,hi⟩:=hG.2.2 g hg;obtain⟨cs,e,fz,q1,q2⟩:=hk _ _ _ hv;refine⟨v,?_,hi⟩;rw[iS q1];exact q2.1 (by rcases hi with rfl|⟨u,y,rfl⟩<;>rfl)
  rw[e1,e2];unfold AI;rcases hv:Lib.parseIntB 64 x.1 with v|_|_
  ·refine(Any.strconv_ParseInt_10_at64_ok aE1 (bst x.1) (by omega) v (by rw[hdl]; exact hv) w).mono fun e w' he=>?_
   obtain⟨q1,q2⟩:=he;refine⟨.nilIface,q1,fun _=>rfl,fun h=>(by cases h),?_⟩;rcases q2 with rfl|⟨t,rfl⟩
   ·exact⟨rfl,rfl,rfl,aZ0 _,fun _ _=>rfl⟩
   ·have:=Lib.bytesWorld_below w (aP9.t 5) t
    exact⟨this.os,this.tape,this.output,this.size,this.block⟩
  ·obtain⟨v,c1,c2⟩:=err 9 (by kernel_rfl);refine(Any.strconv_ParseInt_10_at64_syntax aE1 (bst x.1) hsz (by rw[hdl]; exact hv) v w c1 c2).mono fun e w' he=>?_
   obtain⟨M,q1,_,_,q2⟩:=he;exact⟨_,q1,fun h=>(by cases h),fun _=>⟨_,_,rfl⟩,q2.os,q2.tape,q2.output,q2.size,q2.block⟩
  ·obtain⟨v,c1,c2⟩:=err 10 (by kernel_rfl);refine(Any.strconv_ParseInt_10_at64_range aE1 (bst x.1) hsz (by rw[hdl]; exact hv) v w c1 c2).mono fun e w' he=>?_
   obtain⟨M,q1,_,_,q2⟩:=he;rw[hdl] at q1;exact⟨_,q1,fun h=>(by cases h),fun _=>⟨_,_,rfl⟩,q2.os,q2.tape,q2.output,q2.size,q2.block⟩
end Go.Mo
end

section
namespace Go.Mo
open Go Go.W Go.Proofs
set_option maxRecDepth 100000
theorem aQA:aL8 E.P 293:=aPX (show E.P.funcs[293]?=some Tryz.f293 from by kernel_rfl) (by kernel_rfl) (by kernel_rfl) (by kernel_rfl) (show Extern.find Tryz.f293=some (Extern.BytealgMakeNoZero.makeNoZero #[3] #[129]) from by kernel_rfl) (by kernel_rfl)
theorem aL:EnvOk E:=⟨chk,mixed,fun z h=>(by injection h with h; subst h; exact aQA),fun z t h=>(by injection h with h; injection h with h1 h2; subst h1; subst h2; exact aP1)⟩
theorem aE2:EnvOk (E.wop ops):=⟨aAR,mixed,fun z h=>(by injection h with h; subst h; exact aQA),fun z t h=>(by injection h with h; injection h with h1 h2; subst h1; subst h2; exact aP1)⟩
theorem sY(N:Nat):aH E ⟨193,gP,gQ,utf8_ValidString N⟩:=khV N
theorem kR(N:Nat):aH E ⟨146,cF,cG,bJ N⟩:=W.KQ (show aMM E.P 146 131 from aWL) N
theorem sZ(N:Nat):aH E ⟨201,eH,eI,strings_Contains N⟩:=L1 N
theorem pV(N:Nat):aH E ⟨148,fJ,fK,cV N⟩:=SL N
theorem uG(N:Nat):aH E ⟨207,iG,iH,strings_Replace N⟩:=aBX N
theorem pF(N:Nat):aH E ⟨227,eV,eW,eJ N⟩:=W.DO (show E.P.funcs[227]?=some Tryz.f227 from by kernel_rfl) (by kernel_rfl) (by kernel_rfl) (by kernel_rfl) (show Extern.find Tryz.f227=some Extern.BytealgCount.count from by kernel_rfl) N
theorem yM(N:Nat):aH E ⟨180,gG,gH,strings_Index N⟩:=aI3 N
theorem mJ(N:Nat):aH E ⟨261,dQ,dR,dD N⟩:=W.uB (show E.P.funcs[261]?=some Tryz.f261 from by kernel_rfl) (by kernel_rfl) (by kernel_rfl) (by kernel_rfl) (show Extern.find Tryz.f261=some Extern.BytealgIndexByte.indexByte from by kernel_rfl) N
theorem AK(N:Nat):aH E ⟨235,kP,kQ,gI N⟩:=aM3 N
theorem SM(N:Nat):aH E ⟨273,qZ,rA,rB N⟩:=aM4 N
theorem tA(N:Nat):aH E ⟨256,gR,gS,cW N⟩:=L2 N
end Go.Mo
end

section
namespace Go.Mo
open Go Go.W Go.Proofs
noncomputable section
set_option maxRecDepth 100000
def aQB:Ann:=(.sq .lf (.sq .lf (.jn ⟨[],[],[],[]⟩ (.sq .lf (.lp ⟨[1,9],[],[.s 5,.o 5],[.v (.int .i64) [],.i]⟩ .lf)) .lf)))
theorem aQC(N:Nat):aN E [] N Tryz.f243 aQB YQ YR=q11 N:=by kernel_rfl
theorem aQD(N:Nat):aN E [⟨243,YQ,YR,q11 N⟩] N Tryz.f194 .lf KT KU=q12 N:=by kernel_rfl
def aQE:Ann:=(.sq .lf (.sq .lf (.jn ⟨[],[],[],[]⟩ (.sq .lf (.lp ⟨[9],[],[.o 7],[.i]⟩ .lf)) .lf)))
theorem aQF(N:Nat):aN E [⟨193,gP,gQ,utf8_ValidString N⟩,⟨194,KT,KU,q12 N⟩] N Tryz.f134 aQE oZ pA=q13 N:=by kernel_rfl
def aQG:Ann:=(.sq .lf (.sq .lf (.jn ⟨[],[],[],[]⟩ (.sq .lf (.lp ⟨[0,24],[],[.s 25],[.v (.int .i64) []]⟩ (.sq .lf (.sq .lf (.jn ⟨[0,24,25],[],[],[]⟩ .lf .lf))))) .lf)))
theorem aQH(N:Nat):aN E [] N Tryz.f135 aQG yI yJ=q14 N:=by kernel_rfl
theorem aQI(N:Nat):aN E [] N Tryz.f83 .lf DW DX=q15 N:=by kernel_rfl
theorem aQJ(N:Nat):aN E [⟨83,DW,DX,q15 N⟩] N Tryz.f195 .lf YS YT=q16 N:=by kernel_rfl
theorem aQK(N:Nat):aN E [⟨83,DW,DX,q15 N⟩] N Tryz.f196 .lf YU YV=q17 N:=by kernel_rfl
theorem aQL(N:Nat):aN E [⟨195,YS,YT,q16 N⟩,⟨196,YU,YV,q17 N⟩] N Tryz.f136 .lf YW YX=q18 N:=by kernel_rfl
def aQM:Ann:=(.sq .lf (.jn ⟨[1],[2],[],[]⟩ .lf .lf))
theorem aQN(N:Nat):aN E [⟨134,oZ,pA,q13 N⟩,⟨135,yI,yJ,q14 N⟩,⟨136,YW,YX,q18 N⟩] N Tryz.f74 aQM YY YZ=q19 N:=by kernel_rfl
theorem aQO(N:Nat):aN E [] N Tryz.f197 .lf ZA ZB=q20 N:=by kernel_rfl
theorem aQP(N:Nat):aN E [⟨135,yI,yJ,q14 N⟩,⟨197,ZA,ZB,q20 N⟩] N Tryz.f137 .lf KV KW=q21 N:=by kernel_rfl
def aQQ:Ann:=(.sq .lf (.sq .lf (.jn ⟨[],[],[],[]⟩ (.sq .lf (.lp ⟨[0,9,10],[],[.s 11],[.v (.int .i64) []]⟩ (.sq .lf (.sq .lf (.sq (.sq .lf (.sq .lf (.jn ⟨[0,3,4,9,10,11],[14],[],[]⟩ .lf .lf))) .lf))))) .lf)))
theorem aQR(N:Nat):aN E [⟨137,KV,KW,q21 N⟩] N Tryz.f75 aQQ ZC ZD=q22 N:=by kernel_rfl
theorem aQS(N:Nat):aN E [] N Tryz.f198 .lf KX KY=q23 N:=by kernel_rfl
def aQT:Ann:=(.sq .lf (.sq .lf (.jn ⟨[4],[2],[],[]⟩ (.sq .lf (.lp ⟨[1,4,11,12],[2],[.s 13],[.v (.int .i64) []]⟩ .lf)) .lf)))
theorem aQU(N:Nat):aN E [⟨198,KX,KY,q23 N⟩] N Tryz.f138 aQT ZE ZF=q24 N:=by kernel_rfl
theorem aQV(N:Nat):aN E [] N Tryz.f139 .lf ZG ZH=q25 N:=by kernel_rfl
theorem aQW(N:Nat):aN E [] N Tryz.f85 .lf KZ LA=q26 N:=by kernel_rfl
theorem aQX(N:Nat):aN E [⟨85,KZ,LA,q26 N⟩] N Tryz.f38 .lf LB LC=q27 N:=by kernel_rfl
theorem aQY(N:Nat):aN E [] N Tryz.f244 .lf ZI ZJ=q28 N:=by kernel_rfl
theorem aQZ(N:Nat):aN E [] N Tryz.f245 .lf ZK ZL=q29 N:=by kernel_rfl
def aQ0:Ann:=(.sq .lf (.sq .lf (.jn ⟨[],[],[],[]⟩ (.sq .lf (.lp ⟨[1,10,11],[2],[.s 12],[.v (.int .i64) []]⟩ .lf)) .lf)))
theorem aQ1(N:Nat):aN E [⟨134,oZ,pA,q13 N⟩,⟨244,ZI,ZJ,q28 N⟩,⟨245,ZK,ZL,q29 N⟩] N Tryz.f199 aQ0 ZM ZN=q30 N:=by kernel_rfl
theorem aQ2(N:Nat):aN E [⟨146,cF,cG,bJ N⟩] N Tryz.f79 .lf DY DZ=q31 N:=by kernel_rfl
def aQ3:Ann:=(.sq .lf (.sq .lf (.jn ⟨[3],[],[.o 5],[.b 131 Y9 [1]]⟩ (.sq .lf (.lp ⟨[3,7,8],[],[.s 9,.o 5],[.v (.int .i64) [],.b 131 Y9 [1]]⟩ .lf)) .lf)))
theorem aQ4(N:Nat):aN E [⟨79,DY,DZ,q31 N⟩] N Tryz.f200 aQ3 ZO ZP=q32 N:=by kernel_rfl
def aQ5:Ann:=(.sq .lf (.jn ⟨[],[],[.s 2],[.v (.int .i64) []]⟩ (.sq .lf (.lp ⟨[4],[],[.s 2,.o 4],[.v (.int .i64) [],.i]⟩ .lf)) .lf))
theorem aQ6(N:Nat):aN E [] N Tryz.f226 aQ5 LD LE=q33 N:=by kernel_rfl
theorem aQ7(N:Nat):aN E [⟨134,oZ,pA,q13 N⟩,⟨226,LD,LE,q33 N⟩] N Tryz.f246 .lf ZQ ZR=q34 N:=by kernel_rfl
def aQ8:Ann:=(.sq .lf (.sq .lf (.jn ⟨[],[],[.s 3],[.v (.int .i64) []]⟩ (.sq .lf (.lp ⟨[8,9],[],[.s 3,.s 10],[.v (.int .i64) [],.v (.int .i64) []]⟩ .lf)) .lf)))
theorem aQ9(N:Nat):aN E [⟨246,ZQ,ZR,q34 N⟩] N Tryz.f202 aQ8 LF LG=q35 N:=by kernel_rfl
theorem aRA(N:Nat):aN E [⟨199,ZM,ZN,q30 N⟩,⟨200,ZO,ZP,q32 N⟩,⟨201,eH,eI,strings_Contains N⟩,⟨202,LF,LG,q35 N⟩] N Tryz.f140 .lf ZS ZT=q36 N:=by kernel_rfl
def aRB:Ann:=(.sq .lf (.sq .lf (.jn ⟨[],[],[.s 3],[.v (.slice (.int .i64)) [0]]⟩ (.sq .lf (.lp ⟨[7,8],[],[.s 3,.s 9],[.v (.slice (.int .i64)) [0],.v (.int .i64) []]⟩ .lf)) .lf)))
theorem aRC(N:Nat):aN E [⟨202,LF,LG,q35 N⟩] N Tryz.f142 aRB LH LI=q37 N:=by kernel_rfl
theorem aRD(N:Nat):aN E [⟨198,KX,KY,q23 N⟩,⟨137,KV,KW,q21 N⟩] N Tryz.f203 .lf ZU ZV=q38 N:=by kernel_rfl
def aRE:Ann:=(.sq .lf (.sq .lf (.sq .lf (.jn ⟨[1,2],[2],[.s 6],[.v (.int .i64) []]⟩ .lf (.sq .lf (.jn ⟨[],[],[.s 7],[.v (.slice Y8) [0]]⟩ (.sq .lf (.lp ⟨[2,6,32,33],[2],[.s 7,.s 34],[.v (.slice Y8) [0],.v (.int .i64) []]⟩ .lf)) .lf))))))
theorem aRF(N:Nat):aN E [⟨203,ZU,ZV,q38 N⟩] N Tryz.f141 aRE ZW ZX=q39 N:=by kernel_rfl
def aRG:Ann:=(.sq .lf (.sq .lf (.sq (.sq .lf (.sq .lf (.sq .lf (.sq .lf (.sq .lf (.sq .lf (.jn ⟨[2,5],[12,2],[.s 42],[.v (.bool) []]⟩ .lf .lf))))))) (.jn ⟨[2,5],[12,2],[],[]⟩ (.sq .lf (.lp ⟨[2,5,64,65],[12,2],[.s 66],[.v (.int .i64) []]⟩ .lf)) .lf))))
theorem aRH(N:Nat):aN E [⟨138,ZE,ZF,q24 N⟩,⟨139,ZG,ZH,q25 N⟩,⟨38,LB,LC,q27 N⟩,⟨135,yI,yJ,q14 N⟩,⟨140,ZS,ZT,q36 N⟩,⟨142,LH,LI,q37 N⟩,⟨141,ZW,ZX,q39 N⟩] N Tryz.f76 aRG ZY ZZ=q40 N:=by kernel_rfl
theorem aRI(N:Nat):aN E [] N Tryz.f204 .lf A0 A2=q41 N:=by kernel_rfl
theorem aRJ(N:Nat):aN E [⟨204,A0,A2,q41 N⟩] N Tryz.f144 .lf A3 A4=q42 N:=by kernel_rfl
def aRK:Ann:=(.sq .lf (.sq .lf (.jn ⟨[3],[],[],[]⟩ (.sq .lf (.lp ⟨[3,6,7],[],[.s 8],[.v (.int .i64) []]⟩ .lf)) .lf)))
theorem aRL(N:Nat):aN E [] N Tryz.f143 aRK A5 A6=q43 N:=by kernel_rfl
theorem aRM(N:Nat):aN E [⟨144,A3,A4,q42 N⟩,⟨143,A5,A6,q43 N⟩] N Tryz.f77 .lf A7 A8=q44 N:=by kernel_rfl
def aRN:Ann:=(.sq .lf (.sq .lf (.jn ⟨[],[],[.s 3],[.v (.int .i64) []]⟩ (.sq .lf (.lp ⟨[12,13],[12],[.s 3,.s 14],[.v (.int .i64) [],.v (.int .i64) []]⟩ .lf)) .lf)))
theorem aRO(N:Nat):aN E [⟨142,LH,LI,q37 N⟩] N Tryz.f205 aRN A9 B0=q45 N:=by kernel_rfl
theorem aRP(N:Nat):aN E [⟨205,A9,B0,q45 N⟩] N Tryz.f145 .lf B1 B2=q46 N:=by kernel_rfl
def aRQ:Ann:=(.sq .lf (.sq .lf (.jn ⟨[],[],[.o 1],[.m (.int .i64) (.int .i64)]⟩ (.sq .lf (.lp ⟨[1,2,15,16],[3],[.s 17,.o 1],[.v (.int .i64) [],.m (.int .i64) (.int .i64)]⟩ (.sq .lf (.sq .lf (.sq (.sq .lf (.sq .lf (.jn ⟨[1,2,6,15,16,17],[1,19,3],[],[]⟩ .lf .lf))) .lf))))) .lf)))
theorem aRR(N:Nat):aN E [⟨145,B1,B2,q46 N⟩,⟨135,yI,yJ,q14 N⟩,⟨134,oZ,pA,q13 N⟩] N Tryz.f78 aRQ B3 B4=q47 N:=by kernel_rfl
def aRS:Ann:=(.sq .lf (.sq .lf (.sq .lf (.sq .lf (.sq .lf (.jn ⟨[1,5],[2],[.o 20],[.m (.int .i64) (.int .i64)]⟩ (.sq .lf (.lp ⟨[1,5,28,29],[2],[.s 30,.o 20],[.v (.int .i64) [],.m (.int .i64) (.int .i64)]⟩ .lf)) .lf))))))
theorem aRT(N:Nat):aN E [⟨74,YY,YZ,q19 N⟩,⟨75,ZC,ZD,q22 N⟩,⟨76,ZY,ZZ,q40 N⟩,⟨77,A7,A8,q44 N⟩,⟨78,B3,B4,q47 N⟩] N Tryz.f30 aRS EA EB=q48 N:=by kernel_rfl
theorem aRU(N:Nat):aN E [⟨83,DW,DX,q15 N⟩] N Tryz.f34 .lf LJ LK=q49 N:=by kernel_rfl
theorem aRV(N:Nat):aN E [] N Tryz.f35 .lf B5 B6=q50 N:=by kernel_rfl
theorem aRW(N:Nat):aN E [⟨148,fJ,fK,cV N⟩] N Tryz.f84 .lf B7 B8=q51 N:=by kernel_rfl
theorem aRX(N:Nat):aN E [⟨84,B7,B8,q51 N⟩] N Tryz.f37 .lf LL LM=q52 N:=by kernel_rfl
theorem aRY(N:Nat):aN E [⟨37,LL,LM,q52 N⟩] N Tryz.f36 .lf B9 C0=q53 N:=by kernel_rfl
def aRZ:Ann:=(.sq .lf (.jn ⟨[0,8],[2,1],[.o 7],[.b 47 Y2 [2]]⟩ (.sq .lf (.lp ⟨[0,8,14,15],[2,1],[.s 16,.o 7],[.v (.int .i64) [],.b 47 Y2 [2]]⟩ .lf)) .lf))
theorem aR0(N:Nat):aN E [] N Tryz.f33 aRZ C1 C2=q54 N:=by kernel_rfl
def aR1:Ann:=(.sq .lf (.sq .lf (.sq .lf (.sq .lf (.jn ⟨[1,5],[2],[.o 11],[.b 77 (.slice Y2) [0]]⟩ (.sq .lf (.lp ⟨[1,5,40,41],[2],[.s 42,.o 11],[.v (.int .i64) [],.b 77 (.slice Y2) [0]]⟩ (.sq .lf (.sq .lf (.sq (.sq .lf (.sq .lf (.jn ⟨[1,5,7,40,41,42],[42,11,37,2],[.s 8],[.v (.str) []]⟩ .lf .lf))) .lf))))) (.jn ⟨[5],[],[.o 11],[.b 77 (.slice Y2) [0]]⟩ (.sq .lf (.lp ⟨[5,75,76],[],[.s 77,.o 11],[.v (.int .i64) [],.b 77 (.slice Y2) [0]]⟩ (.sq .lf (.sq .lf (.jn ⟨[5,75,76,77],[],[.o 11],[.b 77 (.slice Y2) [0]]⟩ (.sq .lf (.sq .lf (.sq .lf (.lp ⟨[5,75,76,77,109,110],[],[.s 111,.o 11],[.v (.int .i64) [],.b 77 (.slice Y2) [0]]⟩ (.sq .lf (.sq .lf (.jn ⟨[5,75,76,77,109,110,111],[],[.o 11],[.b 77 (.slice Y2) [0]]⟩ (.sq .lf (.sq .lf (.sq .lf (.lp ⟨[5,75,76,77,109,110,111,117,118],[],[.s 119,.o 11],[.v (.int .i64) [],.b 77 (.slice Y2) [0]]⟩ (.sq .lf (.sq .lf (.sq (.sq .lf (.sq .lf (.jn ⟨[5,14,75,76,77,109,110,111,117,118,119],[99,11,94],[.s 15],[.v (.str) []]⟩ .lf .lf))) .lf))))))) .lf))))))) .lf))))) .lf))))))
theorem aR2(N:Nat):aN E [⟨30,EA,EB,q48 N⟩,⟨34,LJ,LK,q49 N⟩,⟨35,B5,B6,q50 N⟩,⟨36,B9,C0,q53 N⟩,⟨33,C1,C2,q54 N⟩,⟨37,LL,LM,q52 N⟩,⟨38,LB,LC,q27 N⟩] N Tryz.f12 aR1 C3 C4=q55 N:=by kernel_rfl
def aR3:Ann:=(.sq .lf (.sq .lf (.sq .lf (.sq .lf (.jn ⟨[5],[],[.s 6],[.v (.int .i64) []]⟩ .lf .lf)))))
theorem aR4(N:Nat):aN E [] N Tryz.f101 aR3 C5 C6=q56 N:=by kernel_rfl
theorem aR5(N:Nat):aN E [] N Tryz.f220 .lf EC ED=q57 N:=by kernel_rfl
theorem aR6(N:Nat):aN E [⟨220,EC,ED,q57 N⟩] N Tryz.f221 .lf LN LO=q58 N:=by kernel_rfl
def L3:Ann:=(.sq .lf (.sq .lf (.jn ⟨[],[],[],[]⟩ (.sq .lf (.lp ⟨[0,19],[],[.s 20],[.v (.int .i64) []]⟩ .lf)) .lf)))
theorem L4(N:Nat):aN E [⟨220,EC,ED,q57 N⟩,⟨221,LN,LO,q58 N⟩] N Tryz.f166 L3 kD kE=dZ N:=by kernel_rfl
def aR7:Ann:=(.sq .lf (.sq .lf (.sq .lf (.jn ⟨[],[],[],[]⟩ (.sq .lf (.lp ⟨[3,22,23],[],[.s 24,.o 19],[.v (.int .i64) [],.m (.str) (.bool)]⟩ .lf)) .lf))))
theorem aR8(N:Nat):aN E [⟨166,kD,kE,dZ N⟩,⟨134,oZ,pA,q13 N⟩] N Tryz.f102 aR7 C7 C8=q59 N:=by kernel_rfl
def aR9:Ann:=(.sq .lf (.sq .lf (.sq (.jn ⟨[5],[7],[.s 10],[.v (.bool) []]⟩ .lf .lf) .lf)))
theorem aSA(N:Nat):aN E [⟨134,oZ,pA,q13 N⟩] N Tryz.f103 aR9 C9 D0=q60 N:=by kernel_rfl
def aSB:Ann:=(.sq .lf (.sq .lf (.sq .lf (.jn ⟨[],[],[],[]⟩ (.sq .lf (.lp ⟨[0,13,14],[],[.s 15],[.v (.int .i64) []]⟩ .lf)) .lf))))
theorem aSC(N:Nat):aN E [⟨101,C5,C6,q56 N⟩,⟨102,C7,C8,q59 N⟩,⟨103,C9,D0,q60 N⟩] N Tryz.f60 aSB LP LQ=q61 N:=by kernel_rfl
theorem aSD(N:Nat):aN E [⟨207,iG,iH,strings_Replace N⟩] N Tryz.f147 .lf D8 D9=q62 N:=by kernel_rfl
def aSE:Ann:=(.sq .lf (.jn ⟨[],[],[.s 0],[.v (.str) []]⟩ (.sq .lf (.lp ⟨[5],[],[.s 0,.s 6],[.v (.str) [],.v (.int .i64) []]⟩ .lf)) .lf))
theorem aSF(N:Nat):aN E [⟨147,D8,D9,q62 N⟩] N Tryz.f80 aSE E0 E1=q63 N:=by kernel_rfl
theorem aSG(N:Nat):aN E [] N Tryz.f81 .lf E2 E3=q64 N:=by kernel_rfl
def aSH:Ann:=(.sq .lf (.sq .lf (.sq .lf (.sq .lf (.jn ⟨[5],[],[.s 6,.o 9],[.v (.slice (.str)) [0],.b 131 Y9 [1]]⟩ (.sq .lf (.lp ⟨[0,5,17,18],[],[.s 6,.s 19,.o 9],[.v (.slice (.str)) [0],.v (.int .i64) [],.b 131 Y9 [1]]⟩ (.sq .lf (.sq .lf (.jn ⟨[0,5,17,18,19],[],[.s 6,.o 9],[.v (.slice (.str)) [0],.b 131 Y9 [1]]⟩ (.sq .lf (.jn ⟨[0,5,7,8,17,18,19],[22],[.s 6,.o 9],[.v (.slice (.str)) [0],.b 131 Y9 [1]]⟩ (.lp ⟨[0,5,7,8,17,18,19],[22],[.s 6,.o 9],[.v (.slice (.str)) [0],.b 131 Y9 [1]]⟩ .lf) (.sq .lf (.sq .lf (.jn ⟨[0,5,6,7,8,17,18,19],[22,26],[.o 9],[.b 131 Y9 [1]]⟩ (.sq .lf (.lp ⟨[0,5,6,7,8,17,18,19,55,56],[22,26],[.s 57,.o 9],[.v (.int .i64) [],.b 131 Y9 [1]]⟩ .lf)) .lf))))) .lf))))) (.jn ⟨[5],[],[.o 9],[.b 131 Y9 [1]]⟩ (.sq .lf (.lp ⟨[5,6],[12],[.s 11,.o 9],[.v (.int .i64) [],.b 131 Y9 [1]]⟩ .lf)) .lf))))))
theorem aSI(N:Nat):aN E [⟨60,LP,LQ,q61 N⟩,⟨79,DY,DZ,q31 N⟩,⟨80,E0,E1,q63 N⟩,⟨81,E2,E3,q64 N⟩] N Tryz.f31 aSH E4 E5=q65 N:=by kernel_rfl
theorem aSJ(N:Nat):aN E [⟨12,C3,C4,q55 N⟩,⟨31,E4,E5,q65 N⟩] N Tryz.f14 .lf LR LS=q66 N:=by kernel_rfl
theorem SN(N:Nat):aN E [⟨14,LR,LS,q66 N⟩] N Tryz.f10 .lf pB pC=nZ N:=by kernel_rfl
theorem SO(N:Nat):aN E [] N Tryz.f26 .lf pD pE=lP N:=by kernel_rfl
def aSK:Ann:=(.sq .lf (.sq .lf (.sq .lf (.sq .lf (.lp ⟨[1],[],[.s 0,.s 5],[.v (.str) [],.v (.int .i64) []]⟩ .lf)))))
theorem aSL(N:Nat):aN E [⟨226,LD,LE,q33 N⟩,⟨227,eV,eW,eJ N⟩,⟨180,gG,gH,strings_Index N⟩] N Tryz.f176 aSK E6 E7=q67 N:=by kernel_rfl
def aSM:Ann:=(.sq .lf (.jn ⟨[],[],[],[]⟩ (.sq .lf (.lp ⟨[0,1],[],[.s 5],[.v (.int .i64) []]⟩ .lf)) .lf))
theorem aSN(N:Nat):aN E [] N Tryz.f228 aSM E8 E9=q68 N:=by kernel_rfl
def aSO:Ann:=(.sq .lf (.sq .lf (.jn ⟨[0],[],[.s 4],[.v (.int .u32) []]⟩ (.sq .lf (.lp ⟨[0],[],[.s 4,.s 5],[.v (.int .u32) [],.v (.int .i64) []]⟩ .lf)) (.sq .lf (.jn ⟨[4],[],[.s 6],[.v (.int .u32) []]⟩ (.sq .lf (.lp ⟨[4],[],[.s 6,.s 7,.s 8],[.v (.int .u32) [],.v (.int .u32) [],.v (.int .i64) []]⟩ .lf)) .lf)))))
theorem aSP(N:Nat):aN E [] N Tryz.f260 aSO F0 F1=q69 N:=by kernel_rfl
def aSQ:Ann:=(.sq .lf (.sq .lf (.sq .lf (.sq .lf (.sq .lf (.jn ⟨[0,1,5,6,7,8],[],[.s 9],[.v (.int .u32) []]⟩ (.sq .lf (.lp ⟨[0,1,5,6,7,8],[],[.s 9,.s 10],[.v (.int .u32) [],.v (.int .i64) []]⟩ .lf)) (.jn ⟨[0,1,5,6,7,8,9],[],[],[]⟩ .lf (.jn ⟨[],[],[],[]⟩ (.sq .lf (.lp ⟨[0,1,5,6,7],[],[.s 9,.s 11],[.v (.int .u32) [],.v (.int .i64) []]⟩ .lf)) .lf))))))))
theorem aSR(N:Nat):aN E [⟨260,F0,F1,q69 N⟩] N Tryz.f229 aSQ F2 F3=q70 N:=by kernel_rfl
theorem aSS(N:Nat):aN E [⟨228,E8,E9,q68 N⟩,⟨229,F2,F3,q70 N⟩] N Tryz.f177 .lf F4 F5=q71 N:=by kernel_rfl
theorem aE3(N:Nat):aN E [⟨176,E6,E7,q67 N⟩,⟨177,F4,F5,q71 N⟩] N Tryz.f128 .lf yK yL=kO N:=by kernel_rfl
theorem aST(N:Nat):aN E [⟨261,dQ,dR,dD N⟩] N Tryz.f230 .lf F6 F7=q72 N:=by kernel_rfl
theorem aSU(N:Nat):aN E [⟨230,F6,F7,q72 N⟩] N Tryz.f178 .lf F8 F9=q73 N:=by kernel_rfl
theorem aSV(N:Nat):aN E [] N Tryz.f231 .lf LT LU=q74 N:=by kernel_rfl
theorem aSW(N:Nat):aN E [⟨231,LT,LU,q74 N⟩] N Tryz.f179 .lf LV LW=q75 N:=by kernel_rfl
def L5:Ann:=(.sq .lf (.sq .lf (.sq .lf (.jn ⟨[0,1],[],[.s 6],[.v (.int .i64) []]⟩ (.lp ⟨[0,1],[],[.s 6],[.v (.int .i64) []]⟩ .lf) .lf))))
theorem L6(N:Nat):aN E [⟨220,EC,ED,q57 N⟩,⟨221,LN,LO,q58 N⟩] N Tryz.f181 L5 kF kG=eN N:=by kernel_rfl
theorem aSX(N:Nat):aN E [] N Tryz.f233 .lf G0 G1=q76 N:=by kernel_rfl
def aSY:Ann:=(.sq .lf (.jn ⟨[],[],[.s 1],[.v (.int .i64) []]⟩ (.lp ⟨[0],[],[.s 1],[.v (.int .i64) []]⟩ .lf) .lf))
theorem aSZ(N:Nat):aN E [⟨233,G0,G1,q76 N⟩] N Tryz.f182 aSY EE EF=q77 N:=by kernel_rfl
def aS0:Ann:=(.sq .lf (.sq .lf (.sq .lf (.sq .lf (.sq .lf (.sq .lf (.jn ⟨[0,1,4,7],[2],[],[]⟩ .lf (.sq .lf (.jn ⟨[0,1,4,7],[2],[.s 8],[.v (.int .i64) []]⟩ (.lp ⟨[0,1,4,7],[2],[.s 8],[.v (.int .i64) []]⟩ .lf) .lf)))))))))
theorem aS1(N:Nat):aN E [⟨181,kF,kG,eN N⟩,⟨182,EE,EF,q77 N⟩] N Tryz.f234 aS0 G2 G3=q78 N:=by kernel_rfl
def aS2:Ann:=(.sq .lf (.sq .lf (.sq .lf (.sq .lf (.lp ⟨[0,2,7],[2],[.s 6,.o 17],[.v (.int .i64) [],.b 176 Y7 [2]]⟩ (.sq .lf (.sq (.jn ⟨[0,2,6,7,8],[17,20,2],[.s 25],[.v (.bool) []]⟩ .lf (.sq .lf (.jn ⟨[0,2,6,7,8],[17,20,2],[.s 39],[.v (.bool) []]⟩ .lf .lf))) .lf)))))))
theorem aS3(N:Nat):aN E [⟨181,kF,kG,eN N⟩,⟨182,EE,EF,q77 N⟩,⟨234,G2,G3,q78 N⟩] N Tryz.f183 aS2 G4 G5=q79 N:=by kernel_rfl
def L7:Ann:=(.sq .lf (.sq .lf (.jn ⟨[0,2],[2],[],[]⟩ (.sq .lf (.lp ⟨[0,2,27],[2],[.s 28],[.v (.int .i64) []]⟩ .lf)) .lf)))
theorem L8(N:Nat):aN E [⟨178,F8,F9,q73 N⟩,⟨179,LV,LW,q75 N⟩,⟨180,gG,gH,strings_Index N⟩,⟨181,kF,kG,eN N⟩,⟨182,EE,EF,q77 N⟩,⟨183,G4,G5,q79 N⟩] N Tryz.f129 L7 qX qY=eP N:=by kernel_rfl
def aS4:Ann:=(.sq .lf (.sq .lf (.jn ⟨[1],[],[.s 5],[.v (.int .i64) []]⟩ (.jn ⟨[0,1,5],[],[.s 6],[.v (.bool) []]⟩ .lf (.sq .lf (.jn ⟨[0,1,5],[],[.s 16],[.v (.bool) []]⟩ .lf .lf))) .lf)))
theorem aS5(N:Nat):aN E [] N Tryz.f301 aS4 G6 G7=q80 N:=by kernel_rfl
def aS6:Ann:=(.sq .lf (.jn ⟨[0],[],[],[]⟩ (.sq .lf (.lp ⟨[0,12],[],[.s 13],[.v (.int .i64) []]⟩ .lf)) (.sq .lf (.jn ⟨[0],[],[.s 7,.s 8,.s 9],[.v (.int .i64) [],.v (.int .i64) [],.v (.int .i64) []]⟩ .lf (.sq .lf (.jn ⟨[0,7,9],[],[.s 10,.s 11],[.v (.int .i64) [],.v (.int .i64) []]⟩ (.lp ⟨[0,7,8,9],[],[.s 10,.s 11],[.v (.int .i64) [],.v (.int .i64) []]⟩ .lf) .lf))))))
theorem aS7(N:Nat):aN E [⟨179,LV,LW,q75 N⟩,⟨301,G6,G7,q80 N⟩,⟨194,KT,KU,q12 N⟩] N Tryz.f288 aS6 G8 G9=q81 N:=by kernel_rfl
theorem aS8(N:Nat):aN E [⟨146,cF,cG,bJ N⟩] N Tryz.f289 .lf H2 H5=q82 N:=by kernel_rfl
def aS9:Ann:=(.sq .lf (.sq .lf (.jn ⟨[4],[],[.o 4],[.b 131 Y9 [1]]⟩ (.sq .lf (.lp ⟨[0,4],[],[.s 5,.o 4],[.v (.int .i64) [],.b 131 Y9 [1]]⟩ .lf)) .lf)))
theorem aTA(N:Nat):aN E [⟨288,G8,G9,q81 N⟩,⟨79,DY,DZ,q31 N⟩,⟨289,H2,H5,q82 N⟩] N Tryz.f272 aS9 H6 H7=q83 N:=by kernel_rfl
theorem aTB(N:Nat):aN E [⟨273,qZ,rA,rB N⟩,⟨272,H6,H7,q83 N⟩,⟨134,oZ,pA,q13 N⟩] N Tryz.f236 .lf LX LY=q84 N:=by kernel_rfl
def aTC:Ann:=(.sq .lf (.sq (.jn ⟨[0,1],[3,1,2],[.s 5],[.v (.bool) []]⟩ .lf .lf) .lf))
theorem aTD(N:Nat):aN E [] N Tryz.f237 aTC LZ MA=q85 N:=by kernel_rfl
def aTE:Ann:=(.sq .lf (.jn ⟨[0,1],[3,1,2],[],[]⟩ .lf .lf))
theorem aTF(N:Nat):aN E [⟨235,kP,kQ,gI N⟩,⟨201,eH,eI,strings_Contains N⟩,⟨236,LX,LY,q84 N⟩,⟨237,LZ,MA,q85 N⟩] N Tryz.f184 aTE H8 H9=q86 N:=by kernel_rfl
theorem aTG(N:Nat):aN E [⟨166,kD,kE,dZ N⟩] N Tryz.f185 .lf I0 I1=q87 N:=by kernel_rfl
def aTH:Ann:=(.sq .lf (.sq .lf (.jn ⟨[0,3],[3,1,2,5],[.s 5],[.v (.slice (.str)) [0]]⟩ (.sq .lf (.lp ⟨[0,3,22,23],[3,1,2,5],[.s 5,.s 24],[.v (.slice (.str)) [0],.v (.int .i64) []]⟩ .lf)) (.jn ⟨[0,3],[3,1,2,5],[],[]⟩ (.sq .lf (.lp ⟨[0,3,34,35],[3,1,2,13,5],[.s 36],[.v (.int .i64) []]⟩ .lf)) (.sq .lf (.sq .lf (.jn ⟨[0,3,10],[3,1,2,5],[.o 28],[.b 47 Y2 [2]]⟩ (.sq .lf (.lp ⟨[0,3,10,57,58],[3,1,2,5],[.s 59,.o 28],[.v (.int .i64) [],.b 47 Y2 [2]]⟩ (.sq .lf (.sq .lf (.jn ⟨[0,3,10,57,58,59],[3,1,2,5],[.o 28],[.b 47 Y2 [2]]⟩ (.sq .lf (.jn ⟨[0,3,10,12,57,58,59],[3,1,2,41,28,35,5],[],[]⟩ (.sq .lf (.lp ⟨[0,3,10,12,57,58,59,67,68],[3,1,2,41,28,35,5],[.s 69],[.v (.int .i64) []]⟩ .lf)) .lf)) .lf))))) .lf)))))))
theorem aTI(N:Nat):aN E [⟨166,kD,kE,dZ N⟩,⟨236,LX,LY,q84 N⟩,⟨237,LZ,MA,q85 N⟩] N Tryz.f186 aTH I2 I3=q88 N:=by kernel_rfl
theorem aTJ(N:Nat):aN E [⟨184,H8,H9,q86 N⟩,⟨185,I0,I1,q87 N⟩,⟨186,I2,I3,q88 N⟩] N Tryz.f130 .lf I4 I5=q89 N:=by kernel_rfl
def aTK:Ann:=(.sq .lf (.sq .lf (.sq .lf (.jn ⟨[0,4],[],[.o 8],[.b 174 (.st (.pair (.slice Y2) (.pair (.slice (.str)) (.bool)))) [0,1]]⟩ (.sq .lf (.lp ⟨[0,4],[],[.s 5,.o 8],[.v (.int .i64) [],.b 174 (.st (.pair (.slice Y2) (.pair (.slice (.str)) (.bool)))) [0,1]]⟩ .lf)) .lf))))
theorem aTL(N:Nat):aN E [⟨128,yK,yL,kO N⟩,⟨129,qX,qY,eP N⟩,⟨130,I4,I5,q89 N⟩] N Tryz.f72 aTK I6 I7=q90 N:=by kernel_rfl
theorem aTM(N:Nat):aN E [] N Tryz.f61 .lf I8 I9=q91 N:=by kernel_rfl
theorem aTN(N:Nat):aN E [] N Tryz.f104 .lf J0 J1=q92 N:=by kernel_rfl
def aTO:Ann:=(.sq .lf (.jn ⟨[],[],[],[]⟩ (.sq .lf (.lp ⟨[1,7,8],[],[.s 9],[.v (.int .i64) []]⟩ .lf)) .lf))
theorem aTP(N:Nat):aN E [] N Tryz.f105 aTO J2 J3=q93 N:=by kernel_rfl
def aTQ:Ann:=(.sq .lf (.sq .lf (.sq .lf (.jn ⟨[],[],[.s 3,.s 5],[.v (.slice (.str)) [],.v (.int .i64) []]⟩ (.sq .lf (.lp ⟨[15,16],[],[.s 3,.s 4,.s 5,.s 17],[.v (.slice (.str)) [],.v (.slice (.str)) [],.v (.int .i64) [],.v (.int .i64) []]⟩ .lf)) .lf))))
theorem aTR(N:Nat):aN E [⟨104,J0,J1,q92 N⟩,⟨105,J2,J3,q93 N⟩] N Tryz.f62 aTQ J4 J5=q94 N:=by kernel_rfl
def aTS:Ann:=(.sq .lf (.jn ⟨[],[1],[],[]⟩ (.sq .lf (.lp ⟨[1,11,12],[1],[.s 13],[.v (.int .i64) []]⟩ .lf)) .lf))
theorem aTT(N:Nat):aN E [] N Tryz.f106 aTS uC uD=q95 N:=by kernel_rfl
theorem aTU(N:Nat):aN E [] N Tryz.f167 .lf J6 J7=q96 N:=by kernel_rfl
def aTV:Ann:=(.sq .lf (.jn ⟨[],[],[],[]⟩ (.sq .lf (.lp ⟨[0,6,7],[],[.s 8],[.v (.int .i64) []]⟩ .lf)) .lf))
theorem aTW(N:Nat):aN E [⟨167,J6,J7,q96 N⟩,⟨34,LJ,LK,q49 N⟩] N Tryz.f107 aTV J8 J9=q97 N:=by kernel_rfl
theorem aTX(N:Nat):aN E [] N Tryz.f108 .lf uE uF=q98 N:=by kernel_rfl
def aTY:Ann:=(.sq .lf (.jn ⟨[0,1],[],[.o 1],[.b 160 (.st (.pair Y2 (.int .i64))) []]⟩ (.sq .lf (.lp ⟨[0,1,11,12],[],[.s 13,.o 1],[.v (.int .i64) [],.b 160 (.st (.pair Y2 (.int .i64))) []]⟩ .lf)) .lf))
theorem aTZ(N:Nat):aN E [⟨108,uE,uF,q98 N⟩,⟨106,uC,uD,q95 N⟩] N Tryz.f109 aTY K5 K6=q99 N:=by kernel_rfl
theorem aM5(N:Nat):aN E [⟨231,LT,LU,q74 N⟩] N Tryz.f281 .lf MB MC=aEU N:=by kernel_rfl
theorem aM6(N:Nat):aN E [⟨281,MB,MC,aEU N⟩] N Tryz.f255 .lf MD ME=K7 N:=by kernel_rfl
def aM7:Ann:=(.sq .lf (.sq .lf (.jn ⟨[0,1,2,8],[],[],[]⟩ .lf (.jn ⟨[0,1,2],[],[],[]⟩ (.sq .lf (.lp ⟨[0,1,2,8,34],[],[.s 35],[.v (.int .i64) []]⟩ .lf)) .lf))))
theorem aM8(N:Nat):aN E [⟨255,MD,ME,K7 N⟩,⟨256,gR,gS,cW N⟩] N Tryz.f222 aM7 MF MG=K8 N:=by kernel_rfl
theorem aM9(N:Nat):aN E [⟨222,MF,MG,K8 N⟩,⟨108,uE,uF,q98 N⟩] N Tryz.f168 .lf AY AZ=SH N:=by kernel_rfl
theorem aNA(N:Nat):aN E [⟨106,uC,uD,q95 N⟩,⟨168,AY,AZ,SH N⟩] N Tryz.f110 .lf BA BB=MH N:=by kernel_rfl
theorem aNB(N:Nat):aN E [⟨110,BA,BB,MH N⟩] N Tryz.f111 .lf MI MJ=MK N:=by kernel_rfl
def aNC:Ann:=(.sq .lf (.sq .lf (.jn ⟨[0],[1],[],[]⟩ (.sq .lf (.lp ⟨[0,7,13,14],[1],[.s 15],[.v (.int .i64) []]⟩ .lf)) .lf)))
theorem aND(N:Nat):aN E [⟨106,uC,uD,q95 N⟩,⟨108,uE,uF,q98 N⟩] N Tryz.f112 aNC BC BD=EG N:=by kernel_rfl
theorem aNE(N:Nat):aN E [] N Tryz.f257 .lf ML MM=aEV N:=by kernel_rfl
theorem aNF(N:Nat):aN E [⟨257,ML,MM,aEV N⟩] N Tryz.f223 .lf MN MO=aEW N:=by kernel_rfl
theorem aNG(N:Nat):aN E [⟨223,MN,MO,aEW N⟩] N Tryz.f169 .lf MP MQ=aBM N:=by kernel_rfl
theorem aNH(N:Nat):aN E [⟨106,uC,uD,q95 N⟩,⟨169,MP,MQ,aBM N⟩,⟨108,uE,uF,q98 N⟩,⟨168,AY,AZ,SH N⟩] N Tryz.f113 .lf MR MS=K9 N:=by kernel_rfl
def aNI:Ann:=(.sq .lf (.jn ⟨[],[],[],[]⟩ (.sq .lf (.lp ⟨[0,6,7],[4],[.s 8],[.v (.int .i64) []]⟩ .lf)) .lf))
theorem aNJ(N:Nat):aN E [⟨85,KZ,LA,q26 N⟩] N Tryz.f114 aNI MT MU=aBN N:=by kernel_rfl
def aNK:Ann:=(.sq .lf (.jn ⟨[],[1],[],[]⟩ (.sq .lf (.lp ⟨[0,9,10],[1],[.s 11],[.v (.int .i64) []]⟩ .lf)) .lf))
theorem aNL(N:Nat):aN E [⟨112,BC,BD,EG N⟩] N Tryz.f115 aNK MV MW=aBO N:=by kernel_rfl
def L9:Ann:=(.sq .lf (.sq .lf (.sq .lf (.jn ⟨[5],[],[.o 6,.o 13],[.d 27 Y1,.b 160 (.st (.pair Y2 (.int .i64))) []]⟩ (.sq .lf (.sq .lf (.sq .lf (.sq .lf (.sq .lf (.sq .lf (.sq (.sq .lf (.sq .lf (.sq .lf (.sq .lf (.sq .lf (.jn ⟨[0,5,10,11],[6,1,2,5,3,4,34],[.o 13],[.b 160 (.st (.pair Y2 (.int .i64))) []]⟩ .lf (.sq .lf (.cl [3,2])))))))) (.sq .lf (.sq (.cl [3]) .lf))))))))) .lf))))
theorem M0(N:Nat):aN (E.wop ops) [⟨106,uC,uD,q95 N⟩,⟨107,J8,J9,q97 N⟩,⟨108,uE,uF,q98 N⟩,⟨109,K5,K6,q99 N⟩,⟨110,BA,BB,MH N⟩,⟨111,MI,MJ,MK N⟩,⟨112,BC,BD,EG N⟩,⟨113,MR,MS,K9 N⟩,⟨114,MT,MU,aBN N⟩,⟨115,MV,MW,aBO N⟩] N Tryz.f63 L9 rC rD=mI N:=by kernel_rfl
def aNM:Ann:=(.sq .lf (.sq .lf (.sq .lf (.sq .lf (.jn ⟨[2,6],[2],[.o 11],[.d 27 Y1]⟩ (.sq .lf (.lp ⟨[2,6,19,20],[2],[.s 7,.s 21,.o 11],[.v (.slice (.str)) [0],.v (.int .i64) [],.d 27 Y1]⟩ (.sq .lf (.sq .lf (.sq (.sq .lf (.sq .lf (.sq .lf (.jn ⟨[2,6,7,8,9,19,20,21],[28,17,11,18,19,22,20,21,2],[.s 10],[.v (.str) []]⟩ .lf .lf)))) .lf))))) (.sq (.sq (.cl [16,15]) .lf) .lf))))))
theorem aNN(N:Nat):aN (E.wop ops) [⟨60,LP,LQ,q61 N⟩,⟨61,I8,I9,q91 N⟩,⟨62,J4,J5,q94 N⟩,⟨63,rC,rD,mI N⟩,⟨30,EA,EB,q48 N⟩] N Tryz.f22 aNM MX MY=aBP N:=by kernel_rfl
theorem aNO(N:Nat):aN E [⟨72,I6,I7,q90 N⟩,⟨22,MX,MY,aBP N⟩] N Tryz.f27 .lf MZ NA=NB N:=by kernel_rfl
theorem aNP(N:Nat):aN E [] N Tryz.f53 .lf NC ND=aBQ N:=by kernel_rfl
def aNQ:Ann:=(.sq .lf (.sq .lf (.jn ⟨[],[],[],[]⟩ (.sq .lf (.lp ⟨[0,1,12],[],[.s 13],[.v (.int .i64) []]⟩ .lf)) .lf)))
theorem aNR(N:Nat):aN E [] N Tryz.f54 aNQ NE NF=aBR N:=by kernel_rfl
def aNS:Ann:=(.sq .lf (.sq .lf (.jn ⟨[],[],[],[]⟩ (.sq .lf (.lp ⟨[0,1,12],[],[.s 13],[.v (.int .i64) []]⟩ .lf)) .lf)))
theorem aNT(N:Nat):aN E [] N Tryz.f217 aNS NG NH=aBS N:=by kernel_rfl
theorem aNU(N:Nat):aN E [⟨217,NG,NH,aBS N⟩] N Tryz.f163 .lf BE BF=SI N:=by kernel_rfl
def aNV:Ann:=(.sq .lf (.sq .lf (.jn ⟨[],[],[],[]⟩ (.sq .lf (.lp ⟨[1,2,15,16],[],[.s 17],[.v (.int .i64) []]⟩ .lf)) .lf)))
theorem aNW(N:Nat):aN E [⟨163,BE,BF,SI N⟩] N Tryz.f162 aNV NI NJ=aEX N:=by kernel_rfl
theorem aNX(N:Nat):aN E [⟨162,NI,NJ,aEX N⟩,⟨163,BE,BF,SI N⟩] N Tryz.f95 .lf NK NL=aBT N:=by kernel_rfl
theorem aNY(N:Nat):aN E [⟨95,NK,NL,aBT N⟩] N Tryz.f56 .lf BG BH=L0 N:=by kernel_rfl
def aNZ:Ann:=(.sq .lf (.sq .lf (.jn ⟨[],[],[],[]⟩ (.sq .lf (.lp ⟨[1,2,15,16],[],[.s 17],[.v (.int .i64) []]⟩ .lf)) .lf)))
theorem aN0(N:Nat):aN E [⟨56,BG,BH,L0 N⟩] N Tryz.f55 aNZ NM NN=aBU N:=by kernel_rfl
def aN1:Ann:=(.sq .lf (.sq .lf (.jn ⟨[],[],[],[]⟩ (.sq .lf (.lp ⟨[0,1,12],[],[.s 13],[.v (.int .i64) []]⟩ .lf)) .lf)))
theorem aN2(N:Nat):aN E [] N Tryz.f57 aN1 NO NP=aEY N:=by kernel_rfl
theorem aN3(N:Nat):aN E [⟨53,NC,ND,aBQ N⟩,⟨54,NE,NF,aBR N⟩,⟨55,NM,NN,aBU N⟩,⟨56,BG,BH,L0 N⟩,⟨57,NO,NP,aEY N⟩] N Tryz.f18 .lf NQ NR=NS N:=by kernel_rfl
theorem AL(N:Nat):aN E [⟨10,pB,pC,nZ N⟩,⟨26,pD,pE,lP N⟩,⟨27,MZ,NA,NB N⟩,⟨18,NQ,NR,NS N⟩,⟨14,LR,LS,q66 N⟩,⟨30,EA,EB,q48 N⟩] N Tryz.f7 .lf oA oB=hJ N:=by kernel_rfl
theorem uH(N:Nat):aH E ⟨193,gP,gQ,utf8_ValidString N⟩:=sY N
theorem aT0(N:Nat):aH E ⟨243,YQ,YR,q11 N⟩:=aO aL (aQC N) trivial Tryz.func243 (by kernel_rfl)
theorem aLA(N:Nat):aH E ⟨194,KT,KU,q12 N⟩:=aO aL (aQD N) ⟨aT0 N,trivial⟩ Tryz.func194 (by kernel_rfl)
theorem EI(N:Nat):aH E ⟨134,oZ,pA,q13 N⟩:=aO aL (aQF N) ⟨uH N,aLA N,trivial⟩ Tryz.func134 (by kernel_rfl)
theorem U6(N:Nat):aH E ⟨135,yI,yJ,q14 N⟩:=aO aL (aQH N) trivial Tryz.func135 (by kernel_rfl)
theorem aE4(N:Nat):aH E ⟨83,DW,DX,q15 N⟩:=aO aL (aQI N) trivial Tryz.func83 (by kernel_rfl)
theorem aT1(N:Nat):aH E ⟨195,YS,YT,q16 N⟩:=aO aL (aQJ N) ⟨aE4 N,trivial⟩ Tryz.func195 (by kernel_rfl)
theorem aT2(N:Nat):aH E ⟨196,YU,YV,q17 N⟩:=aO aL (aQK N) ⟨aE4 N,trivial⟩ Tryz.func196 (by kernel_rfl)
theorem aT3(N:Nat):aH E ⟨136,YW,YX,q18 N⟩:=aO aL (aQL N) ⟨aT1 N,aT2 N,trivial⟩ Tryz.func136 (by kernel_rfl)
theorem aT4(N:Nat):aH E ⟨74,YY,YZ,q19 N⟩:=aO aL (aQN N) ⟨EI N,U6 N,aT3 N,trivial⟩ Tryz.func74 (by kernel_rfl)
theorem aT5(N:Nat):aH E ⟨197,ZA,ZB,q20 N⟩:=aO aL (aQO N) trivial Tryz.func197 (by kernel_rfl)
theorem aLB(N:Nat):aH E ⟨137,KV,KW,q21 N⟩:=aO aL (aQP N) ⟨U6 N,aT5 N,trivial⟩ Tryz.func137 (by kernel_rfl)
theorem aT6(N:Nat):aH E ⟨75,ZC,ZD,q22 N⟩:=aO aL (aQR N) ⟨aLB N,trivial⟩ Tryz.func75 (by kernel_rfl)
theorem aLC(N:Nat):aH E ⟨198,KX,KY,q23 N⟩:=aO aL (aQS N) trivial Tryz.func198 (by kernel_rfl)
theorem aT7(N:Nat):aH E ⟨138,ZE,ZF,q24 N⟩:=aO aL (aQU N) ⟨aLC N,trivial⟩ Tryz.func138 (by kernel_rfl)
theorem aT8(N:Nat):aH E ⟨139,ZG,ZH,q25 N⟩:=aO aL (aQV N) trivial Tryz.func139 (by kernel_rfl)
theorem aLD(N:Nat):aH E ⟨85,KZ,LA,q26 N⟩:=aO aL (aQW N) trivial Tryz.func85 (by kernel_rfl)
theorem aLE(N:Nat):aH E ⟨38,LB,LC,q27 N⟩:=aO aL (aQX N) ⟨aLD N,trivial⟩ Tryz.func38 (by kernel_rfl)
theorem aT9(N:Nat):aH E ⟨244,ZI,ZJ,q28 N⟩:=aO aL (aQY N) trivial Tryz.func244 (by kernel_rfl)
theorem aUA(N:Nat):aH E ⟨245,ZK,ZL,q29 N⟩:=aO aL (aQZ N) trivial Tryz.func245 (by kernel_rfl)
theorem aUB(N:Nat):aH E ⟨199,ZM,ZN,q30 N⟩:=aO aL (aQ1 N) ⟨EI N,aT9 N,aUA N,trivial⟩ Tryz.func199 (by kernel_rfl)
theorem fR(N:Nat):aH E ⟨146,cF,cG,bJ N⟩:=kR N
theorem aE5(N:Nat):aH E ⟨79,DY,DZ,q31 N⟩:=aO aL (aQ2 N) ⟨fR N,trivial⟩ Tryz.func79 (by kernel_rfl)
theorem aUC(N:Nat):aH E ⟨200,ZO,ZP,q32 N⟩:=aO aL (aQ4 N) ⟨aE5 N,trivial⟩ Tryz.func200 (by kernel_rfl)
theorem mK(N:Nat):aH E ⟨201,eH,eI,strings_Contains N⟩:=sZ N
theorem aLF(N:Nat):aH E ⟨226,LD,LE,q33 N⟩:=aO aL (aQ6 N) trivial Tryz.func226 (by kernel_rfl)
theorem aUD(N:Nat):aH E ⟨246,ZQ,ZR,q34 N⟩:=aO aL (aQ7 N) ⟨EI N,aLF N,trivial⟩ Tryz.func246 (by kernel_rfl)
theorem aLG(N:Nat):aH E ⟨202,LF,LG,q35 N⟩:=aO aL (aQ9 N) ⟨aUD N,trivial⟩ Tryz.func202 (by kernel_rfl)
theorem aUE(N:Nat):aH E ⟨140,ZS,ZT,q36 N⟩:=aO aL (aRA N) ⟨aUB N,aUC N,mK N,aLG N,trivial⟩ Tryz.func140 (by kernel_rfl)
theorem aLH(N:Nat):aH E ⟨142,LH,LI,q37 N⟩:=aO aL (aRC N) ⟨aLG N,trivial⟩ Tryz.func142 (by kernel_rfl)
theorem aUF(N:Nat):aH E ⟨203,ZU,ZV,q38 N⟩:=aO aL (aRD N) ⟨aLC N,aLB N,trivial⟩ Tryz.func203 (by kernel_rfl)
theorem aUG(N:Nat):aH E ⟨141,ZW,ZX,q39 N⟩:=aO aL (aRF N) ⟨aUF N,trivial⟩ Tryz.func141 (by kernel_rfl)
theorem aUH(N:Nat):aH E ⟨76,ZY,ZZ,q40 N⟩:=aO aL (aRH N) ⟨aT7 N,aT8 N,aLE N,U6 N,aUE N,aLH N,aUG N,trivial⟩ Tryz.func76 (by kernel_rfl)
theorem aUI(N:Nat):aH E ⟨204,A0,A2,q41 N⟩:=aO aL (aRI N) trivial Tryz.func204 (by kernel_rfl)
theorem aUJ(N:Nat):aH E ⟨144,A3,A4,q42 N⟩:=aO aL (aRJ N) ⟨aUI N,trivial⟩ Tryz.func144 (by kernel_rfl)
theorem aUK(N:Nat):aH E ⟨143,A5,A6,q43 N⟩:=aO aL (aRL N) trivial Tryz.func143 (by kernel_rfl)
theorem aUL(N:Nat):aH E ⟨77,A7,A8,q44 N⟩:=aO aL (aRM N) ⟨aUJ N,aUK N,trivial⟩ Tryz.func77 (by kernel_rfl)
theorem aUM(N:Nat):aH E ⟨205,A9,B0,q45 N⟩:=aO aL (aRO N) ⟨aLH N,trivial⟩ Tryz.func205 (by kernel_rfl)
theorem aUN(N:Nat):aH E ⟨145,B1,B2,q46 N⟩:=aO aL (aRP N) ⟨aUM N,trivial⟩ Tryz.func145 (by kernel_rfl)
theorem aUO(N:Nat):aH E ⟨78,B3,B4,q47 N⟩:=aO aL (aRR N) ⟨aUN N,U6 N,EI N,trivial⟩ Tryz.func78 (by kernel_rfl)
theorem aE6(N:Nat):aH E ⟨30,EA,EB,q48 N⟩:=aO aL (aRT N) ⟨aT4 N,aT6 N,aUH N,aUL N,aUO N,trivial⟩ Tryz.func30 (by kernel_rfl)
theorem aLI(N:Nat):aH E ⟨34,LJ,LK,q49 N⟩:=aO aL (aRU N) ⟨aE4 N,trivial⟩ Tryz.func34 (by kernel_rfl)
theorem aUP(N:Nat):aH E ⟨35,B5,B6,q50 N⟩:=aO aL (aRV N) trivial Tryz.func35 (by kernel_rfl)
theorem rE(N:Nat):aH E ⟨148,fJ,fK,cV N⟩:=pV N
theorem aUQ(N:Nat):aH E ⟨84,B7,B8,q51 N⟩:=aO aL (aRW N) ⟨rE N,trivial⟩ Tryz.func84 (by kernel_rfl)
theorem aLJ(N:Nat):aH E ⟨37,LL,LM,q52 N⟩:=aO aL (aRX N) ⟨aUQ N,trivial⟩ Tryz.func37 (by kernel_rfl)
theorem aUR(N:Nat):aH E ⟨36,B9,C0,q53 N⟩:=aO aL (aRY N) ⟨aLJ N,trivial⟩ Tryz.func36 (by kernel_rfl)
theorem aUS(N:Nat):aH E ⟨33,C1,C2,q54 N⟩:=aO aL (aR0 N) trivial Tryz.func33 (by kernel_rfl)
theorem aUT(N:Nat):aH E ⟨12,C3,C4,q55 N⟩:=aO aL (aR2 N) ⟨aE6 N,aLI N,aUP N,aUR N,aUS N,aLJ N,aLE N,trivial⟩ Tryz.func12 (by kernel_rfl)
theorem aUU(N:Nat):aH E ⟨101,C5,C6,q56 N⟩:=aO aL (aR4 N) trivial Tryz.func101 (by kernel_rfl)
theorem aE7(N:Nat):aH E ⟨220,EC,ED,q57 N⟩:=aO aL (aR5 N) trivial Tryz.func220 (by kernel_rfl)
theorem aLK(N:Nat):aH E ⟨221,LN,LO,q58 N⟩:=aO aL (aR6 N) ⟨aE7 N,trivial⟩ Tryz.func221 (by kernel_rfl)
theorem uI(N:Nat):aH E ⟨166,kD,kE,dZ N⟩:=aO aL (L4 N) ⟨aE7 N,aLK N,trivial⟩ Tryz.func166 (by kernel_rfl)
theorem aUV(N:Nat):aH E ⟨102,C7,C8,q59 N⟩:=aO aL (aR8 N) ⟨uI N,EI N,trivial⟩ Tryz.func102 (by kernel_rfl)
theorem aUW(N:Nat):aH E ⟨103,C9,D0,q60 N⟩:=aO aL (aSA N) ⟨EI N,trivial⟩ Tryz.func103 (by kernel_rfl)
theorem aLL(N:Nat):aH E ⟨60,LP,LQ,q61 N⟩:=aO aL (aSC N) ⟨aUU N,aUV N,aUW N,trivial⟩ Tryz.func60 (by kernel_rfl)
theorem wA(N:Nat):aH E ⟨207,iG,iH,strings_Replace N⟩:=uG N
theorem aUX(N:Nat):aH E ⟨147,D8,D9,q62 N⟩:=aO aL (aSD N) ⟨wA N,trivial⟩ Tryz.func147 (by kernel_rfl)
theorem aUY(N:Nat):aH E ⟨80,E0,E1,q63 N⟩:=aO aL (aSF N) ⟨aUX N,trivial⟩ Tryz.func80 (by kernel_rfl)
theorem aUZ(N:Nat):aH E ⟨81,E2,E3,q64 N⟩:=aO aL (aSG N) trivial Tryz.func81 (by kernel_rfl)
theorem aU0(N:Nat):aH E ⟨31,E4,E5,q65 N⟩:=aO aL (aSI N) ⟨aLL N,aE5 N,aUY N,aUZ N,trivial⟩ Tryz.func31 (by kernel_rfl)
theorem aLM(N:Nat):aH E ⟨14,LR,LS,q66 N⟩:=aO aL (aSJ N) ⟨aUT N,aU0 N,trivial⟩ Tryz.func14 (by kernel_rfl)
theorem SP(N:Nat):aH E ⟨10,pB,pC,nZ N⟩:=aO aL (SN N) ⟨aLM N,trivial⟩ Tryz.func10 (by kernel_rfl)
theorem SQ(N:Nat):aH E ⟨26,pD,pE,lP N⟩:=aO aL (SO N) trivial Tryz.func26 (by kernel_rfl)
theorem pW(N:Nat):aH E ⟨227,eV,eW,eJ N⟩:=pF N
theorem pR(N:Nat):aH E ⟨180,gG,gH,strings_Index N⟩:=yM N
theorem aU1(N:Nat):aH E ⟨176,E6,E7,q67 N⟩:=aO aL (aSL N) ⟨aLF N,pW N,pR N,trivial⟩ Tryz.func176 (by kernel_rfl)
theorem aU2(N:Nat):aH E ⟨228,E8,E9,q68 N⟩:=aO aL (aSN N) trivial Tryz.func228 (by kernel_rfl)
theorem aU3(N:Nat):aH E ⟨260,F0,F1,q69 N⟩:=aO aL (aSP N) trivial Tryz.func260 (by kernel_rfl)
theorem aU4(N:Nat):aH E ⟨229,F2,F3,q70 N⟩:=aO aL (aSR N) ⟨aU3 N,trivial⟩ Tryz.func229 (by kernel_rfl)
theorem aU5(N:Nat):aH E ⟨177,F4,F5,q71 N⟩:=aO aL (aSS N) ⟨aU2 N,aU4 N,trivial⟩ Tryz.func177 (by kernel_rfl)
theorem aE8(N:Nat):aH E ⟨128,yK,yL,kO N⟩:=aO aL (aE3 N) ⟨aU1 N,aU5 N,trivial⟩ Tryz.func128 (by kernel_rfl)
theorem mT(N:Nat):aH E ⟨261,dQ,dR,dD N⟩:=mJ N
theorem aU6(N:Nat):aH E ⟨230,F6,F7,q72 N⟩:=aO aL (aST N) ⟨mT N,trivial⟩ Tryz.func230 (by kernel_rfl)
theorem aU7(N:Nat):aH E ⟨178,F8,F9,q73 N⟩:=aO aL (aSU N) ⟨aU6 N,trivial⟩ Tryz.func178 (by kernel_rfl)
theorem aLN(N:Nat):aH E ⟨231,LT,LU,q74 N⟩:=aO aL (aSV N) trivial Tryz.func231 (by kernel_rfl)
theorem aLO(N:Nat):aH E ⟨179,LV,LW,q75 N⟩:=aO aL (aSW N) ⟨aLN N,trivial⟩ Tryz.func179 (by kernel_rfl)
theorem uJ(N:Nat):aH E ⟨181,kF,kG,eN N⟩:=aO aL (L6 N) ⟨aE7 N,aLK N,trivial⟩ Tryz.func181 (by kernel_rfl)
theorem aU8(N:Nat):aH E ⟨233,G0,G1,q76 N⟩:=aO aL (aSX N) trivial Tryz.func233 (by kernel_rfl)
theorem aE9(N:Nat):aH E ⟨182,EE,EF,q77 N⟩:=aO aL (aSZ N) ⟨aU8 N,trivial⟩ Tryz.func182 (by kernel_rfl)
theorem aU9(N:Nat):aH E ⟨234,G2,G3,q78 N⟩:=aO aL (aS1 N) ⟨uJ N,aE9 N,trivial⟩ Tryz.func234 (by kernel_rfl)
theorem aVA(N:Nat):aH E ⟨183,G4,G5,q79 N⟩:=aO aL (aS3 N) ⟨uJ N,aE9 N,aU9 N,trivial⟩ Tryz.func183 (by kernel_rfl)
theorem M1(N:Nat):aH E ⟨129,qX,qY,eP N⟩:=aO aL (L8 N) ⟨aU7 N,aLO N,pR N,uJ N,aE9 N,aVA N,trivial⟩ Tryz.func129 (by kernel_rfl)
theorem EJ(N:Nat):aH E ⟨235,kP,kQ,gI N⟩:=AK N
theorem M2(N:Nat):aH E ⟨273,qZ,rA,rB N⟩:=SM N
theorem aVB(N:Nat):aH E ⟨301,G6,G7,q80 N⟩:=aO aL (aS5 N) trivial Tryz.func301 (by kernel_rfl)
theorem aVC(N:Nat):aH E ⟨288,G8,G9,q81 N⟩:=aO aL (aS7 N) ⟨aLO N,aVB N,aLA N,trivial⟩ Tryz.func288 (by kernel_rfl)
theorem aVD(N:Nat):aH E ⟨289,H2,H5,q82 N⟩:=aO aL (aS8 N) ⟨fR N,trivial⟩ Tryz.func289 (by kernel_rfl)
theorem aVE(N:Nat):aH E ⟨272,H6,H7,q83 N⟩:=aO aL (aTA N) ⟨aVC N,aE5 N,aVD N,trivial⟩ Tryz.func272 (by kernel_rfl)
theorem aLP(N:Nat):aH E ⟨236,LX,LY,q84 N⟩:=aO aL (aTB N) ⟨M2 N,aVE N,EI N,trivial⟩ Tryz.func236 (by kernel_rfl)
theorem aLQ(N:Nat):aH E ⟨237,LZ,MA,q85 N⟩:=aO aL (aTD N) trivial Tryz.func237 (by kernel_rfl)
theorem aVF(N:Nat):aH E ⟨184,H8,H9,q86 N⟩:=aO aL (aTF N) ⟨EJ N,mK N,aLP N,aLQ N,trivial⟩ Tryz.func184 (by kernel_rfl)
theorem aVG(N:Nat):aH E ⟨185,I0,I1,q87 N⟩:=aO aL (aTG N) ⟨uI N,trivial⟩ Tryz.func185 (by kernel_rfl)
theorem aVH(N:Nat):aH E ⟨186,I2,I3,q88 N⟩:=aO aL (aTI N) ⟨uI N,aLP N,aLQ N,trivial⟩ Tryz.func186 (by kernel_rfl)
theorem aVI(N:Nat):aH E ⟨130,I4,I5,q89 N⟩:=aO aL (aTJ N) ⟨aVF N,aVG N,aVH N,trivial⟩ Tryz.func130 (by kernel_rfl)
theorem aVJ(N:Nat):aH E ⟨72,I6,I7,q90 N⟩:=aO aL (aTL N) ⟨aE8 N,M1 N,aVI N,trivial⟩ Tryz.func72 (by kernel_rfl)
theorem aVK(N:Nat):aH E ⟨61,I8,I9,q91 N⟩:=aO aL (aTM N) trivial Tryz.func61 (by kernel_rfl)
theorem aVL(N:Nat):aH E ⟨104,J0,J1,q92 N⟩:=aO aL (aTN N) trivial Tryz.func104 (by kernel_rfl)
theorem aVM(N:Nat):aH E ⟨105,J2,J3,q93 N⟩:=aO aL (aTP N) trivial Tryz.func105 (by kernel_rfl)
theorem aVN(N:Nat):aH E ⟨62,J4,J5,q94 N⟩:=aO aL (aTR N) ⟨aVL N,aVM N,trivial⟩ Tryz.func62 (by kernel_rfl)
theorem SR(N:Nat):aH E ⟨106,uC,uD,q95 N⟩:=aO aL (aTT N) trivial Tryz.func106 (by kernel_rfl)
theorem aVO(N:Nat):aH E ⟨167,J6,J7,q96 N⟩:=aO aL (aTU N) trivial Tryz.func167 (by kernel_rfl)
theorem aVP(N:Nat):aH E ⟨107,J8,J9,q97 N⟩:=aO aL (aTW N) ⟨aVO N,aLI N,trivial⟩ Tryz.func107 (by kernel_rfl)
theorem SS(N:Nat):aH E ⟨108,uE,uF,q98 N⟩:=aO aL (aTX N) trivial Tryz.func108 (by kernel_rfl)
theorem aVQ(N:Nat):aH E ⟨109,K5,K6,q99 N⟩:=aO aL (aTZ N) ⟨SS N,SR N,trivial⟩ Tryz.func109 (by kernel_rfl)
theorem aN4(N:Nat):aH E ⟨281,MB,MC,aEU N⟩:=aO aL (aM5 N) ⟨aLN N,trivial⟩ Tryz.func281 (by kernel_rfl)
theorem aN5(N:Nat):aH E ⟨255,MD,ME,K7 N⟩:=aO aL (aM6 N) ⟨aN4 N,trivial⟩ Tryz.func255 (by kernel_rfl)
theorem uK(N:Nat):aH E ⟨256,gR,gS,cW N⟩:=tA N
theorem aN6(N:Nat):aH E ⟨222,MF,MG,K8 N⟩:=aO aL (aM8 N) ⟨aN5 N,uK N,trivial⟩ Tryz.func222 (by kernel_rfl)
theorem aFA(N:Nat):aH E ⟨168,AY,AZ,SH N⟩:=aO aL (aM9 N) ⟨aN6 N,SS N,trivial⟩ Tryz.func168 (by kernel_rfl)
theorem aFB(N:Nat):aH E ⟨110,BA,BB,MH N⟩:=aO aL (aNA N) ⟨SR N,aFA N,trivial⟩ Tryz.func110 (by kernel_rfl)
theorem aN7(N:Nat):aH E ⟨111,MI,MJ,MK N⟩:=aO aL (aNB N) ⟨aFB N,trivial⟩ Tryz.func111 (by kernel_rfl)
theorem aFC(N:Nat):aH E ⟨112,BC,BD,EG N⟩:=aO aL (aND N) ⟨SR N,SS N,trivial⟩ Tryz.func112 (by kernel_rfl)
theorem aN8(N:Nat):aH E ⟨257,ML,MM,aEV N⟩:=aO aL (aNE N) trivial Tryz.func257 (by kernel_rfl)
theorem aN9(N:Nat):aH E ⟨223,MN,MO,aEW N⟩:=aO aL (aNF N) ⟨aN8 N,trivial⟩ Tryz.func223 (by kernel_rfl)
theorem aOA(N:Nat):aH E ⟨169,MP,MQ,aBM N⟩:=aO aL (aNG N) ⟨aN9 N,trivial⟩ Tryz.func169 (by kernel_rfl)
theorem aOB(N:Nat):aH E ⟨113,MR,MS,K9 N⟩:=aO aL (aNH N) ⟨SR N,aOA N,SS N,aFA N,trivial⟩ Tryz.func113 (by kernel_rfl)
theorem aOC(N:Nat):aH E ⟨114,MT,MU,aBN N⟩:=aO aL (aNJ N) ⟨aLD N,trivial⟩ Tryz.func114 (by kernel_rfl)
theorem aOD(N:Nat):aH E ⟨115,MV,MW,aBO N⟩:=aO aL (aNL N) ⟨aFC N,trivial⟩ Tryz.func115 (by kernel_rfl)
theorem M3(N:Nat):aH E ⟨63,rC,rD,mI N⟩:=aEE aL aE2 (M0 N) ⟨SR N,aVP N,SS N,aVQ N,aFB N,aN7 N,aFC N,aOB N,aOC N,aOD N,trivial⟩ Tryz.func63 (by kernel_rfl)
theorem aOE(N:Nat):aH E ⟨22,MX,MY,aBP N⟩:=aEE aL aE2 (aNN N) ⟨aLL N,aVK N,aVN N,M3 N,aE6 N,trivial⟩ Tryz.func22 (by kernel_rfl)
theorem aOF(N:Nat):aH E ⟨27,MZ,NA,NB N⟩:=aO aL (aNO N) ⟨aVJ N,aOE N,trivial⟩ Tryz.func27 (by kernel_rfl)
theorem aOG(N:Nat):aH E ⟨53,NC,ND,aBQ N⟩:=aO aL (aNP N) trivial Tryz.func53 (by kernel_rfl)
theorem aOH(N:Nat):aH E ⟨54,NE,NF,aBR N⟩:=aO aL (aNR N) trivial Tryz.func54 (by kernel_rfl)
theorem aOI(N:Nat):aH E ⟨217,NG,NH,aBS N⟩:=aO aL (aNT N) trivial Tryz.func217 (by kernel_rfl)
theorem aFD(N:Nat):aH E ⟨163,BE,BF,SI N⟩:=aO aL (aNU N) ⟨aOI N,trivial⟩ Tryz.func163 (by kernel_rfl)
theorem aOJ(N:Nat):aH E ⟨162,NI,NJ,aEX N⟩:=aO aL (aNW N) ⟨aFD N,trivial⟩ Tryz.func162 (by kernel_rfl)
theorem aOK(N:Nat):aH E ⟨95,NK,NL,aBT N⟩:=aO aL (aNX N) ⟨aOJ N,aFD N,trivial⟩ Tryz.func95 (by kernel_rfl)
theorem aFE(N:Nat):aH E ⟨56,BG,BH,L0 N⟩:=aO aL (aNY N) ⟨aOK N,trivial⟩ Tryz.func56 (by kernel_rfl)
theorem aOL(N:Nat):aH E ⟨55,NM,NN,aBU N⟩:=aO aL (aN0 N) ⟨aFE N,trivial⟩ Tryz.func55 (by kernel_rfl)
theorem aOM(N:Nat):aH E ⟨57,NO,NP,aEY N⟩:=aO aL (aN2 N) trivial Tryz.func57 (by kernel_rfl)
theorem aON(N:Nat):aH E ⟨18,NQ,NR,NS N⟩:=aO aL (aN3 N) ⟨aOG N,aOH N,aOL N,aFE N,aOM N,trivial⟩ Tryz.func18 (by kernel_rfl)
theorem AM(N:Nat):aH E ⟨7,oA,oB,hJ N⟩:=aO aL (AL N) ⟨SP N,SQ N,aOF N,aON N,aLM N,aE6 N,trivial⟩ Tryz.func7 (by kernel_rfl)
end
end Go.Mo
end

section
namespace Go.Mo
open Go Go.Lib
set_option maxRecDepth 100000
theorem aOO(c:UInt8):∀ {p q:Y_},c ∉ p→Lib.index (p++c::q) [c]=(p.length:Int):=by
 intro p q h;rw[Lib.index_one]
 induction p with
 |nil=>simp[Lib.indexByte]
 |cons b p ih =>
  have hb:b≠c:=fun e=>h (by rw[e]; exact aYE)
  have hp:=ih fun k=>h (aXV _ k)
  rw[aYT];unfold Lib.indexByte;rw[if_neg (by simpa using hb),if_neg (by rw[hp]; simp),hp,aYR];omega
theorem aVR(c:UInt8):∀ {p:Y_},c ∉ p→Lib.index p [c]=-1:=by
 intro p h;rw[Lib.index_one]
 induction p with
 |nil=>rfl
 |cons b p ih =>
  have hb:b≠c:=fun e=>h (by rw[e]; exact aYE)
  have hp:=ih fun k=>h (aXV _ k)
  unfold Lib.indexByte;rw[if_neg (by simpa using hb),if_pos (by rw[hp]; rfl)]
theorem aFF(c:UInt8) (p q:Y_):(p++c::q).drop (p.length+([c]:Y_).length)=q:=by
 rw[show p++c::q=(p++[c])++q by simp];exact List.drop_left' (by simp)
theorem aLR(c:UInt8):∀s:Y_,c ∉ s∨∃p q,s=p++c::q∧c ∉ p
 | []=>.inl (by simp)
 |b::s=>by
  by_cases hb:b=c
  ·exact .inr ⟨[],s,by rw[hb]; rfl,by simp⟩
  ·rcases aLR c s with h|⟨p,q,h1,h2⟩
   ·exact .inl (by simp only[aZL,not_or]; exact⟨fun e=>hb e.symm,h⟩)
   ·exact .inr ⟨b::p,q,by rw[h1]; rfl,by simp only[aZL,not_or]; exact⟨fun e=>hb e.symm,h2⟩⟩
def oC(c:UInt8) (r:Y_) (b:UInt8):Y_:=if b=c then r else [b]
theorem NU{c:UInt8}{r:Y_}:∀ {p:Y_},c ∉ p→p.flatMap (oC c r)=p
 | [],_=>rfl
 |b::p,h=>by
  have hb:b≠c:=fun e=>h (by rw[e]; exact aYE)
  rw[List.flatMap_cons,NU fun k=>h (aXV _ k)];unfold oC;rw[if_neg hb];rfl
theorem ST(c:UInt8) (r:Y_):∀(n:Nat) (s:Y_),s.length≤n→replaceK [c] r (count s [c]) s=s.flatMap (oC c r)
 |n,s,hn=>by
  rcases aLR c s with h|⟨p,q,h1,h2⟩
  ·rw[Lib.count_miss (aVR c h),NU h];rfl
  ·have hi:=aOO c (q:=q) h2
   subst h1
   match n,hn with
   |n+1,hn =>
    have ih:=ST c r n q (by simp at hn; omega)
    rw[Lib.count_hit (by simp) hi,aFF,aZQ,Lib.replaceK_hit _ _ _ _ _ hi,aFF,ih,List.take_left,List.flatMap_append,List.flatMap_cons,NU h2];simp[oC]
   | 0,hn=>simp at hn
theorem NV(c:UInt8) (r s:Y_) (h:r≠[c]):replace s [c] r (-1)=s.flatMap (oC c r):=by
 unfold replace replaceNum;rw[if_neg (by simpa using fun e=>h e.symm),if_pos (Or.inl (by decide))];exact ST c r _ s (aZ0 _)
theorem oD{f:UInt8→Y_}{k:Nat}(h:∀b,(f b).length≤k):∀s:Y_,(s.flatMap f).length≤k*s.length
 | []=>by simp
 |b::s=>by
  have:=h b
  have:=oD h s
  rw[List.flatMap_cons,aYA,aYR,Nat.mul_add];omega
end Go.Mo
namespace Go.Mo
open Go Go.Lib
def GI(b:UInt8):Y_:=if b=38 then [38,97,109,112,59] else if b=60 then [38,108,116,59] else if b=62 then [38,103,116,59] else if b=34 then [38,113,117,111,116,59] else if b=39 then [38,97,112,111,115,59] else [b]
def esc(s:Y_):Y_:=s.flatMap GI
theorem SU(b:UInt8):1≤(GI b).length∧(GI b).length≤6:=by
 unfold GI
 repeat' split
 all_goals simp
theorem aFG(s:Y_):((((s.flatMap (oC 38 [38,97,109,112,59])).flatMap (oC 60 [38,108,116,59])).flatMap (oC 62 [38,103,116,59])).flatMap (oC 34 [38,113,117,111,116,59])).flatMap (oC 39 [38,97,112,111,115,59])=esc s:=by
 unfold esc;rw[List.flatMap_assoc,List.flatMap_assoc,List.flatMap_assoc,List.flatMap_assoc];congr 1;funext b;unfold GI
 by_cases h1:b=38
 ·subst h1; decide
 by_cases h2:b=60
 ·subst h2; decide
 by_cases h3:b=62
 ·subst h3; decide
 by_cases h4:b=34
 ·subst h4; decide
 by_cases h5:b=39
 ·subst h5; decide
 simp[oC,h1,h2,h3,h4,h5]
end Go.Mo
end
