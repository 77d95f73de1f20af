/-
  Texts put together, in build order: WRa WRb WRc WRd WRe WE WM WB WV WS WH WXa WXb.
-/
import Derived.Test.YtpblmlldkpkomaaGreatDoorProg
import Derived.WalkKit
import Derived.WalkSpells
import Derived.LoopTactic
import Derived.Below
import Derived.Lib.Hide
import Derived.Lib.LazyBuf
import Derived.Lib.ConvBytes
import Derived.Laws.BytesArg
import Derived.Laws.LoneSync
import Derived.Defers
import Derived.Tactics
import Derived.Tactics2
import Derived.Test.YtpblmlldkpkomaaGreatDoorYdC
import Derived.Laws.Rows
import Derived.Deep.WholeRow
import Derived.Laws.Pointers
import Derived.RegionTactic
import Derived.RegionCalls
import Derived.KernelRfl
import GoSem.PinnedTables
import Derived.Test.YtpblmlldkpkomaaGreatDoorChecked
import Derived.Lib.UnsafeStr
import Derived.Lib.Builder
import Derived.Lib.Walk
import Derived.Laws.Externs
import Derived.OrdersHeld
import Derived.Shelf.Unicode.ValidAny
import Derived.Shelf.Strings.Search3
import Derived.Shelf.Strings.Replace
import Derived.Shelf.Strings.SlTrimAscii
import Derived.Shelf.Strconv.Itoa3
import Derived.Lib.AppendIntMem
import Derived.Shelf.Strconv.ParseIntPublic10
set_option linter.all false

section
set_option linter.all false
namespace Go.Mo
open Go Go.W Go.Proofs Go.RowKit
theorem aG0(x:UInt8):flatB x=x∨(flatB x=32∧x≠32):=by
 unfold flatB
 by_cases h1:x=9
 ·subst h1; exact .inr (by decide)
 by_cases h2:x=10
 ·subst h2; exact .inr (by decide)
 by_cases h3:x=13
 ·subst h3; exact .inr (by decide)
 left
 have e1:(x==9)=false:=by simpa using h1
 have e2:(x==10)=false:=by simpa using h2
 have e3:(x==13)=false:=by simpa using h3
 rw[e1,e2,e3];rfl
def B7(B n:Nat) (bs:Y_) (v:Value) (wr:World):Prop:=∃c cap,v=.slice (some ⟨c,0,none⟩) n cap∧B≤c∧c<wr.heap.size∧(∀j,j<n→wr.cell? ⟨c,j,none⟩=some (.int .u8 ((bs.getD j 0).toNat:Nat)))∧(∀j,j<n→wr.frozen? ⟨c,j,none⟩=false)
def bGW(w:World) (n:Nat) (l:Y_) (v i:Value) (wr:World):Prop:=∃k:Nat,k≤l.length∧i=.int .i64 k∧Below w.heap.size w wr∧((v=.slice none 0 0∧(l.take k).map flatB=l.take k)∨B7 w.heap.size n ((l.take k).map flatB++l.drop k) v wr)
theorem B8(l:Y_) (f:UInt8→UInt8) (k:Nat) (h:k<l.length):(l.take (k+1)).map f++l.drop (k+1)=((l.take k).map f++l.drop k).set k (f l[k]):=by
 have h1:((l.take k).map f).length=k:=by simp; omega
 rw[bHA h,bHK h,bJP,bIW,bH2 _ _ (by omega),h1,bJ9];rfl
theorem aG1(l:Y_) (f:UInt8→UInt8) (k:Nat) (h:k<l.length) (he:f l[k]=l[k]):(l.take (k+1)).map f++l.drop (k+1)=(l.take k).map f++l.drop k:=by
 rw[bHA h,bHK h,bJP,bIW];simp[he]
theorem aLO(l:Y_) (f:UInt8→UInt8) (k:Nat) (h:k<l.length) (hp:(l.take k).map f=l.take k) (he:f l[k]=l[k]):(l.take (k+1)).map f=l.take (k+1):=by
 rw[bHA h,bJP,hp];simp[he]
theorem aP5(l:Y_) (f:UInt8→UInt8) (k:Nat) (hp:(l.take k).map f=l.take k):(l.take k).map f++l.drop k=l:=by
 rw[hp,bH0]
theorem aES{B n k:Nat}{bs:Y_}{c cap:Nat}{wr:World}(y:UInt8) (hk:k<bs.length) (h:B7 B n bs (.slice (some ⟨c,0,none⟩) n cap) wr):B7 B n (bs.set k y) (.slice (some ⟨c,0,none⟩) n cap) (wr.setCell ⟨c,k,none⟩ (.int .u8 (y.toNat:Nat))):=by
 obtain⟨c',cap',e,h1,h2,h3,h4⟩:=h;simp only[Value.slice.injEq,Option.some.injEq,Addr.mk.injEq,and_true,true_and] at e;obtain⟨rfl,rfl⟩:=e;refine⟨c,cap,rfl,h1,by simpa [World.setCell] using h2,fun j hj=>?_,fun j hj=>by rw[bH3]; exact h4 j hj⟩
 by_cases e:j=k
 ·subst e;rw[World.cell?_setCell_same _ _ _ (h3 j hj)];simp[List.getD,hk]
 ·rw[bHL _ _ _ _ (by simp<;>omega),h3 j hj];simp[List.getD,Ne.symm e]
theorem aP6{B:Nat}(s:ByteArray) (wr:World) (hB:B≤wr.heap.size):B7 B s.size s.data.toList (.slice (some ⟨wr.heap.size,0,none⟩) s.size (grownCap wr s.size 0 5)) (Lib.bytesWorld wr 5 s):=by
 refine⟨_,_,rfl,hB,by rw[Lib.bytesWorld_size]; omega,fun j hj=>Lib.bytesWorld_cell wr 5 s j hj,fun j hj=>?_⟩
 have h1:=Lib.bytesWorld_at_new wr 5 s
 have h2:s.size≤(Lib.bytesCells wr 5 s).size:=by
  unfold Lib.bytesCells;rw[Array.size_append,Array.size_map];exact Nat.le_add_right _ _
 unfold World.frozen?;simp only[h1];generalize (Lib.bytesCells wr 5 s).size=z at h2
 have:¬z≤j:=by omega
 simp[this]
theorem aG2{B:Nat}{w wr:World}(s:ByteArray) (h:Below B w wr) (hB:B≤wr.heap.size):Below B w (Lib.bytesWorld wr 5 s) :=
 h.trans ⟨rfl,rfl,rfl,by rw[Lib.bytesWorld_size]; omega,fun k hk=>Lib.bytesWorld_at_old wr 5 s k (by omega)⟩
theorem aLP(l:Y_):strOfNums (l.map fun x=>(x.toNat:Int))=⟨l.toArray⟩:=by
 unfold strOfNums;rw[List.map_map]
 have:((fun n:Int=>UInt8.ofNat n.toNat) ∘ fun x:UInt8=>(x.toNat:Int))=id:=by funext x; simp
 rw[this,List.map_id]
set_option maxHeartbeats 4000000 in
set_option maxRecDepth 1000000 in
theorem aTZ(b:Nat) (s:ByteArray) (w:World) (hb:b<w.heap.size) (hs:s.size≤4294967281) (htab:∀x:UInt8,w.cell? ⟨b,x.toNat,none⟩=some (.int .u8 (flatB x).toNat)) :
  Calls Tryz.prog 371 #[.pointer (some ⟨b,0,none⟩),.string s] w fun e w'=>e=.returned (.string ⟨(s.data.toList.map flatB).toArray⟩)∧Below w.heap.size w w':=by
 have HT:=Lib.hid htab
 clear htab
 have HB:=Lib.hid hb
 go_enter Tryz.func371,Tryz.ntmps371
 go_wp2
 go_loopw [5,6] (fun v i wr=>bGW w s.size s.data.toList v i wr) (fun _ i _=>s.size-(intOf i).toNat)
 case atStart=>exact⟨0,bKD _,rfl,Below.refl _ _,.inl ⟨rfl,rfl⟩⟩
 case round =>
  obtain⟨k,hk,rfl,hbel,hor⟩:=hrel
  have hn:s.data.toList.length=s.size:=(Lib.size_eq s).symm
  have HNl:=Lib.hid hn
  clear hn
  have hkl:k≤s.size:=by have:=HNl.out; omega
  have hBw:=hbel.size
  by_cases hlt:k<s.size
  ·have hlk:k<s.data.toList.length:=by have:=HNl.out; omega
   have ht:=HT.out (s[k]'hlt)
   have hc1:wr.cell? ⟨b,(s[k]'hlt).toNat,none⟩=some (.int .u8 (flatB (s[k]'hlt)).toNat):=(hbel.cell (p:=⟨b,(s[k]'hlt).toNat,none⟩) HB.out).trans ht
   clear ht
   have hx:((s[k]'hlt).toNat:Int)<256:=by have:=(s[k]'hlt).toNat_lt; omega
   have hget:s.data.toList[k]'hlk=s[k]'hlt:=rfl
   have HG:=Lib.hid hget
   clear hget
   rcases aG0 (s[k]'hlt) with hd|⟨hd,hne⟩
   ·
    rw[hd] at hc1
    have HD:=Lib.hid hd
    clear hd
    rcases hor with⟨rfl,hpre⟩|hbuf
    ·have HP:=Lib.hid hpre
     clear hpre
     go_wp2
     go_roundw
     case rel=>exact⟨k+1,hlk,by go_num,hbel,.inl ⟨rfl,aLO _ _ k hlk HP.out (by rw[HG.out]; exact HD.out)⟩⟩
     case measure=>simp[intOf]; omega
    ·have HP:=Lib.hid hbuf
     clear hbuf
     go_wp2
     go_roundw
     case rel=>exact⟨k+1,hlk,by go_num,hbel,.inr (by rw[aG1 _ _ k hlk (by rw[HG.out]; exact HD.out)]; exact HP.out)⟩
     case measure=>simp[intOf]; omega
   ·rw[hd] at hc1
    have hc1:wr.cell? ⟨b,(s[k]'hlt).toNat,none⟩=some (.int .u8 32):=hc1
    have HD:=Lib.hid hd
    clear hd
    have hne':((32:Int) != ((s[k]'hlt).toNat:Int))=true:=by
     simp only[bne_iff_ne,ne_eq];intro e;exact hne (UInt8.toNat_inj.1 (by show _=32; omega))
    have HN:=Lib.hid hne
    clear hne
    rcases hor with⟨rfl,hpre⟩|hbuf
    ·have HP:=Lib.hid hpre
     clear hpre
     have hnl:=fun w=>run_eql_slice_nil (P:=Tryz.prog) w 129 5 none 0 0 Tryz.underlying129
     have hcv:=Lib.run_convert_string_bytes (P:=Tryz.prog) wr 9 129 5 s Tryz.underlying9 Tryz.underlying129 Tryz.underlying5
     have hc2:(Lib.bytesWorld wr 5 s).cell? ⟨b,(s[k]'hlt).toNat,none⟩=some (.int .u8 32):=(Lib.bytesWorld_old wr 5 s _ (by show b<wr.heap.size; have:=HB.out; omega)).trans hc1
     have hbn:=aP6 (B:=w.heap.size) s wr hBw
     have hc3:=Lib.bytesWorld_cell wr 5 s k hlt
     have hc4:(Lib.bytesWorld wr 5 s).frozen? ⟨wr.heap.size,k,none⟩=false:=by
      obtain⟨c,cap,e,_,_,_,h4⟩:=hbn;simp only[Value.slice.injEq,Option.some.injEq,Addr.mk.injEq,and_true,true_and] at e;obtain⟨⟨rfl,_⟩,_⟩:=e;exact h4 k hlt
     have hbb:=aG2 s hbel hBw
     have HBn:=Lib.hid hbn
     clear hbn
     go_wp2
     go_roundw
     case rel =>
      refine⟨k+1,hlk,by go_num,hbb.setCell (by exact hBw) _,.inr ?_⟩
      have h1:=B8 s.data.toList flatB k hlk
      rw[aP5 _ _ k HP.out,HG.out,HD.out] at h1;rw[h1];exact aES 32 hlk HBn.out
     case measure=>simp[intOf]; omega
    ·obtain⟨c,cap,rfl,q1,q2,q3,q4⟩:=hbuf
     have hnl:=fun w=>run_eql_slice_nil (P:=Tryz.prog) w 129 5 (some ⟨c,0,none⟩) s.size cap Tryz.underlying129
     have hc3:=q3 k hlt
     have hc4:=q4 k hlt
     have hQ:B7 w.heap.size s.size ((s.data.toList.take k).map flatB++s.data.toList.drop k) (.slice (some ⟨c,0,none⟩) s.size cap) wr:=⟨c,cap,rfl,q1,q2,q3,q4⟩
     have HQ:=Lib.hid hQ
     clear hQ q3 q4
     go_wp2
     go_roundw
     case rel =>
      refine⟨k+1,hlk,by go_num,hbel.setCell (by exact q1) _,.inr ?_⟩
      have h1:=B8 s.data.toList flatB k hlk
      rw[HG.out,HD.out] at h1;rw[h1];exact aES 32 (by simp; omega) HQ.out
     case measure=>simp[intOf]; omega
  ·rcases hor with⟨rfl,hpre⟩|hbuf
   ·have HP:=Lib.hid hpre
    clear hpre
    have hnl:=fun w=>run_eql_slice_nil (P:=Tryz.prog) w 129 5 none 0 0 Tryz.underlying129
    go_wp2
    go_ret
    refine⟨?_,hbel⟩
    have h1:=HP.out
    rw[bHS (by have:=HNl.out; omega)] at h1;rw[h1,Lib.mk_data];rfl
   ·obtain⟨c,cap,rfl,q1,q2,q3,q4⟩:=hbuf
    have hnl:=fun w=>run_eql_slice_nil (P:=Tryz.prog) w 129 5 (some ⟨c,0,none⟩) s.size cap Tryz.underlying129
    have h0:(s.data.toList.take k).map flatB++s.data.toList.drop k=s.data.toList.map flatB:=by
     rw[bHS (by have:=HNl.out; omega),bHT (by have:=HNl.out; omega),bJH]
    rw[h0] at q3
    clear h0
    have hcv:=run_convert_bytes_arg (P:=Tryz.prog) wr 129 5 Tryz.underlying129 Tryz.underlying5 c 0 s.size cap ((s.data.toList.map flatB).map fun x=>(x.toNat:Int)) (by rw[bJO,bJO]; exact HNl.out) (fun i hi=>by
     have h1:i<s.data.toList.length:=by have:=HNl.out; omega
     rw[bJ4,q3 i hi]
     have h2:i<(s.data.toList.map flatB).length:=by simpa using h1
     rw[bHG,bHG,bI0 (f:=fun x:UInt8=>(x.toNat:Int)),bHN h2];rfl) 9 Tryz.underlying9
    have hstr:strOfNums ((s.data.toList.map flatB).map fun x=>(x.toNat:Int))=⟨(s.data.toList.map flatB).toArray⟩:=by
     exact aLP _
    rw[hstr] at hcv
    clear hstr
    have HC:=Lib.hid q3
    clear q3
    go_wp2
    go_ret
    exact⟨rfl,hbel⟩
theorem aLQ(b:UInt8):flatB b=cond (b==9) 32 (cond (b==10) 32 (cond (b==13) 32 b)):=by
 unfold flatB aV;cases (b==9)<;>cases (b==10)<;>cases (b==13)<;>rfl
def aLR(B k:Nat) (wr:World):Prop:=∃cur:Array Value,wr.heap[B]?=some (.cells cur 346 (0,0))∧cur.size=256∧∀j,j<k→cur[j]?=some (.int .u8 (j:Nat))
def BC(k:Nat) (x:UInt8):UInt8:=match k with
 | 0=>flatB x
 | 1=>cond (x==10) 32 (cond (x==13) 32 x)
 | 2=>cond (x==13) 32 x
 |_=>x
def sH(B k:Nat) (wr:World):Prop:=∃cur:Array Value,wr.heap[B]?=some (.cells cur 346 (0,0))∧cur.size=256∧∀x:UInt8,cur[x.toNat]?=some (.int .u8 ((BC k x).toNat:Nat))
def yL(w:World) (g:Nat):Prop:=∀j v,#[Value.string ⟨#[9]⟩,.string ⟨#[32]⟩,.string ⟨#[10]⟩,.string ⟨#[32]⟩,.string ⟨#[13]⟩,.string ⟨#[32]⟩][j]?=some v→w.cell? ⟨g,j,none⟩=some v
theorem aG3{B k j:Nat}{wr:World}(h:aLR B k wr) (hj:j<256):(∃v,wr.cell? ⟨B,j,none⟩=some v)∧wr.frozen? ⟨B,j,none⟩=false:=by
 obtain⟨cur,h1,h2,_⟩:=h;refine⟨⟨cur[j]'(by omega),?_⟩,?_⟩
 ·simp[World.cell?,h1,h2,hj]
 ·simp[World.frozen?,h1]
theorem aLS{B k:Nat}{wr:World}(h:aLR B k wr) (hk:k<256):aLR B (k+1) (wr.setCell ⟨B,k,none⟩ (.int .u8 (k:Nat))):=by
 obtain⟨cur,h1,h2,h3⟩:=h;refine⟨cur.setIfInBounds k (.int .u8 (k:Nat)),heap_setCell_same wr B k cur 346 _ h1,by simpa using h2,fun j hj=>?_⟩;rw[Array.getElem?_setIfInBounds]
 by_cases e:k=j
 ·subst e;rw[if_pos rfl,if_pos (by omega)]
 ·rw[if_neg e];exact h3 j (by omega)
theorem aT0{B:Nat}{wr:World}(h:aLR B 256 wr):sH B 3 wr:=by
 obtain⟨cur,h1,h2,h3⟩:=h;exact⟨cur,h1,h2,fun x=>h3 x.toNat x.toNat_lt⟩
theorem BD{B k j:Nat}{wr:World}(h:sH B k wr) (hj:j<256):(∃v,wr.cell? ⟨B,j,none⟩=some v)∧wr.frozen? ⟨B,j,none⟩=false:=by
 obtain⟨cur,h1,h2,_⟩:=h;refine⟨⟨cur[j]'(by omega),?_⟩,?_⟩
 ·simp[World.cell?,h1,h2,hj]
 ·simp[World.frozen?,h1]
theorem HY{B k:Nat}{wr:World}(b y:UInt8) (h:sH B (k+1) wr) (ht:∀x,BC k x=if x=b then y else BC (k+1) x):sH B k (wr.setCell ⟨B,b.toNat,none⟩ (.int .u8 (y.toNat:Nat))):=by
 obtain⟨cur,h1,h2,h3⟩:=h;refine⟨cur.setIfInBounds b.toNat (.int .u8 (y.toNat:Nat)),heap_setCell_same wr B b.toNat cur 346 _ h1,by simpa using h2,fun x=>?_⟩;rw[Array.getElem?_setIfInBounds,ht x]
 by_cases e:x=b
 ·subst e;rw[if_pos rfl,if_pos (by rw[h2]; exact x.toNat_lt),if_pos rfl]
 ·rw[if_neg (fun k=>e (UInt8.toNat_inj.1 k.symm)),if_neg e];exact h3 x
theorem tk2:∀x,BC 2 x=if x=13 then 32 else BC 3 x:=fun x=>by
 by_cases e:x=13
 ·subst e; rfl
 ·have e':(x==13)=false:=by simpa using e
  rw[if_neg e];simp[BC,e']
theorem tk1:∀x,BC 1 x=if x=10 then 32 else BC 2 x:=fun x=>by
 by_cases e:x=10
 ·subst e; rfl
 ·have e':(x==10)=false:=by simpa using e
  rw[if_neg e];simp[BC,e']
theorem tk0:∀x,BC 0 x=if x=9 then 32 else BC 1 x:=fun x=>by
 by_cases e:x=9
 ·subst e; rfl
 ·have e':(x==9)=false:=by simpa using e
  rw[if_neg e];simp[BC,aLQ,e']
set_option maxHeartbeats 4000000 in
set_option maxRecDepth 1000000 in
theorem aG4(b g cap:Nat) (w:World) (hb:b<w.heap.size) (hg:g<w.heap.size) (hold:w.cell? ⟨b,4,none⟩=some (.slice (some ⟨g,0,none⟩) 6 cap)) (h6:yL w g) :
  Calls Tryz.prog 314 #[.pointer (some ⟨b,0,none⟩)] w fun e w'=>e=.returned (.iface 347 (.pointer (some ⟨w.heap.size,0,none⟩)))∧Below w.heap.size w w'∧sH w.heap.size 0 w':=by
 have c0:=h6 0 (.string ⟨#[9]⟩) rfl
 have c1:=h6 1 (.string ⟨#[32]⟩) rfl
 have c2:=h6 2 (.string ⟨#[10]⟩) rfl
 have c3:=h6 3 (.string ⟨#[32]⟩) rfl
 have c4:=h6 4 (.string ⟨#[13]⟩) rfl
 have c5:=h6 5 (.string ⟨#[32]⟩) rfl
 have hsc:=run_storeCells_new (P:=Tryz.prog) w 346 Tryz.zeroCells346 Tryz.zeroCells346 (by kernel_rfl) rfl (by kernel_rfl)
 go_enter Tryz.func314,Tryz.ntmps314
 go_wp2
 go_loop [4,5] (fun a i=>∃k:Nat,k≤3∧i=.int .i64 ((2*k:Nat):Int)∧a=.bool true) (fun _ i=>6-(intOf i).toNat)
 case atStart=>exact⟨0,by omega,rfl,rfl⟩
 case round =>
  obtain⟨k,hk,rfl,rfl⟩:=hrel
  by_cases hlt:k<3
  ·obtain rfl|rfl|rfl:k=0∨k=1∨k=2:=by omega
   all_goals
    go_wp2
    go_round
    case rel=>first|exact⟨1,by omega,rfl,rfl⟩|exact⟨2,by omega,rfl,rfl⟩|exact⟨3,by omega,rfl,rfl⟩
    case measure=>simp[intOf]
  ·obtain rfl:k=3:=by omega
   go_wp2
   go_loopw [61] (fun i wr=>∃k:Nat,k≤256∧i=.int .i64 (k:Nat)∧Below w.heap.size w wr∧aLR w.heap.size k wr) (fun i _=>256-(intOf i).toNat)
   case atStart=>exact⟨0,by omega,rfl,(Below.refl _ _).alloc (bKC _) _,⟨_,heap_alloc_new w _,Tryz.zeroCells346_size,fun j hj=>absurd hj (bJI _)⟩⟩
   case round =>
    obtain⟨k,hk,rfl,hbel,htab⟩:=hrel
    by_cases hlt:k<256
    ·obtain⟨⟨v,hc⟩,hf⟩:=aG3 htab hlt
     have HT:=Lib.hid htab
     clear htab
     go_wp2
     go_roundw
     case rel=>exact⟨k+1,by omega,by go_num,hbel.setCell (by exact bKC _) _,aLS HT.out hlt⟩
     case measure=>simp[intOf]; omega
    ·have hT3:sH w.heap.size 3 wr:=by
      have h256:k=256:=by omega
      rw[h256] at htab;exact aT0 htab
     clear htab
     have HT:=Lib.hid hT3
     clear hT3
     go_wp2
     obtain⟨wo,rfl⟩:∃wo:World,wo=wr:=⟨_,rfl⟩
     go_loopw [8] (fun i wr=>∃m:Nat,m≤3∧i=.int .i64 (2*(m:Nat)-2:Int)∧Below w.heap.size w wr∧sH w.heap.size m wr) (fun i _=>(intOf i+2).toNat)
     case atStart=>exact⟨3,by omega,rfl,hbel,HT.out⟩
     case round =>
      obtain⟨m,hm,rfl,hbel2,htab2⟩:=hrel
      have d0:wr.cell? ⟨g,0,none⟩=some (.string ⟨#[9]⟩):=(hbel2.cell (p:=⟨g,0,none⟩) hg).trans c0
      have d1:wr.cell? ⟨g,1,none⟩=some (.string ⟨#[32]⟩):=(hbel2.cell (p:=⟨g,1,none⟩) hg).trans c1
      have d2:wr.cell? ⟨g,2,none⟩=some (.string ⟨#[10]⟩):=(hbel2.cell (p:=⟨g,2,none⟩) hg).trans c2
      have d3:wr.cell? ⟨g,3,none⟩=some (.string ⟨#[32]⟩):=(hbel2.cell (p:=⟨g,3,none⟩) hg).trans c3
      have d4:wr.cell? ⟨g,4,none⟩=some (.string ⟨#[13]⟩):=(hbel2.cell (p:=⟨g,4,none⟩) hg).trans c4
      have d5:wr.cell? ⟨g,5,none⟩=some (.string ⟨#[32]⟩):=(hbel2.cell (p:=⟨g,5,none⟩) hg).trans c5
      have k13:∀h,((⟨#[13]⟩:ByteArray)[0]'h)=13:=fun _=>rfl
      have k10:∀h,((⟨#[10]⟩:ByteArray)[0]'h)=10:=fun _=>rfl
      have k9:∀h,((⟨#[9]⟩:ByteArray)[0]'h)=9:=fun _=>rfl
      have k32:∀h,((⟨#[32]⟩:ByteArray)[0]'h)=32:=fun _=>rfl
      obtain rfl|rfl|rfl|rfl:m=3∨m=2∨m=1∨m=0:=by omega
      ·obtain⟨⟨v,hc⟩,hf⟩:=BD (j:=13) htab2 (by omega)
       have HT2:=Lib.hid htab2
       clear htab2
       go_wp2
       go_roundw
       case rel=>exact⟨2,by omega,rfl,hbel2.setCell (by exact bKC _) _,HY 13 32 HT2.out tk2⟩
       case measure=>simp[intOf]
      ·obtain⟨⟨v,hc⟩,hf⟩:=BD (j:=10) htab2 (by omega)
       have HT2:=Lib.hid htab2
       clear htab2
       go_wp2
       go_roundw
       case rel=>exact⟨1,by omega,rfl,hbel2.setCell (by exact bKC _) _,HY 10 32 HT2.out tk1⟩
       case measure=>simp[intOf]
      ·obtain⟨⟨v,hc⟩,hf⟩:=BD (j:=9) htab2 (by omega)
       have HT2:=Lib.hid htab2
       clear htab2
       go_wp2
       go_roundw
       case rel=>exact⟨0,by omega,rfl,hbel2.setCell (by exact bKC _) _,HY 9 32 HT2.out tk0⟩
       case measure=>simp[intOf]
      ·have HT2:=Lib.hid htab2
       clear htab2
       go_wp2
       go_ret
       exact⟨rfl,hbel2,HT2.out⟩
theorem IA(w:World):(callFunc 329 #[]).run Tryz.prog w=.ok (.value (.tuple #[])) w:=run_call_mark0 Tryz.func329 (by kernel_rfl) (by kernel_rfl) (by kernel_rfl) .disable (by kernel_rfl) w
theorem LZ(w:World):(callFunc 331 #[]).run Tryz.prog w=.ok (.value (.tuple #[])) w:=run_call_mark0 Tryz.func331 (by kernel_rfl) (by kernel_rfl) (by kernel_rfl) .enable (by kernel_rfl) w
theorem M8(a:Addr) (w:World):(callFunc 332 #[.pointer (some a)]).run Tryz.prog w=.ok (.value (.tuple #[])) w:=run_call_marked Tryz.func332 (by kernel_rfl) (by kernel_rfl) (by kernel_rfl) .acquire (by kernel_rfl) a w
theorem M9(a:Addr) (w:World):(callFunc 334 #[.pointer (some a)]).run Tryz.prog w=.ok (.value (.tuple #[])) w:=run_call_marked Tryz.func334 (by kernel_rfl) (by kernel_rfl) (by kernel_rfl) .releaseMerge (by kernel_rfl) a w
set_option maxHeartbeats 2000000 in
set_option maxRecDepth 1000000 in
theorem IB(a:Addr) (x:Value) (u:FrameMode) (w:World) (hc:w.cell? a=some x) (hz:w.frozen? a=false) :
  CallsD Tryz.prog 320 #[.pointer (some a),.bool true] u w fun e u' w'=>u'=u∧(e=.returned (.tuple #[])∧w'=w.drew.setCell a (.int .u32 1)):=by
 have hc':w.drew.cell? a=some x:=by go_simp
 have hz':w.drew.frozen? a=false:=by go_simp
 have hst:=run_call_store (P:=Tryz.prog) Tryz.func325 (by kernel_rfl) (by kernel_rfl) (by kernel_rfl) (by kernel_rfl) (k:=.u32) (y:=1) hc' hz'
 go_enter_d Tryz.func320,Tryz.ntmps320
 go_wp2
 go_region_calls
 all_goals (go_end0; exact⟨rfl,rfl⟩)
set_option maxHeartbeats 2000000 in
set_option maxRecDepth 1000000 in
theorem DF(a:Addr) (u:FrameMode) (w:World) (hc:w.cell? a=some (.int .i32 1)) (hz:w.frozen? a=false) :
  CallsD Tryz.prog 319 #[.pointer (some a)] u w fun e u' w'=>u'=u∧(e=.returned (.tuple #[])∧w'=w.setCell a (.int .i32 0)):=by
 have hd:=IA
 have he:=LZ
 have hr:=M9
 have hadd:=run_call_add (P:=Tryz.prog) Tryz.func335 (by kernel_rfl) (by kernel_rfl) (by kernel_rfl) .i32 (by kernel_rfl) (y:=-1) (s:=0) hc hz (by simp[go_sem]; rfl)
 have hcv:=run_convert_to_unsafe (P:=Tryz.prog) (src:=366) (dst:=240) Tryz.underlying366 Tryz.underlying240 (by kernel_rfl) hc
 go_enter_d Tryz.func319,Tryz.ntmps319
 go_wp2
 go_end0
 go_wp2
 go_end0
 exact⟨rfl,rfl⟩
set_option maxHeartbeats 2000000 in
set_option maxRecDepth 1000000 in
theorem aG5(a:Addr) (w:World) (hc:w.cell? a=some (.int .i32 0)) (hz:w.frozen? a=false) :
  Calls Tryz.prog 318 #[.pointer (some a)] w fun e w'=>e=.returned (.tuple #[])∧w'=w.setCell a (.int .i32 1):=by
 have hd:=IA
 have he:=LZ
 have ha:=M8
 have hcas:=run_call_cas_hit (P:=Tryz.prog) Tryz.func330 (by kernel_rfl) (by kernel_rfl) (by kernel_rfl) .i32 (by kernel_rfl) (y:=1) hc hz
 have hc':(w.setCell a (.int .i32 1)).cell? a=some (.int .i32 1):=World.cell?_setCell_same w a _ hc
 have hcv:=run_convert_to_unsafe (P:=Tryz.prog) (src:=366) (dst:=240) Tryz.underlying366 Tryz.underlying240 (by kernel_rfl) hc'
 go_enter Tryz.func318,Tryz.ntmps318
 go_wp2
 first|go_end0|(simp only[Exit.inBlock,Exit.then]; refine bodyPost_ret (results_none rfl _ _ _) rfl ?_)|refine bodyPost_ret (results_none rfl _ _ _) rfl ?_
 go_wp2
 go_end0
 exact⟨rfl,rfl⟩
theorem sH.of_block{B k:Nat}{w w':World}(h:sH B k w) (hh:w'.heap[B]?=w.heap[B]?):sH B k w':=by
 obtain⟨cur,h1,h2,h3⟩:=h;exact⟨cur,hh.trans h1,h2,h3⟩
theorem sH.other{B k:Nat}{w:World}(h:sH B k w){a:Addr}(ha:B≠a.block) (u:Value):sH B k (w.setCell a u) :=
 h.of_block (Below.heap_setCell _ _ _ _ ha)
theorem yL.other{g:Nat}{w:World}(h:yL w g){a:Addr}(ha:a.block≠g) (u:Value):yL (w.setCell a u) g:=fun j v hj =>
 (bHL w a ⟨g,j,none⟩ u (fun e=>ha (by rw[e]))).trans (h j v hj)
def ifa(c:Nat):Value:=.iface 347 (.pointer (some ⟨c,0,none⟩))
set_option maxHeartbeats 2000000 in
set_option maxRecDepth 1000000 in
theorem aLT(b g cap:Nat) (x3:Value) (w:World) (hb:b<w.heap.size) (hg:g<w.heap.size) (hold:w.cell? ⟨b,4,none⟩=some (.slice (some ⟨g,0,none⟩) 6 cap)) (h3:w.cell? ⟨b,3,none⟩=some x3)
  (f3:w.frozen? ⟨b,3,none⟩=false) (f4:w.frozen? ⟨b,4,none⟩=false) (h6:yL w g) :
  Calls Tryz.prog 303 #[.pointer (some ⟨b,0,none⟩)] w fun e w'=>e=.returned (.tuple #[])∧∃w1,Below w.heap.size w w1∧sH w.heap.size 0 w1∧w'=(w1.setCell ⟨b,3,none⟩ (ifa w.heap.size)).setCell ⟨b,4,none⟩ (.slice none 0 0):=by
 have HB:=Lib.hid (aG4 b g cap w hb hg hold h6)
 go_enter Tryz.func303,Tryz.ntmps303
 go_wp2_with fail
 refine HB.out.mono ?_;rintro e w1 ⟨rfl,hbel,htab⟩
 have c3:w1.cell? ⟨b,3,none⟩=some x3:=(hbel.cell (p:=⟨b,3,none⟩) hb).trans h3
 have c4:w1.cell? ⟨b,4,none⟩=some (.slice (some ⟨g,0,none⟩) 6 cap):=(hbel.cell (p:=⟨b,4,none⟩) hb).trans hold
 have z3:w1.frozen? ⟨b,3,none⟩=false:=(hbel.frozen (p:=⟨b,3,none⟩) hb).trans f3
 have z4:w1.frozen? ⟨b,4,none⟩=false:=(hbel.frozen (p:=⟨b,4,none⟩) hb).trans f4
 have d4:(w1.setCell ⟨b,3,none⟩ (.iface 347 (.pointer (some ⟨w.heap.size,0,none⟩)))).cell? ⟨b,4,none⟩=some (.slice (some ⟨g,0,none⟩) 6 cap):=(bHL _ _ _ _ (by simp)).trans c4
 have HT:=Lib.hid htab
 clear htab
 go_wp2
 go_end0
 exact⟨rfl,w1,hbel,HT.out,rfl⟩
def aLU(b c:Nat) (w w':World):Prop:=Below b w w'∧w'.cell? ⟨b,3,none⟩=some (ifa c)∧sH c 0 w'∧c<w'.heap.size∧w'.frozen? ⟨b,3,none⟩=false
theorem aLV{b:Nat}{w w1:World}{v x:Value}(hb:b<w.heap.size) (h:Below w.heap.size (w.setCell ⟨b,1,none⟩ v) w1) (ht:sH w.heap.size 0 w1) (h3:w1.cell? ⟨b,3,none⟩=some x) (hz:∀o,w1.frozen? ⟨b,o,none⟩=false) :
  aLU b w.heap.size w ((((w1.setCell ⟨b,3,none⟩ (ifa w.heap.size)).setCell ⟨b,4,none⟩ (.slice none 0 0)).drew.setCell ⟨b,0,none⟩ (.int .u32 1)).setCell ⟨b,1,none⟩ (.int .i32 0)):=by
 have hne:w.heap.size≠b:=by omega
 refine⟨?_,?_,?_,?_,?_⟩
 ·exact((((((Below.refl b w).setCell (p:=⟨b,1,none⟩) (bKC _) v).trans (h.mono (Nat.le_of_lt hb))).setCell (p:=⟨b,3,none⟩) (bKC _) _).setCell (p:=⟨b,4,none⟩) (bKC _) _).drew.setCell (p:=⟨b,0,none⟩) (bKC _) _).setCell (p:=⟨b,1,none⟩) (bKC _) _
 ·rw[bHL _ ⟨b,1,none⟩ ⟨b,3,none⟩ _ (by simp),bHL _ ⟨b,0,none⟩ ⟨b,3,none⟩ _ (by simp),World.cell?_drew,bHL _ ⟨b,4,none⟩ ⟨b,3,none⟩ _ (by simp)];exact World.cell?_setCell_same _ _ _ h3
 ·exact(sH.of_block (w:=((w1.setCell ⟨b,3,none⟩ (ifa w.heap.size)).setCell ⟨b,4,none⟩ (.slice none 0 0))) ((ht.other (by exact hne) _).other (by exact hne) _) rfl |>.other (by exact hne) _).other (by exact hne) _
 ·obtain⟨cur,q1,_⟩:=ht
  have:=(bHF.1 q1).1
  simpa [World.setCell,World.drew] using this
 ·simp only[bH3,World.frozen?_drew];exact hz 3
set_option maxRecDepth 1000000 in
set_option maxHeartbeats 4000000 in
theorem aLW(b g cap:Nat) (x3:Value) (w:World) (hb:b<w.heap.size) (hg:g<w.heap.size) (hgb:g≠b) (hold:w.cell? ⟨b,4,none⟩=some (.slice (some ⟨g,0,none⟩) 6 cap)) (h3:w.cell? ⟨b,3,none⟩=some x3)
  (h0:w.cell? ⟨b,0,none⟩=some (.int .u32 0)) (h1:w.cell? ⟨b,1,none⟩=some (.int .i32 0)) (hz:∀o,w.frozen? ⟨b,o,none⟩=false) (h6:yL w g) :
  Calls Tryz.prog 313 #[.pointer (some ⟨b,0,none⟩),.func (.func 303) #[.pointer (some ⟨b,0,none⟩)] #[]] w fun e w'=>e=.returned (.tuple #[])∧aLU b w.heap.size w w':=by
 have HL:=Lib.hid (aG5 ⟨b,1,none⟩ w h1 (hz 1))
 have hl:=run_call_load (P:=Tryz.prog) Tryz.func317 (by kernel_rfl) (by kernel_rfl) (by kernel_rfl) .u32 (by kernel_rfl) (w:=w.setCell ⟨b,1,none⟩ (.int .i32 1)) (a:=⟨b,0,none⟩) (x:=0) ((bHL _ ⟨b,1,none⟩ ⟨b,0,none⟩ _ (by simp)).trans h0)
 have hnot:∀(x:Bool) (w:World),(Op.unary .not (.bool x)).run Tryz.prog w=.ok (.bool (!x)) w:=fun _ _=>rfl
 have hs:(w.setCell ⟨b,1,none⟩ (.int .i32 1)).heap.size=w.heap.size:=by simp[World.setCell]
 have HO:=Lib.hid (aLT b g cap x3 (w.setCell ⟨b,1,none⟩ (.int .i32 1)) (by rw[hs]; exact hb) (by rw[hs]; exact hg) ((bHL _ ⟨b,1,none⟩ ⟨b,4,none⟩ _ (by simp)).trans hold) ((bHL _ ⟨b,1,none⟩ ⟨b,3,none⟩ _ (by simp)).trans h3)
  (by rw[bH3]; exact hz 3) (by rw[bH3]; exact hz 4) (h6.other (by exact fun e=>hgb e.symm) _))
 rw[hs] at HO
 have HS:=Lib.hid hs
 have H0:=Lib.hid h0
 have H1:=Lib.hid h1
 have H3:=Lib.hid h3
 have H4:=Lib.hid hold
 have HZ:=Lib.hid hz
 clear hs h0 h1 h3 hold hz h6
 go_enter_defers Tryz.func313,Tryz.ntmps313
 go_wp2_with (go_at_call 318; refine HL.out.mono ?_; rintro e w' ⟨rfl,rfl⟩)
 go_wp2_with (first|(go_at_call 303; refine HO.out.mono ?_; rintro e w' ⟨rfl,w1,hbel,htab,rfl⟩; have HB1:=Lib.hid hbel; have HT:=Lib.hid htab; clear hbel htab)|(go_at_call 312; go_in))
 have hsz:w.heap.size≤w1.heap.size:=by
  have h1:=HB1.out.size
  have h2:=HS.out
  omega
 have hw1:∀o v,o≠1→w.cell? ⟨b,o,none⟩=some v→w1.cell? ⟨b,o,none⟩=some v:=fun o v ho hv =>
  (HB1.out.cell (p:=⟨b,o,none⟩) hb).trans ((bHL _ ⟨b,1,none⟩ ⟨b,o,none⟩ _ (by simp<;>omega)).trans hv)
 have hw11:w1.cell? ⟨b,1,none⟩=some (.int .i32 1):=(HB1.out.cell (p:=⟨b,1,none⟩) hb).trans (World.cell?_setCell_same w ⟨b,1,none⟩ _ H1.out)
 have hzz:∀o,w1.frozen? ⟨b,o,none⟩=false:=fun o=>(HB1.out.frozen (p:=⟨b,o,none⟩) hb).trans ((bH3 _ _ _ _).trans (HZ.out o))
 refine leaves_cons (f:=320) (args:=#[.pointer (some ⟨b,0,none⟩),.bool true]) (by simp) (by simp[go_sem]) ?_;refine(IB ⟨b,0,none⟩ (.int .u32 0) .returning _ ?_ (by simp[hzz])).mono ?_
 ·exact(bHL _ ⟨b,4,none⟩ ⟨b,0,none⟩ _ (by simp)).trans ((bHL _ ⟨b,3,none⟩ ⟨b,0,none⟩ _ (by simp)).trans (hw1 0 _ (by decide) H0.out))
 rintro e u' w'' ⟨rfl,rfl,rfl⟩;refine leaves_cons (f:=319) (args:=#[.pointer (some ⟨b,1,none⟩)]) (by simp[settle]) (by simp[go_sem]) ?_;refine(DF ⟨b,1,none⟩ _ _ ?_ (by simp[hzz])).mono ?_
 ·refine(bHL _ ⟨b,0,none⟩ ⟨b,1,none⟩ _ (by simp)).trans ?_;rw[World.cell?_drew];exact(bHL _ ⟨b,4,none⟩ ⟨b,1,none⟩ _ (by simp)).trans ((bHL _ ⟨b,3,none⟩ ⟨b,1,none⟩ _ (by simp)).trans hw11)
 rintro e u' w'' ⟨rfl,rfl,rfl⟩;simp[Leaves,settle,results,Tryz.results313];exact aLV hb HB1.out HT.out (hw1 3 _ (by decide) H3.out) hzz
set_option maxRecDepth 1000000 in
set_option maxHeartbeats 4000000 in
theorem aT1(b g cap:Nat) (x3:Value) (w:World) (hb:b<w.heap.size) (hg:g<w.heap.size) (hgb:g≠b) (hold:w.cell? ⟨b,4,none⟩=some (.slice (some ⟨g,0,none⟩) 6 cap)) (h3:w.cell? ⟨b,3,none⟩=some x3)
  (h0:w.cell? ⟨b,0,none⟩=some (.int .u32 0)) (h1:w.cell? ⟨b,1,none⟩=some (.int .i32 0)) (hz:∀o,w.frozen? ⟨b,o,none⟩=false) (h6:yL w g) :
  Calls Tryz.prog 302 #[.pointer (some ⟨b,0,none⟩),.func (.func 303) #[.pointer (some ⟨b,0,none⟩)] #[]] w fun e w'=>e=.returned (.tuple #[])∧aLU b w.heap.size w w':=by
 have HS:=Lib.hid (aLW b g cap x3 w hb hg hgb hold h3 h0 h1 hz h6)
 have hl:=run_call_load (P:=Tryz.prog) Tryz.func317 (by kernel_rfl) (by kernel_rfl) (by kernel_rfl) .u32 (by kernel_rfl) h0
 have hnot:∀(x:Bool) (w:World),(Op.unary .not (.bool x)).run Tryz.prog w=.ok (.bool (!x)) w:=fun _ _=>rfl
 clear hold h3 h0 h1 hz h6
 go_enter Tryz.func302,Tryz.ntmps302
 go_wp2_with (first|(go_at_call 313; refine HS.out.mono ?_; rintro e w' ⟨rfl,hbu⟩)|(go_at_call 312; go_in))
 go_end0
 exact⟨rfl,hbu⟩
theorem N0(a:Addr) (w:World):(method 504 347 (.pointer (some a)) "Replace").run Tryz.prog w=.ok (371,.pointer (some a)) w:=by kernel_rfl
set_option maxRecDepth 1000000 in
set_option maxHeartbeats 4000000 in
theorem OU(b g cap:Nat) (x3:Value) (s:ByteArray) (w:World) (hsz:s.size≤4294967281) (hb:b<w.heap.size) (hg:g<w.heap.size) (hgb:g≠b) (hold:w.cell? ⟨b,4,none⟩=some (.slice (some ⟨g,0,none⟩) 6 cap)) (h3:w.cell? ⟨b,3,none⟩=some x3)
  (h0:w.cell? ⟨b,0,none⟩=some (.int .u32 0)) (h1:w.cell? ⟨b,1,none⟩=some (.int .i32 0)) (hz:∀o,w.frozen? ⟨b,o,none⟩=false) (h6:yL w g) :
  Calls Tryz.prog 291 #[.pointer (some ⟨b,0,none⟩),.string s] w fun e w'=>e=.returned (.string ⟨(s.data.toList.map flatB).toArray⟩)∧Below b w w':=by
 have HS:=Lib.hid (aT1 b g cap x3 w hb hg hgb hold h3 h0 h1 hz h6)
 have hmf:∀(fn:Fn) (first cap:Array Value) (w:World),(Instr.makeFunc fn first cap).run Tryz.prog w=.ok (.func fn first cap) w:=fun _ _ _ _=>rfl
 clear hold h3 h0 h1 hz h6
 go_enter Tryz.func291,Tryz.ntmps291
 go_wp2_with fail
 refine HS.out.mono ?_;rintro e w1 ⟨rfl,hbel,hi,htab,hc,hf⟩
 replace hi:w1.cell? ⟨b,3,none⟩=some (.iface 347 (.pointer (some ⟨w.heap.size,0,none⟩))):=hi
 have HR:=Lib.hid (aTZ w.heap.size s w1 hc hsz (fun x=>by
  obtain⟨cur,q1,q2,q3⟩:=htab
  have:=q3 x
  simp only[World.cell?,q1]
  simpa [BC] using this))
 have HT:=Lib.hid htab
 clear htab
 have hm:=N0 ⟨w.heap.size,0,none⟩ w1
 go_wp2_with (go_at_call 371; refine HR.out.mono ?_; rintro e w' ⟨rfl,hb2⟩)
 go_ret
 exact⟨rfl,hbel.trans (hb2.mono (by have:=hbel.size; omega))⟩
def six:List Value:=[.string ⟨#[9]⟩,.string ⟨#[32]⟩,.string ⟨#[10]⟩,.string ⟨#[32]⟩,.string ⟨#[13]⟩,.string ⟨#[32]⟩]
def aSA(w:World) (b:Nat) (w':World):Prop:=∃g cap,w.heap.size≤b∧b<w'.heap.size∧g<w'.heap.size∧g≠b∧Below w.heap.size w w'∧w'.cell? ⟨b,4,none⟩=some (.slice (some ⟨g,0,none⟩) 6 cap)∧w'.cell? ⟨b,3,none⟩=some .nilIface ∧
 w'.cell? ⟨b,0,none⟩=some (.int .u32 0)∧w'.cell? ⟨b,1,none⟩=some (.int .i32 0)∧(∀o,w'.frozen? ⟨b,o,none⟩=false)∧yL w' g
def bGX(w:World) (e:Ending) (w':World):Prop:=∃b,e=.returned (.pointer (some ⟨b,0,none⟩))∧aSA w b w'
theorem bAP:(Tryz.prog.info? 9).map (fun i=>(i.zero,i.size,i.bytes))=some (some (.string .empty),1,16):=by kernel_rfl
theorem aT2{w w1:World}{v:Value}(h:w1.ownsRow w.heap.size 9 1 v 6 six) (hg:w.grownBy w1 none):aSA w w1.heap.size (w1.alloc (.cells #[.int .u32 0,.int .i32 0,.int .u32 0,.nilIface,v] 323)):=by
 rcases h.2 with⟨_,h0⟩|⟨g,cap,cur,rfl,q1,q2,q3,q4,q5,q6⟩
 ·cases h0
 have hgl:=(bHF.1 q2).1
 refine⟨g,cap,hg.size,by simp,by simp; omega,by omega,?_,?_,?_,?_,?_,?_,?_⟩
 ·exact((Below.refl _ _).grown hg (bKC _) (fun k hk=>by cases hk)).alloc hg.size _
 ·rw[bIE _ _ _ _ rfl]; rfl
 ·rw[bIE _ _ _ _ rfl]; rfl
 ·rw[bIE _ _ _ _ rfl]; rfl
 ·rw[bIE _ _ _ _ rfl]; rfl
 ·intro o;exact World.frozen?_alloc_at _ _ _ _ rfl
 ·intro j u hj;rw[World.cell?_alloc_past _ _ _ hgl]
  have hj6:j<6:=by
   rcases Nat.lt_or_ge j 6 with h|h
   ·exact h
   ·rw[Array.getElem?_eq_none (by simpa using h)] at hj;cases hj
  have:=World.ownsRow.cellAt h j (by simpa using hj6)
  rw[this]
  have e:(#[Value.string ⟨#[9]⟩,.string ⟨#[32]⟩,.string ⟨#[10]⟩,.string ⟨#[32]⟩,.string ⟨#[13]⟩,.string ⟨#[32]⟩]:Array Value)=six.toArray:=rfl
  rw[e] at hj
  simpa using hj
set_option maxRecDepth 1000000 in
set_option maxHeartbeats 4000000 in
theorem aP7(g:Nat) (w:World) (hc:∀j u,six[j]?=some u→w.cell? ((⟨g,0,none⟩:Addr).add j)=some u):Calls Tryz.prog 290 #[.slice (some ⟨g,0,none⟩) 6 6] w (bGX w):=by
 obtain⟨i0,hi,hz0,hz1,hz2⟩:=info_parts bAP
 have HC:=Lib.hid hc
 clear hc
 go_enter Tryz.func290,Tryz.ntmps290
 go_wp2_with (first
   |(at_builtin; refine wpList_append_own _ rfl _ _ 92 rfl w.heap.size 9 i0 (.string .empty) 1 16 Tryz.underlying92 hi hz0 hz1 hz2 rfl (by decide) _ _ _ rfl (World.ownsRow_nil _ _ _ _) ⟨g,0,none⟩ 6 6 six rfl rfl ?c1 ?c2 ?c3 ?c4 ?c5 ?_)
   |go_in)
 case c1=>exact HC.out
 case c2=>intro u hu; simp[six] at hu; rcases hu with rfl|rfl|rfl|rfl|rfl|rfl<;>rfl
 case c3=>unfold maxLen; omega
 case c4=>omega
 case c5=>exact bKC _
 ·intro v' w1 hown hgrow _;obtain⟨g2,cap2,rfl⟩:∃g2 cap2,v'=.slice (some ⟨g2,0,none⟩) 6 cap2:=by
   rcases hown.2 with⟨_,h0⟩|⟨g2,cap2,cur,e,_⟩
   ·cases h0
   ·exact⟨g2,cap2,e⟩
  have HO:=Lib.hid hown
  have HG:=Lib.hid hgrow
  clear hown hgrow
  go_wp2
  go_ret
  exact⟨_,rfl,aT2 HO.out HG.out⟩
set_option maxRecDepth 1000000 in
set_option maxHeartbeats 4000000 in
theorem aLX(s:ByteArray) (w:World) (hs:s.size≤4294967281):Calls Tryz.prog 273 #[.string s] w fun e w'=>e=.returned (.string ⟨(s.data.toList.map flatB).toArray⟩)∧Below w.heap.size w w':=by
 go_enter Tryz.func273,Tryz.ntmps273
 go_wp2_with fail
 have h0:∀j u,six[j]?=some u→(w.alloc (.cells #[.string ⟨#[9]⟩,.string ⟨#[32]⟩,.string ⟨#[10]⟩,.string ⟨#[32]⟩,.string ⟨#[13]⟩,.string ⟨#[32]⟩] 9)).cell? ((⟨w.heap.size,0,none⟩:Addr).add j)=some u:=fun j u hj=>by
  have e:(⟨w.heap.size,0,none⟩:Addr).add j=⟨w.heap.size,j,none⟩:=by simp[Addr.add,eq_comm]
  rw[e,bIE _ _ _ _ rfl]
  have:(#[Value.string ⟨#[9]⟩,.string ⟨#[32]⟩,.string ⟨#[10]⟩,.string ⟨#[32]⟩,.string ⟨#[13]⟩,.string ⟨#[32]⟩]:Array Value)=six.toArray:=rfl
  rw[this]
  simpa using hj
 have hb0:Below w.heap.size w (w.alloc (.cells #[.string ⟨#[9]⟩,.string ⟨#[32]⟩,.string ⟨#[10]⟩,.string ⟨#[32]⟩,.string ⟨#[13]⟩,.string ⟨#[32]⟩] 9)):=(Below.refl _ _).alloc (bKC _) _
 refine(aP7 w.heap.size _ h0).mono ?_;rintro e w1 ⟨b,rfl,g,cap,p1,p2,p3,p4,p5,p6,p7,p8,p9,p10,p11⟩
 have HR:=Lib.hid (OU b g cap .nilIface s w1 hs p2 p3 p4 p6 p7 p8 p9 p10 p11)
 have hb1:Below w.heap.size w w1:=hb0.trans (p5.mono (by simp))
 have hbb:w.heap.size≤b:=bJ3 (by simp) p1
 clear h0 hb0 p1 p2 p3 p4 p5 p6 p7 p8 p9 p10 p11
 go_wp2_with (go_at_call 291; refine HR.out.mono ?_; rintro e w' ⟨rfl,hb2⟩)
 go_ret
 exact⟨rfl,hb1.trans (hb2.mono hbb)⟩
end Go.Mo
end

section
namespace Go.Mo
open Go Go.W Go.Proofs
abbrev zC:Int×Int×Int×Int×Y_×Y_×Bool×Bool:=((0:Int),((0:Int),((0:Int),((0:Int),([],([],(false,false)))))))
abbrev zG:Y_×Int×Int×Int×Int×UInt8×Bool:=([],((0:Int),((0:Int),((0:Int),((0:Int),((0:UInt8),false))))))
abbrev zE:Int×(Int×Int)×Y_×UInt8×Y_×List (List (Y_×(UInt8×Bool×Bool)×Y_)):=((0:Int),(((0:Int),(0:Int)),([],((0:UInt8),([],[])))))
abbrev zU:Y_×(UInt8×Bool×Bool)×Y_:=([],(((0:UInt8),(false,false)),[]))
abbrev zN:Y_×Y_×List (Y_×Y_)×Int:=([],([],([],(0:Int))))
noncomputable section
abbrev Y4:Ty:=.st (.pair (.str) (.pair (.int .i64) (.pair (.int .i64) (.pair (.int .i64) (.pair (.int .i64) (.pair (.u8) (.bool)))))))
abbrev Y5:Ty:=.st (.pair (.str) (.pair (.st (.pair (.u8) (.pair (.bool) (.bool)))) (.str)))
abbrev Y3:Ty:=.pair (.int .i64) (.pair (.st (.pair (.int .i64) (.int .i64))) (.pair (.str) (.pair (.u8) (.pair (.str) (.slice (.st (.slice Y5)))))))
abbrev Y8:Ty:=.st (.pair (.int .i64) (.pair (.int .i64) (.pair (.int .i64) (.pair (.int .i64) (.pair (.str) (.pair (.str) (.pair (.bool) (.bool))))))))
abbrev Y1:Ty:=.st (.pair (.str) (.pair (.str) (.pair (.u8) (.pair (.bool) (.pair (.int .i64) (.pair (.slice Y4) (.pair (.slice (.st Y3)) (.slice Y8))))))))
abbrev Y2:Ty:=.st (.pair (.str) (.pair (.str) (.pair (.slice (.st (.pair (.str) (.str)))) (.int .i64))))
abbrev Y6:Ty:=.st (.pair (.int .i64) (.pair (.int .i64) (.int .i64)))
abbrev Y7:Ty:=.st (.pair (.int .i64) (.pair (.int .i64) (.pair (.str) (.slice (.st (.pair (.str) (.str)))))))
abbrev Y9:Ty:=.st (.pair Y2 (.int .i64))
abbrev Y10:Ty:=.st (.pair (.int .i64) (.pair (.str) (.pair (.slice (.st (.pair (.str) (.str)))) (.str))))
abbrev Y11:Ty:=.st (.pair (.nptr) (.slice (.u8)))
abbrev Y12:Ty:=.st (.pair (.slice Y2) (.pair (.slice (.str)) (.pair (.bool) (.bool))))
def tt:List (Option Ty):=[none,
 none,
 some (.int .i64),
 some (.int .i64),
 some (.bool),
 some (.u8),
 none,
 none,
 none,
 some (.str),
 none,
 none,
 some (.int .u64),
 none,
 none,
 some (.nptr),
 some (.nptr),
 some (.nptr),
 none,
 none,
 some (.nif),
 some (.int .i32),
 some (.u8),
 some (.slice Y4),
 some (.slice (.st Y3)),
 some (.slice Y8),
 some Y1,
 some Y1,
 none,
 none,
 some (.slice Y2),
 some (.int .i64),
 none,
 none,
 none,
 none,
 none,
 none,
 none,
 none,
 none,
 none,
 none,
 none,
 none,
 some (.slice (.st (.pair (.str) (.str)))),
 some Y2,
 some Y2,
 none,
 some (.st (.pair (.str) (.str))),
 some (.st (.pair (.str) (.str))),
 none,
 none,
 some (.slice Y6),
 none,
 none,
 none,
 some Y6,
 some Y6,
 none,
 none,
 none,
 none,
 some (.st (.pair (.int .i64) (.int .i64))),
 some (.st (.pair (.int .i64) (.int .i64))),
 some (.u8),
 some (.u8),
 some (.st (.pair (.u8) (.pair (.bool) (.bool)))),
 some (.st (.pair (.u8) (.pair (.bool) (.bool)))),
 some Y5,
 some Y5,
 some (.slice Y5),
 some (.st (.slice Y5)),
 some (.st (.slice Y5)),
 some (.slice (.st (.slice Y5))),
 some (.st Y3),
 some (.st Y3),
 some (.slice Y2),
 none,
 none,
 none,
 none,
 some (.u8),
 some Y4,
 some Y4,
 some (.arr 3 (.str)),
 none,
 none,
 some (.arr 7 (.str)),
 none,
 none,
 none,
 some (.slice (.str)),
 none,
 none,
 none,
 none,
 some (.st (.pair (.str) (.pair (.str) (.pair (.u8) (.pair (.bool) (.int .i64)))))),
 some (.st (.pair (.str) (.pair (.str) (.pair (.u8) (.pair (.bool) (.int .i64)))))),
 none,
 none,
 none,
 none,
 none,
 some Y8,
 some Y8,
 none,
 none,
 none,
 none,
 some (.nptr),
 none,
 some (.nptr),
 some Y9,
 some Y9,
 none,
 some (.nptr),
 some (.nptr),
 none,
 some (.slice (.slice (.st (.pair (.str) (.str))))),
 none,
 none,
 none,
 none,
 none,
 none,
 none,
 none,
 some (.nptr),
 some (.slice (.u8)),
 some Y11,
 some Y11,
 some (.nif),
 some (.nif),
 none,
 none,
 none,
 none,
 some (.nptr),
 some (.st (.pair (.str) (.pair (.int .i64) (.pair (.int .i64) (.bool))))),
 some (.st (.pair (.str) (.pair (.int .i64) (.pair (.int .i64) (.bool))))),
 none,
 none,
 none,
 none,
 none,
 some (.int .u64),
 none,
 none,
 none,
 none,
 none,
 none,
 none,
 none,
 none,
 none,
 none,
 some (.nptr),
 some Y9,
 some Y9,
 none,
 none,
 none,
 none,
 none,
 none,
 none,
 none,
 none,
 none,
 none,
 some (.nptr),
 some (.st (.pair (.slice Y2) (.pair (.slice (.str)) (.bool)))),
 some (.st (.pair (.slice Y2) (.pair (.slice (.str)) (.bool)))),
 some Y10,
 some Y10,
 none,
 none,
 none,
 some (.nptr),
 some Y12,
 some Y12,
 some Y7,
 some Y7,
 none,
 none,
 none,
 none,
 none,
 none,
 none,
 none,
 some (.slice Y6),
 none,
 none,
 some (.slice (.int .i64)),
 none,
 none,
 none,
 none,
 some (.arr 2 (.str)),
 some (.arr 5 (.arr 2 (.str))),
 none,
 some (.nptr),
 some (.arr 8 (.st (.pair (.str) (.pair (.int .i64) (.pair (.int .i64) (.bool)))))),
 none,
 none,
 none,
 none,
 none,
 none,
 none,
 none,
 some (.slice (.u8)),
 none,
 none,
 none,
 none,
 none,
 none,
 none,
 none,
 none,
 none,
 some (.arr 2 (.arr 2 (.str))),
 none,
 none,
 none,
 none,
 none,
 none,
 none,
 none,
 none,
 none,
 none,
 some Y6,
 some Y6,
 none,
 none,
 none,
 none,
 none,
 some (.arr 24 (.u8)),
 none,
 none,
 none,
 none,
 none,
 none,
 none,
 none,
 none,
 none,
 none,
 none,
 none,
 none,
 none,
 none,
 some (.arr 256 (.u8)),
 some (.st (.pair (.u8) (.u8))),
 some (.st (.pair (.u8) (.u8))),
 some (.arr 16 (.st (.pair (.u8) (.u8)))),
 some (.int .u64),
 none,
 none,
 none,
 none,
 none,
 none,
 none,
 some (.arr 20 (.int .u64)),
 some (.int .u32),
 some (.arr 65 (.u8)),
 none,
 none,
 some (.slice (.int .i32)),
 none,
 none,
 none,
 none,
 none,
 none,
 some (.arr 256 (.bool)),
 some (.arr 256 (.bool)),
 none,
 none,
 none,
 some (.nptr),
 none,
 none,
 none,
 none,
 none,
 none,
 some (.nptr),
 none,
 none,
 some (.arr 32 (.u8)),
 some (.arr 64 (.u8)),
 some (.int .i64),
 none,
 none,
 some (.nptr),
 none,
 none,
 none,
 none,
 none,
 none,
 none,
 none,
 some (.st (.pair (.int .i32) (.int .u32))),
 some (.st (.pair (.int .i32) (.int .u32))),
 none,
 none,
 none,
 none,
 some (.nif),
 some (.nif),
 none,
 none,
 none,
 none,
 none,
 none,
 some (.st (.pair (.str) (.pair (.str) (.nif)))),
 some (.st (.pair (.str) (.pair (.str) (.nif)))),
 none,
 none,
 some (.nptr),
 none,
 none,
 some (.nptr),
 some (.st (.str)),
 some (.st (.str)),
 some (.nptr),
 none,
 some (.nptr),
 none,
 some (.nptr),
 none,
 some (.nptr),
 none,
 some (.arr 256 (.u8)),
 some (.nptr),
 some (.arr 256 (.slice (.u8))),
 some (.st (.pair (.arr 256 (.slice (.u8))) (.slice (.str)))),
 some (.st (.pair (.arr 256 (.slice (.u8))) (.slice (.str)))),
 some (.nptr),
 some (.nptr),
 none,
 none,
 some (.nptr),
 none,
 some (.st (.pair (.nptr) (.str))),
 some (.st (.pair (.nptr) (.str))),
 some (.nptr),
 some (.slice (.nptr)),
 some (.st (.pair (.str) (.pair (.int .i64) (.pair (.str) (.pair (.nptr) (.slice (.nptr))))))),
 some (.st (.pair (.str) (.pair (.int .i64) (.pair (.str) (.pair (.nptr) (.slice (.nptr))))))),
 some (.st (.pair (.st (.pair (.str) (.pair (.int .i64) (.pair (.str) (.pair (.nptr) (.slice (.nptr))))))) (.pair (.int .i64) (.arr 256 (.u8))))),
 some (.st (.pair (.st (.pair (.str) (.pair (.int .i64) (.pair (.str) (.pair (.nptr) (.slice (.nptr))))))) (.pair (.int .i64) (.arr 256 (.u8))))),
 none,
 some (.nptr),
 none,
 some (.nptr),
 none,
 none,
 none,
 some (.arr 256 (.int .i64)),
 some (.st (.pair (.str) (.pair (.arr 256 (.int .i64)) (.slice (.int .i64))))),
 some (.st (.pair (.str) (.pair (.arr 256 (.int .i64)) (.slice (.int .i64))))),
 none,
 none,
 none,
 none,
 none,
 none,
 none,
 none,
 none,
 none,
 none,
 none,
 none,
 none,
 none,
 none,
 some (.slice (.u8)),
 some (.nptr),
 some (.nif),
 some (.nif),
 some (.nif),
 some (.nif),
 none,
 none,
 none,
 none,
 some (.st (.nif)),
 some (.st (.nif)),
 none]
def gl0:List Y_:=[[76,69,70,84],[67,69,78,84,69,82],[82,73,71,72,84]]
def gl1:List Y_:=[[119,104,105,116,101],[103,114,101,101,110],[98,108,117,101],[99,121,97,110],[114,101,100],[121,101,108,108,111,119],[109,97,103,101,110,116,97]]
def gl2:List (List Y_):=[[[38,97,109,112,59],[38]],[[38,108,116,59],[60]],[[38,103,116,59],[62]],[[38,113,117,111,116,59],[34]],[[38,97,112,111,115,59],[39]]]
def gl3:Y_:=Go.Pinned.utf8FirstZ.map fun n=>UInt8.ofNat n
def gl4:List (UInt8×UInt8):=[(128,191),(160,191),(128,159),(144,191),(128,143),(0,0),(0,0),(0,0),(0,0),(0,0),(0,0),(0,0),(0,0),(0,0),(0,0),(0,0)]
def gl5:List Int:=[1,10,100,1000,10000,100000,1000000,10000000,100000000,1000000000,10000000000,100000000000,1000000000000,10000000000000,100000000000000,1000000000000000,10000000000000000,100000000000000000,1000000000000000000,10000000000000000000]
noncomputable def E:Env:=⟨Tryz.prog,tt,[(0,⟨.arr 3 (.str),gl0⟩),(1,⟨.arr 7 (.str),gl1⟩),(2,⟨.arr 5 (.arr 2 (.str)),gl2⟩),(3,⟨.arr 256 (.u8),gl3⟩),(4,⟨.arr 16 (.st (.pair (.u8) (.u8))),gl4⟩),(5,⟨.arr 20 (.int .u64),gl5⟩)],some 293,some (82,131),[6],[9,10],[]⟩
set_option maxRecDepth 100000 in
theorem chk:rP E 0 E.ty=true:=by kernel_rfl
def ops:List Ty:=[.st Y3,.st (.slice Y5)]
set_option maxRecDepth 100000 in
theorem aGB:rP (E.wop ops) 0 E.ty=true:=by kernel_rfl
theorem mixed:E.P.follows .mixedOrders=true:=by kernel_rfl
end
end Go.Mo
end

section
namespace Go.Mo
open Go Go.W
noncomputable section
abbrev D6:=Y_×Y_
abbrev D1:=Y_×Y_×(List D6)×Int
abbrev D5:=Y_×(UInt8×Bool×Bool)×Y_
abbrev D2:=Int×(Int×Int)×Y_×UInt8×Y_×List (List D5)
abbrev D3:=Y_×Int×Int×Int×Int×UInt8×Bool
abbrev D4:=Int×Int×Int×Int×Y_×Y_×Bool×Bool
abbrev D7:=Y_×Y_×UInt8×Bool×Int×(List D3)×(List D2)×List D4
abbrev D8:=Int×Int×Int
def hP:List PK:=[.k (.v (.str) [])]
def hY:List Kd:=[.v (.bool) []]
def utf8_ValidString(N:Nat) (x:Y_):Option (Bool):=kB N x
def N1:List PK:=[.k (.v (.str) []),.k (.v (.int .i32) [])]
def N2:List Kd:=[.v (.int .i64) []]
def q11(N:Nat) (x:Y_×Int):Option (Int) :=
 jn (fun (v0:Unit) =>
  some (-1))
 fun v1 =>
 aY (fun v2 (v3:Int×Y_×Int) =>
  cnd (nlt (toN v3.2.2) (gE v3.2.1))
   (cnd (ieq (uV v3.2.1 (toN v3.2.2)) x.2)
    (some v3.1)
    (v2 (w64 (aE v3.1 1),v3.2.1,ofN (nR (toN v3.2.2) (vN v3.2.1 (toN v3.2.2))))))
   (v1 ())) N (0,x.1,ofN 0)
def OV:List PK:=[.k (.v (.int .i32) [])]
def OW:List Kd:=[.v (.int .i64) []]
def q12(N:Nat) (x:Int):Option (Int) :=
 cnd (ile 32 x)
  (cnd (ile x 126)
   (some (w64 (wr .i32 (aH x 32))))
   (bnd (q11 N (([32,33,34,35,36,37,38,39,40,41,42,43,44,45,46,47,48,49,50,51,52,53,54,55,56,57,58,59,60,61,62,63,64,65,66,67,68,69,70,71,72,73,74,75,76,77,78,79,80,81,82,83,84,85,86,87,88,89,90,91,92,93,94,95,96,97,98,99,100,101,102,103,104,105,106,107,108,109,110,111,112,113,114,115,116,117,118,119,120,121,122,123,124,125,126,194,161,194,162,194,163,194,164,194,165,194,166,194,167,194,169,194,171,194,174,194,176,194,183,194,187,194,189,194,191,195,128,195,129,195,130,195,131,195,132,195,133,195,134,195,135,195,136,195,137,195,138,195,139,195,140,195,141,195,142,195,143,195,145,195,146,195,147,195,148,195,149,195,150,195,152,195,153,195,154,195,155,195,156,195,159,195,160,195,161,195,162,195,163,195,164,195,165,195,166,195,167,195,168,195,169,195,170,195,171,195,172,195,173,195,174,195,175,195,177,195,178,195,179,195,180,195,181,195,182,195,184,195,185,195,186,195,187,195,188,197,146,197,147,226,128,148,226,128,152,226,128,153,226,128,156,226,128,157,226,128,162,226,128,166,226,132,162,226,153,170]:Y_),x)) fun v0 =>
   some v0))
  (bnd (q11 N (([32,33,34,35,36,37,38,39,40,41,42,43,44,45,46,47,48,49,50,51,52,53,54,55,56,57,58,59,60,61,62,63,64,65,66,67,68,69,70,71,72,73,74,75,76,77,78,79,80,81,82,83,84,85,86,87,88,89,90,91,92,93,94,95,96,97,98,99,100,101,102,103,104,105,106,107,108,109,110,111,112,113,114,115,116,117,118,119,120,121,122,123,124,125,126,194,161,194,162,194,163,194,164,194,165,194,166,194,167,194,169,194,171,194,174,194,176,194,183,194,187,194,189,194,191,195,128,195,129,195,130,195,131,195,132,195,133,195,134,195,135,195,136,195,137,195,138,195,139,195,140,195,141,195,142,195,143,195,145,195,146,195,147,195,148,195,149,195,150,195,152,195,153,195,154,195,155,195,156,195,159,195,160,195,161,195,162,195,163,195,164,195,165,195,166,195,167,195,168,195,169,195,170,195,171,195,172,195,173,195,174,195,175,195,177,195,178,195,179,195,180,195,181,195,182,195,184,195,185,195,186,195,187,195,188,197,146,197,147,226,128,148,226,128,152,226,128,153,226,128,156,226,128,157,226,128,162,226,128,166,226,132,162,226,153,170]:Y_),x)) fun v1 =>
  some v1)
def qD:List PK:=[.k (.v (.str) [])]
def qE:List Kd:=[.v (.bool) []]
def q13(N:Nat) (x:Y_):Option (Bool) :=
 bnd (utf8_ValidString N x) fun v0 =>
 cnd (bA v0)
  (some false)
  (jn (fun (v1:Unit) =>
   some true)
  fun v2 =>
  aY (fun v3 (v4:Y_×Int) =>
   cnd (nlt (toN v4.2) (gE v4.1))
    (bnd (q12 N (uV v4.1 (toN v4.2))) fun v5 =>
    cnd (ilt v5 0)
     (some false)
     (v3 (v4.1,ofN (nR (toN v4.2) (vN v4.1 (toN v4.2))))))
    (v2 ())) N (x,ofN 0))
def BE:List PK:=[.k (.v (.str) [])]
def BF:List Kd:=[.v (.bool) []]
def q14(N:Nat) (x:Y_):Option (Bool) :=
 cnd (ilt (len x) 1)
  (some false)
  (cnd (ilt 16 (len x))
   (some false)
   (grd (inb 0 (len x))
    (cnd (ilt (n8 (aA x (toN 0) 0)) (n8 65))
     (some false)
     (grd (inb 0 (len x))
      (cnd (ilt (n8 90) (n8 (aA x (toN 0) 0)))
       (some false)
       (jn (fun (v0:Unit) =>
        some true)
       fun v1 =>
       aY (fun v2 (v3:Int) =>
        cnd (ilt v3 (len x))
         (jn (fun (v4:Unit) =>
          v2 (w64 (aE v3 1)))
         fun v5 =>
         grd (inb v3 (len x)) <|
         cnd (ilt (n8 (aA x (toN v3) 0)) (n8 65))
          (cnd (ilt (n8 (aA x (toN v3) 0)) (n8 48))
           (cnd (ine (n8 (aA x (toN v3) 0)) (n8 95))
            (cnd (ine (n8 (aA x (toN v3) 0)) (n8 45))
             (some false)
             (v5 ()))
            (v5 ()))
           (cnd (ilt (n8 57) (n8 (aA x (toN v3) 0)))
            (cnd (ine (n8 (aA x (toN v3) 0)) (n8 95))
             (cnd (ine (n8 (aA x (toN v3) 0)) (n8 45))
              (some false)
              (v5 ()))
             (v5 ()))
            (v5 ())))
          (cnd (ilt (n8 90) (n8 (aA x (toN v3) 0)))
           (cnd (ilt (n8 (aA x (toN v3) 0)) (n8 48))
            (cnd (ine (n8 (aA x (toN v3) 0)) (n8 95))
             (cnd (ine (n8 (aA x (toN v3) 0)) (n8 45))
              (some false)
              (v5 ()))
             (v5 ()))
            (cnd (ilt (n8 57) (n8 (aA x (toN v3) 0)))
             (cnd (ine (n8 (aA x (toN v3) 0)) (n8 95))
              (cnd (ine (n8 (aA x (toN v3) 0)) (n8 45))
               (some false)
               (v5 ()))
              (v5 ()))
             (v5 ())))
           (v5 ())))
         (v1 ())) N 0))))))
def IC:List PK:=[.k (.v (.u8) [])]
def ID:List Kd:=[.v (.st (.pair (.str) (.pair (.int .i64) (.pair (.int .i64) (.bool))))) []]
def q15(N:Nat) (x:UInt8):Option (Y_×Int×Int×Bool) :=
 grd (ieq (len (aN 8 (([]:Y_),0,0,false))) (ofN 8)) <|
 cnd (ile 8 (w64 (n8 x)))
  (some (([]:Y_),0,0,false))
  (grd (inb (n8 x) (ofN 8))
   (grd (ilt (n8 x) (len ([(([]:Y_),0,0,false),(([50,51,46,57,55,54]:Y_),5005,24,false),(([50,52]:Y_),5000,24,false),(([50,53]:Y_),4800,25,false),(([50,57,46,57,55]:Y_),4004,30,true),(([51,48]:Y_),4000,30,false),(([53,48]:Y_),2400,50,false),(([53,57,46,57,52]:Y_),2002,60,true)]:List (Y_×Int×Int×Bool))))
    (some (aA ([(([]:Y_),0,0,false),(([50,51,46,57,55,54]:Y_),5005,24,false),(([50,52]:Y_),5000,24,false),(([50,53]:Y_),4800,25,false),(([50,57,46,57,55]:Y_),4004,30,true),(([51,48]:Y_),4000,30,false),(([53,48]:Y_),2400,50,false),(([53,57,46,57,52]:Y_),2002,60,true)]:List (Y_×Int×Int×Bool)) (toN (n8 x)) ([],(0,(0,false)))))))
def N3:List PK:=[.k (.v (.u8) [])]
def N4:List Kd:=[.v (.bool) []]
def q16(N:Nat) (x:UInt8):Option (Bool) :=
 bnd (q15 N x) fun v0 =>
 some (ilt 0 v0.2.1)
def N5:List PK:=[.k (.v (.u8) [])]
def N6:List Kd:=[.v (.bool) []]
def q17(N:Nat) (x:UInt8):Option (Bool) :=
 bnd (q15 N x) fun v0 =>
 some v0.2.2.2
def N7:List PK:=[.k (.v (.u8) []),.k (.v (.bool) [])]
def N8:List Kd:=[.v (.int .i64) []]
def q18(N:Nat) (x:UInt8×Bool):Option (Int) :=
 bnd (q16 N x.1) fun v0 =>
 cnd (bA v0)
  (some 13)
  (cnd x.2
   (bnd (q17 N x.1) fun v1 =>
   cnd (bA v1)
    (some 13)
    (some 0))
   (some 0))
def N9:List PK:=[.k (.v Y1 [])]
def O1:List Kd:=[.v (.int .i64) []]
def q19(N:Nat) (x:D7):Option (Int) :=
 jn (fun (v0:Unit) =>
  bnd (q18 N (x.2.2.1,x.2.2.2.1)) fun v1 =>
  cnd (ine v1 0)
   (some v1)
   (cnd (ilt x.2.2.2.2.1 0)
    (some 2)
    (cnd (ilt 1099511627776 x.2.2.2.2.1)
     (some 2)
     (some 0))))
 fun v2 =>
 bnd (q13 N x.1) fun v3 =>
 cnd (bA v3)
  (some 10)
  (cnd (ilt 400 (len x.1))
   (some 9)
   (cnd (sne x.2.1 ([]:Y_))
    (bnd (q14 N x.2.1) fun v4 =>
    cnd (bA v4)
     (some 5)
     (v2 ()))
    (v2 ())))
def O2:List PK:=[.k (.v (.int .i64) []),.k (.v (.int .i64) []),.k (.v (.int .i64) [])]
def O3:List Kd:=[.v (.bool) []]
def q20(N:Nat) (x:D8):Option (Bool) :=
 cnd (ile x.2.1 x.1)
  (some (ile x.1 x.2.2))
  (some false)
def OX:List PK:=[.k (.v Y4 [])]
def OY:List Kd:=[.v (.int .i64) []]
def q21(N:Nat) (x:D3):Option (Int) :=
 bnd (q14 N x.1) fun v0 =>
 cnd (bA v0)
  (some 5)
  (bnd (q20 N (x.2.1,0,14)) fun v1 =>
  cnd (bA v1)
   (some 2)
   (bnd (q20 N (x.2.2.1,1,w64 (aH 15 x.2.1))) fun v2 =>
   cnd (bA v2)
    (some 2)
    (bnd (q20 N (x.2.2.2.1,0,31)) fun v3 =>
    cnd (bA v3)
     (some 2)
     (bnd (q20 N (x.2.2.2.2.1,1,w64 (aH 32 x.2.2.2.1))) fun v4 =>
     cnd (bA v4)
      (some 2)
      (cnd (ilt (n8 x.2.2.2.2.2.1) (n8 1))
       (some 3)
       (cnd (ilt (n8 3) (n8 x.2.2.2.2.2.1))
        (some 3)
        (some 0)))))))
def O4:List PK:=[.k (.v (.slice Y4) [])]
def O5:List Kd:=[.v (.int .i64) []]
def q22(N:Nat) (x:List D3):Option (Int) :=
 cnd (ilt 16 (len x))
  (some 9)
  (jn (fun (v0:Unit) =>
   some 0)
  fun v1 =>
  aY (fun v2 (v3:Int) =>
   cnd (ilt v3 (len x))
    (grd (inb v3 (len x))
     (bnd (q21 N (aA x (toN v3) zG)) fun v4 =>
     cnd (ine v4 0)
      (some v4)
      (jn (fun (v5:Unit) =>
       cnd (ilt 0 v3)
        (grd (inb (w64 (aH v3 1)) (len x))
         (cnd (slt (aA x (toN v3) zG).1 (aA x (toN (w64 (aH v3 1))) zG).1)
          (some 8)
          (v2 (w64 (aE v3 1)))))
        (v2 (w64 (aE v3 1))))
      fun v6 =>
      cnd (ilt 0 v3)
       (grd (inb (w64 (aH v3 1)) (len x))
        (cnd (seq (aA x (toN v3) zG).1 (aA x (toN (w64 (aH v3 1))) zG).1)
         (some 7)
         (v6 ())))
       (v6 ()))))
    (v1 ())) N 0)
def OZ:List PK:=[]
def PA:List Kd:=[.v Y4 []]
def q23(N:Nat) (x:Unit):Option D3 :=
 some (([]:Y_),11,4,0,32,2,true)
def O6:List PK:=[.k (.v (.slice Y4) []),.k (.v (.str) [])]
def O7:List Kd:=[.v Y4 [],.v (.bool) []]
def q24(N:Nat) (x:(List D3)×Y_):Option (D3×Bool) :=
 cnd (seq x.2 ([]:Y_))
  (bnd (q23 N ()) fun v0 =>
  some (v0,true))
  (jn (fun (v1:Unit) =>
   some ((([]:Y_),0,0,0,0,0,false),false))
  fun v2 =>
  aY (fun v3 (v4:Int) =>
   cnd (ilt v4 (len x.1))
    (grd (inb v4 (len x.1))
     (cnd (seq (aA x.1 (toN v4) zG).1 x.2)
      (some (aA x.1 (toN v4) zG,true))
      (v3 (w64 (aE v4 1)))))
    (v2 ())) N 0)
def O8:List PK:=[.k (.v (.st (.pair (.int .i64) (.int .i64))) [])]
def O9:List Kd:=[.v (.bool) []]
def q25(N:Nat) (x:Int×Int):Option (Bool) :=
 cnd (ile 0 x.1)
  (cnd (ilt x.1 x.2)
   (some (ile x.2 5184000))
   (some false))
  (some false)
def PB:List PK:=[]
def PC:List Kd:=[.v (.slice (.str)) [0]]
def q26(N:Nat) (x:Unit):Option (List Y_) :=
 some ([([68,73,65,76,79,71,85,69]:Y_),([83,79,85,78,68]:Y_),([84,73,84,76,69]:Y_),([77,85,83,73,67]:Y_)]:List Y_)
def PD:List PK:=[.k (.v (.u8) [])]
def PE:List Kd:=[.v (.str) []]
def q27(N:Nat) (x:UInt8):Option Y_ :=
 cnd (ilt (n8 x) (n8 1))
  (some ([]:Y_))
  (cnd (ilt (n8 4) (n8 x))
   (some ([]:Y_))
   (bnd (q26 N ()) fun v0 =>
   grd (inb (n8 (b8 (aH (n8 x) (n8 1)))) (len v0)) <|
   some (aA v0 (toN (n8 (b8 (aH (n8 x) (n8 1))))) [])))
def P0:List PK:=[.k (.v (.st (.pair (.u8) (.pair (.bool) (.bool)))) [])]
def P1:List Kd:=[.v (.bool) []]
def q28(N:Nat) (x:UInt8×Bool×Bool):Option (Bool) :=
 some (ile (n8 x.1) (n8 6))
def P2:List PK:=[.k (.v Y5 []),.k (.v Y5 [])]
def P3:List Kd:=[.v (.bool) []]
def q29(N:Nat) (x:D5×Y_×(UInt8×Bool×Bool)×Y_):Option (Bool) :=
 cnd (cY (ieq (n8 x.1.2.1.1) (n8 x.2.2.1.1)) (cY (oV x.1.2.1.2.1 x.2.2.1.2.1) (oV x.1.2.1.2.2 x.2.2.1.2.2)))
  (cnd (seq x.1.2.2 ([]:Y_))
   (some (seq x.2.2.2 ([]:Y_)))
   (some false))
  (some false)
def P4:List PK:=[.k (.v (.st (.slice Y5)) [])]
def P5:List Kd:=[.v (.int .i64) []]
def q30(N:Nat) (x:List D5):Option (Int) :=
 cnd (ilt 16 (len x))
  (some 9)
  (jn (fun (v0:Unit) =>
   some 0)
  fun v1 =>
  aY (fun v2 (v3:Int) =>
   cnd (ilt v3 (len x))
    (grd (inb v3 (len x))
     (bnd (q13 N (aA x (toN v3) zU).1) fun v4 =>
     cnd (bA v4)
      (some 10)
      (cnd (seq (aA x (toN v3) zU).1 ([]:Y_))
       (some 4)
       (bnd (q28 N (aA x (toN v3) zU).2.1) fun v5 =>
       cnd (bA v5)
        (some 12)
        (bnd (q13 N (aA x (toN v3) zU).2.2) fun v6 =>
        cnd (bA v6)
         (some 10)
         (cnd (ilt 0 v3)
          (grd (inb (w64 (aH v3 1)) (len x))
           (bnd (q29 N (aA x (toN (w64 (aH v3 1))) zU,aA x (toN v3) zU)) fun v7 =>
           cnd v7
            (some 8)
            (v2 (w64 (aE v3 1)))))
          (v2 (w64 (aE v3 1)))))))))
    (v1 ())) N 0)
def cO:List PK:=[.k (.b 131 Y11 [1])]
def cP:List Kd:=[]
def bQ(N:Nat) (x:Unit×Y_):Option (Unit×Y_):=cK N x
def IE:List PK:=[.k (.b 131 Y11 [1]),.k (.v (.str) [])]
def IF:List Kd:=[.v (.int .i64) [],.v (.nif) []]
def q31(N:Nat) (x:(Unit×Y_)×Y_):Option (Int×Bool×Unit×Y_) :=
 bnd (bQ N ((),x.1.2)) fun v0 =>
 grd (cL (aE (len v0.2) (len x.2)) 1) <|
 some (len x.2,false,(),bL v0.2 x.2)
def P6:List PK:=[.k (.v (.st (.slice Y5)) [])]
def P7:List Kd:=[.v (.str) []]
def q32(N:Nat) (x:List D5):Option Y_ :=
 jn (fun (v0:Unit×Y_) =>
  some v0.2)
 fun v1 =>
 aY (fun v2 (v3:Int×Unit×Y_) =>
  cnd (ilt v3.1 (len x))
   (grd (inb v3.1 (len x))
    (bnd (q31 N (((),v3.2.2),(aA x (toN v3.1) zU).1)) fun v4 =>
    v2 (w64 (aE v3.1 1),(),v4.2.2.2)))
   (v1 ((),v3.2.2))) N (0,(),([]:Y_))
def eE:List PK:=[.k (.v (.str) []),.k (.v (.str) [])]
def eF:List Kd:=[.v (.bool) []]
def strings_Contains(N:Nat) (x:Y_×Y_):Option (Bool):=fR N x
def PF:List PK:=[.k (.v (.str) [])]
def PG:List Kd:=[.v (.int .i64) []]
def q33(N:Nat) (x:Y_):Option (Int) :=
 jn (fun (v0:Int) =>
  some v0)
 fun v1 =>
 aY (fun v2 (v3:Int×Y_×Int) =>
  cnd (nlt (toN v3.2.2) (gE v3.2.1))
   (v2 (w64 (aE v3.1 1),v3.2.1,ofN (nR (toN v3.2.2) (vN v3.2.1 (toN v3.2.2)))))
   (v1 v3.1)) N (0,x,ofN 0)
def P8:List PK:=[.k (.v (.str) [])]
def P9:List Kd:=[.v (.int .i64) []]
def q34(N:Nat) (x:Y_):Option (Int) :=
 bnd (q13 N x) fun v0 =>
 cnd (bA v0)
  (some (-1))
  (bnd (q33 N x) fun v1 =>
  some v1)
def PH:List PK:=[.k (.v (.st (.slice Y5)) [])]
def PI:List Kd:=[.v (.int .i64) []]
def q35(N:Nat) (x:List D5):Option (Int) :=
 jn (fun (v0:Int) =>
  some v0)
 fun v1 =>
 aY (fun v2 (v3:Int×Int) =>
  cnd (ilt v3.2 (len x))
   (grd (inb v3.2 (len x))
    (bnd (q34 N (aA x (toN v3.2) zU).1) fun v4 =>
    cnd (ilt v4 0)
     (some (-1))
     (v2 (w64 (aE v3.1 v4),w64 (aE v3.2 1)))))
   (v1 v3.1)) N (0,0)
def Q0:List PK:=[.k (.v (.st (.slice Y5)) [])]
def Q1:List Kd:=[.v (.int .i64) []]
def q36(N:Nat) (x:List D5):Option (Int) :=
 bnd (q30 N x) fun v0 =>
 cnd (ine v0 0)
  (some v0)
  (bnd (q32 N x) fun v1 =>
  cnd (seq v1 ([]:Y_))
   (some 4)
   (grd (inb 0 (len v1))
    (cnd (ieq (n8 (aA v1 (toN 0) 0)) (n8 32))
     (some 4)
     (grd (inb (w64 (aH (len v1) 1)) (len v1))
      (cnd (ieq (n8 (aA v1 (toN (w64 (aH (len v1) 1))) 0)) (n8 32))
       (some 4)
       (bnd (strings_Contains N (v1,([32,32]:Y_))) fun v2 =>
       cnd v2
        (some 4)
        (bnd (q35 N x) fun v3 =>
        cnd (ilt 32 v3)
         (some 11)
         (some 0))))))))
def PJ:List PK:=[.k (.v (.st Y3) [])]
def PL:List Kd:=[.v (.slice (.int .i64)) [0]]
def q37(N:Nat) (x:D2):Option (List Int) :=
 jn (fun (v0:List Int) =>
  some v0)
 fun v1 =>
 aY (fun v2 (v3:(List Int)×Int) =>
  cnd (ilt v3.2 (len x.2.2.2.2.2))
   (grd (inb v3.2 (len x.2.2.2.2.2))
    (bnd (q35 N (aA x.2.2.2.2.2 (toN v3.2) [])) fun v4 =>
    grd (cL (aE (len v3.1) (len ([v4]:List Int))) 8) <|
    v2 (bL v3.1 ([v4]:List Int),w64 (aE v3.2 1))))
   (v1 v3.1)) N (([]:List Int),0)
def Q2:List PK:=[.k (.v Y4 [])]
def Q3:List Kd:=[.v (.bool) []]
def q38(N:Nat) (x:D3):Option (Bool) :=
 bnd (q23 N ()) fun v0 =>
 cnd (cY (seq x.1 v0.1) (cY (ieq x.2.1 v0.2.1) (cY (ieq x.2.2.1 v0.2.2.1) (cY (ieq x.2.2.2.1 v0.2.2.2.1) (cY (ieq x.2.2.2.2.1 v0.2.2.2.2.1) (cY (ieq (n8 x.2.2.2.2.2.1) (n8 v0.2.2.2.2.2.1)) (oV x.2.2.2.2.2.2 v0.2.2.2.2.2.2)))))))
  (some true)
  (bnd (q21 N x) fun v1 =>
  some (ieq v1 0))
def Q4:List PK:=[.k (.v Y4 []),.k (.v (.slice (.int .i64)) [])]
def Q5:List Kd:=[.v (.slice Y6) [0],.v (.int .i64) []]
def q39(N:Nat) (x:D3×List Int):Option ((List D8)×Int) :=
 bnd (q38 N x.1) fun v0 =>
 cnd (bA v0)
  (some (([]:List D8),1))
  (cnd (ilt x.1.2.2.1 (len x.2))
   (some (([]:List D8),9))
   (jn (fun (v1:Int) =>
    jn (fun (v2:List D8) =>
     some (v2,0))
    fun v3 =>
    aY (fun v4 (v5:(List D8)×Int) =>
     cnd (ilt v5.2 (len x.2))
      (grd (inb v5.2 (len x.2))
       (cnd (ilt (aA x.2 (toN v5.2) 0) 0)
        (some (([]:List D8),2))
        (cnd (ilt x.1.2.2.2.2.1 (aA x.2 (toN v5.2) 0))
         (some (([]:List D8),11))
         (cnd (ieq (n8 x.1.2.2.2.2.2.1) (n8 3))
          (grd (cL (aE (len v5.1) (len ([(w64 (aE v1 v5.2),w64 (aE x.1.2.2.2.1 (w64 (aH x.1.2.2.2.2.1 (aA x.2 (toN v5.2) 0)))),aA x.2 (toN v5.2) 0)]:List D8))) 24)
           (v4 (bL v5.1 ([(w64 (aE v1 v5.2),w64 (aE x.1.2.2.2.1 (w64 (aH x.1.2.2.2.2.1 (aA x.2 (toN v5.2) 0)))),aA x.2 (toN v5.2) 0)]:List D8),w64 (aE v5.2 1))))
          (cnd (ieq (n8 x.1.2.2.2.2.2.1) (n8 2))
           (grd (cL (aE (len v5.1) (len ([(w64 (aE v1 v5.2),w64 (aE x.1.2.2.2.1 (w64 (YJ (w64 (aH x.1.2.2.2.2.1 (aA x.2 (toN v5.2) 0))) 2))),aA x.2 (toN v5.2) 0)]:List D8))) 24)
            (v4 (bL v5.1 ([(w64 (aE v1 v5.2),w64 (aE x.1.2.2.2.1 (w64 (YJ (w64 (aH x.1.2.2.2.2.1 (aA x.2 (toN v5.2) 0))) 2))),aA x.2 (toN v5.2) 0)]:List D8),w64 (aE v5.2 1))))
           (grd (cL (aE (len v5.1) (len ([(w64 (aE v1 v5.2),x.1.2.2.2.1,aA x.2 (toN v5.2) 0)]:List D8))) 24)
            (v4 (bL v5.1 ([(w64 (aE v1 v5.2),x.1.2.2.2.1,aA x.2 (toN v5.2) 0)]:List D8),w64 (aE v5.2 1)))))))))
      (v3 v5.1)) N (([]:List D8),0))
   fun v6 =>
   cnd x.1.2.2.2.2.2.2
    (v6 (w64 (aE x.1.2.1 (w64 (aH x.1.2.2.1 (len x.2))))))
    (v6 x.1.2.1)))
def Q6:List PK:=[.k (.v (.st Y3) []),.k (.v (.slice Y4) [])]
def Q7:List Kd:=[.v (.int .i64) []]
def q40(N:Nat) (x:D2×List D3):Option (Int) :=
 bnd (q24 N (x.2,x.1.2.2.1)) fun v0 =>
 cnd (ilt x.1.1 1)
  (some 2)
  (cnd (ilt 1099511627776 x.1.1)
   (some 2)
   (bnd (q25 N x.1.2.1) fun v1 =>
   cnd (bA v1)
    (some 2)
    (cnd (bA v0.2)
     (some 6)
     (bnd (q27 N x.1.2.2.2.1) fun v2 =>
     cnd (seq v2 ([]:Y_))
      (some 3)
      (jn (fun (v3:Bool) =>
       cnd v3
        (some 5)
        (cnd (ieq (len x.1.2.2.2.2.2) 0)
         (some 9)
         (cnd (ilt 4 (len x.1.2.2.2.2.2))
          (some 9)
          (jn (fun (v4:Unit) =>
           bnd (q37 N x.1) fun v5 =>
           bnd (q39 N (v0.1,v5)) fun v6 =>
           some v6.2)
          fun v7 =>
          aY (fun v8 (v9:Int) =>
           cnd (ilt v9 (len x.1.2.2.2.2.2))
            (grd (inb v9 (len x.1.2.2.2.2.2))
             (bnd (q36 N (aA x.1.2.2.2.2.2 (toN v9) [])) fun v10 =>
             cnd (ine v10 0)
              (some v10)
              (v8 (w64 (aE v9 1)))))
            (v7 ())) N 0))))
      fun v11 =>
      cnd (sne x.1.2.2.2.2.1 ([]:Y_))
       (bnd (q14 N x.1.2.2.2.2.1) fun v12 =>
       v11 (bA v12))
       (v11 false))))))
def Q8:List PK:=[.k (.v (.int .i64) [])]
def Q9:List Kd:=[.v (.bool) []]
def q41(N:Nat) (x:Int):Option (Bool) :=
 some (ine x x)
def R0:List PK:=[.k (.v (.int .i64) []),.k (.v (.int .i64) [])]
def R1:List Kd:=[.v (.int .i64) []]
def q42(N:Nat) (x:Int×Int):Option (Int) :=
 bnd (q41 N x.1) fun v0 =>
 bnd (q41 N x.2) fun v1 =>
 cnd v0
  (cnd v1
   (some 0)
   (some (-1)))
  (cnd v1
   (some 1)
   (cnd (ilt x.1 x.2)
    (some (-1))
    (cnd (ilt x.2 x.1)
     (some 1)
     (some 0))))
def R2:List PK:=[.k (.v (.slice (.int .i64)) [])]
def R3:List Kd:=[.v (.int .i64) []]
def q43(N:Nat) (x:List Int):Option (Int) :=
 jn (fun (v0:Unit) =>
  some 0)
 fun v1 =>
 aY (fun v2 (v3:Int) =>
  cnd (ilt v3 (len x))
   (grd (inb v3 (len x))
    (cnd (ine (aA x (toN v3) 0) 0)
     (some (aA x (toN v3) 0))
     (v2 (w64 (aE v3 1)))))
   (v1 ())) N 0
def R4:List PK:=[.k (.v (.st Y3) []),.k (.v (.st Y3) [])]
def R5:List Kd:=[.v (.bool) []]
def q44(N:Nat) (x:D2×Int×(Int×Int)×Y_×UInt8×Y_×List (List D5)):Option (Bool) :=
 bnd (q42 N (x.1.2.1.1,x.2.2.1.1)) fun v0 =>
 bnd (q42 N (x.1.1,x.2.1)) fun v1 =>
 bnd (q43 N ([v0,v1]:List Int)) fun v2 =>
 some (ilt v2 0)
def R6:List PK:=[.k (.v (.st Y3) [])]
def R7:List Kd:=[.v (.int .i64) []]
def q45(N:Nat) (x:D2):Option (Int) :=
 jn (fun (v0:Int) =>
  some v0)
 fun v1 =>
 bnd (q37 N x) fun v2 =>
 aY (fun v3 (v4:Int×Int) =>
  cnd (ilt v4.2 (len v2))
   (grd (inb v4.2 (len v2))
    (cnd (ilt (aA v2 (toN v4.2) 0) 0)
     (some (-1))
     (v3 (w64 (aE v4.1 (aA v2 (toN v4.2) 0)),w64 (aE v4.2 1)))))
   (v1 v4.1)) N (YK (w64 (aH (len x.2.2.2.2.2) 1)) 0,0)
def R8:List PK:=[.k (.v Y1 []),.k (.v Y8 []),.k (.m (.int .i64) (.int .i64))]
def R9:List Kd:=[.v (.int .i64) []]
def q46(N:Nat) (x:D7×D4×List (Int×Int)):Option (Int×List (Int×Int)) :=
 cnd (ilt x.2.1.2.1 1)
  (some (2,x.2.2))
  (cnd (ilt x.1.2.2.2.2.1 x.2.1.2.1)
   (some (2,x.2.2))
   (cnd x.2.1.2.2.2.2.2.2.2
    (cnd (ine x.2.1.2.2.1 0)
     (some (2,x.2.2))
     (cnd (ine x.2.1.2.2.2.1 0)
      (some (2,x.2.2))
      (some (0,x.2.2))))
    (cnd (bA (kE ieq x.2.2 x.2.1.2.1))
     (some (6,x.2.2))
     (cnd (ilt x.2.1.2.2.1 0)
      (some (2,x.2.2))
      (cnd (ile x.2.1.2.2.2.1 x.2.1.2.2.1)
       (some (2,x.2.2))
       (grd (inb (oW ieq 0 x.2.2 x.2.1.2.1) (len x.1.2.2.2.2.2.2.1))
        (bnd (q45 N (aA x.1.2.2.2.2.2.2.1 (toN (oW ieq 0 x.2.2 x.2.1.2.1)) zE)) fun v0 =>
        cnd (ilt v0 x.2.1.2.2.2.1)
         (some (2,x.2.2))
         (some (0,x.2.2)))))))))
def S1:List PK:=[.k (.v Y1 []),.k (.m (.int .i64) (.int .i64))]
def S2:List Kd:=[.v (.int .i64) []]
def q47(N:Nat) (x:D7×List (Int×Int)):Option (Int×List (Int×Int)) :=
 cnd (ilt 64 (len x.1.2.2.2.2.2.2.2))
  (some (9,x.2))
  (jn (fun (v0:List (Int×Int)) =>
   some (0,v0))
  fun v1 =>
  aY (fun v2 (v3:Int×List (Int×Int)) =>
   cnd (ilt v3.1 (len x.1.2.2.2.2.2.2.2))
    (grd (inb v3.1 (len x.1.2.2.2.2.2.2.2))
     (jn (fun (v4:Unit) =>
      bnd (q46 N (x.1,aA x.1.2.2.2.2.2.2.2 (toN v3.1) zC,v3.2)) fun v5 =>
      cnd (ine v5.1 0)
       (some v5)
       (bnd (q14 N (aA x.1.2.2.2.2.2.2.2 (toN v3.1) zC).2.2.2.2.1) fun v6 =>
       cnd (bA v6)
        (some (5,v5.2))
        (bnd (q13 N (aA x.1.2.2.2.2.2.2.2 (toN v3.1) zC).2.2.2.2.2.1) fun v7 =>
        cnd (bA v7)
         (some (10,v5.2))
         (cnd (seq (aA x.1.2.2.2.2.2.2.2 (toN v3.1) zC).2.2.2.2.2.1 ([]:Y_))
          (some (4,v5.2))
          (cnd (ilt 400 (len (aA x.1.2.2.2.2.2.2.2 (toN v3.1) zC).2.2.2.2.2.1))
           (some (9,v5.2))
           (v2 (w64 (aE v3.1 1),v5.2)))))))
     fun v8 =>
     cnd (ilt (aA x.1.2.2.2.2.2.2.2 (toN v3.1) zC).1 1)
      (some (2,v3.2))
      (cnd (ilt x.1.2.2.2.2.1 (aA x.1.2.2.2.2.2.2.2 (toN v3.1) zC).1)
       (some (2,v3.2))
       (cnd (ilt 0 v3.1)
        (grd (inb (w64 (aH v3.1 1)) (len x.1.2.2.2.2.2.2.2))
         (cnd (ile (aA x.1.2.2.2.2.2.2.2 (toN v3.1) zC).1 (aA x.1.2.2.2.2.2.2.2 (toN (w64 (aH v3.1 1))) zC).1)
          (some (8,v3.2))
          (cnd (kE ieq v3.2 (aA x.1.2.2.2.2.2.2.2 (toN v3.1) zC).1)
           (some (7,v3.2))
           (v8 ()))))
        (cnd (kE ieq v3.2 (aA x.1.2.2.2.2.2.2.2 (toN v3.1) zC).1)
         (some (7,v3.2))
         (v8 ()))))))
    (v1 v3.2)) N (0,x.2))
def PM:List PK:=[.k (.v Y1 [])]
def PN:List Kd:=[.v (.int .i64) []]
def q48(N:Nat) (x:D7):Option (Int) :=
 bnd (q19 N x) fun v0 =>
 cnd (ine v0 0)
  (some v0)
  (bnd (q22 N x.2.2.2.2.2.1) fun v1 =>
  cnd (ine v1 0)
   (some v1)
   (cnd (ilt 400 (len x.2.2.2.2.2.2.1))
    (some 9)
    (jn (fun (v2:List (Int×Int)) =>
     bnd (q47 N (x,v2)) fun v3 =>
     some v3.1)
    fun v4 =>
    aY (fun v5 (v6:Int×List (Int×Int)) =>
     cnd (ilt v6.1 (len x.2.2.2.2.2.2.1))
      (grd (inb v6.1 (len x.2.2.2.2.2.2.1))
       (bnd (q40 N (aA x.2.2.2.2.2.2.1 (toN v6.1) zE,x.2.2.2.2.2.1)) fun v7 =>
       cnd (ine v7 0)
        (some v7)
        (cnd (ilt x.2.2.2.2.1 (aA x.2.2.2.2.2.2.1 (toN v6.1) zE).1)
         (some 2)
         (cnd (ilt 0 v6.1)
          (grd (inb (w64 (aH v6.1 1)) (len x.2.2.2.2.2.2.1))
           (bnd (q44 N (aA x.2.2.2.2.2.2.1 (toN (w64 (aH v6.1 1))) zE,aA x.2.2.2.2.2.2.1 (toN v6.1) zE)) fun v8 =>
           cnd (bA v8)
            (some 8)
            (cnd (kE ieq v6.2 (aA x.2.2.2.2.2.2.1 (toN v6.1) zE).1)
             (some 7)
             (v5 (w64 (aE v6.1 1),rJ ieq v6.2 (aA x.2.2.2.2.2.2.1 (toN v6.1) zE).1 v6.1)))))
          (cnd (kE ieq v6.2 (aA x.2.2.2.2.2.2.1 (toN v6.1) zE).1)
           (some 7)
           (v5 (w64 (aE v6.1 1),rJ ieq v6.2 (aA x.2.2.2.2.2.2.1 (toN v6.1) zE).1 v6.1)))))))
      (v4 v6.2)) N (0,([]:List (Int×Int))))))
def PO:List PK:=[.k (.v (.u8) [])]
def PP:List Kd:=[.v (.str) []]
def q49(N:Nat) (x:UInt8):Option Y_ :=
 bnd (q15 N x) fun v0 =>
 some v0.1
def S3:List PK:=[.k (.v (.str) []),.k (.v (.bool) [])]
def S4:List Kd:=[.v (.st (.pair (.str) (.str))) []]
def q50(N:Nat) (x:Y_×Bool):Option D6 :=
 cnd x.2
  (some (x.1,([49]:Y_)))
  (some (x.1,([]:Y_)))
def fS:List PK:=[.k (.v (.int .i64) []),.k (.v (.int .i64) [])]
def fT:List Kd:=[.v (.str) []]
def eW(N:Nat) (x:Int×Int):Option Y_:=iW N x
def S5:List PK:=[.k (.v (.int .i64) []),.k (.v (.int .i64) [])]
def S6:List Kd:=[.v (.str) []]
def q51(N:Nat) (x:Int×Int):Option Y_ :=
 bnd (eW N x) fun v0 =>
 some v0
def PQ:List PK:=[.k (.v (.int .i64) [])]
def PR:List Kd:=[.v (.str) []]
def q52(N:Nat) (x:Int):Option Y_ :=
 bnd (q51 N (x,10)) fun v0 =>
 some v0
def S7:List PK:=[.k (.v (.str) []),.k (.v (.int .i64) [])]
def S8:List Kd:=[.v (.st (.pair (.str) (.str))) []]
def q53(N:Nat) (x:Y_×Int):Option D6 :=
 bnd (q52 N x.2) fun v0 =>
 some (x.1,v0)
def S9:List PK:=[.k (.b 77 (.slice Y2) [0]),.k (.v (.int .i64) []),.k (.v (.str) []),.k (.v (.slice (.st (.pair (.str) (.str)))) [])]
def T0:List Kd:=[]
def q54(N:Nat) (x:(List D1)×Int×Y_×List D6):Option (List D1) :=
 jn (fun (v0:D1) =>
  grd (cL (aE (len x.1) (len ([v0]:List D1))) 64) <|
  some (bL x.1 ([v0]:List D1)))
 fun v1 =>
 aY (fun v2 (v3:Int×Y_×Y_×(List D6)×Int) =>
  cnd (ilt v3.1 (len x.2.2.2))
   (grd (inb v3.1 (len x.2.2.2))
    (cnd (sne (aA x.2.2.2 (toN v3.1) ([],[])).2 ([]:Y_))
     (grd (cL (aE (len v3.2.2.2.1) (len ([aA x.2.2.2 (toN v3.1) ([],[])]:List D6))) 32)
      (v2 (w64 (aE v3.1 1),v3.2.1,v3.2.2.1,bL v3.2.2.2.1 ([aA x.2.2.2 (toN v3.1) ([],[])]:List D6),v3.2.2.2.2)))
     (v2 (w64 (aE v3.1 1),v3.2))))
   (v1 v3.2)) N (0,x.2.2.1,([]:Y_),([]:List D6),x.2.1)
def T7:List PK:=[.k (.v Y1 [])]
def T8:List Kd:=[.v (.slice Y2) [0],.v (.int .i64) []]
def q55(N:Nat) (x:D7):Option ((List D1)×Int) :=
 bnd (q48 N x) fun v0 =>
 cnd (ine v0 0)
  (some (([]:List D1),v0))
  (bnd (q49 N x.2.2.1) fun v1 =>
  bnd (q50 N (([100,114,111,112]:Y_),x.2.2.2.1)) fun v2 =>
  bnd (q53 N (([108,97,115,116]:Y_),x.2.2.2.2.1)) fun v3 =>
  bnd (q54 N (([]:List D1),0,([116,116]:Y_),([(([116,105,116,108,101]:Y_),x.1),(([108,97,110,103]:Y_),x.2.1),(([114,97,116,101]:Y_),v1),v2,v3]:List D6))) fun v4 =>
  jn (fun (v5:List D1) =>
   jn (fun (v6:List D1) =>
    cnd (ilt 8192 (len v6))
     (some (([]:List D1),9))
     (some (v6,0)))
   fun v7 =>
   aY (fun v8 (v9:Int×List D1) =>
    cnd (ilt v9.1 (len x.2.2.2.2.2.2.1))
     (jn (fun (v10:List D1) =>
      v8 (w64 (aE v9.1 1),v10))
     fun v11 =>
     grd (inb v9.1 (len x.2.2.2.2.2.2.1)) <|
     bnd (q53 N (([105,100]:Y_),(aA x.2.2.2.2.2.2.1 (toN v9.1) zE).1)) fun v12 =>
     bnd (q52 N (aA x.2.2.2.2.2.2.1 (toN v9.1) zE).2.1.1) fun v13 =>
     grd (dQ (aE (len v13) (len ([102]:Y_)))) <|
     bnd (q52 N (aA x.2.2.2.2.2.2.1 (toN v9.1) zE).2.1.2) fun v14 =>
     grd (dQ (aE (len v14) (len ([102]:Y_)))) <|
     bnd (q27 N (aA x.2.2.2.2.2.2.1 (toN v9.1) zE).2.2.2.1) fun v15 =>
     bnd (q54 N (v9.2,1,([112]:Y_),([v12,(([105,110]:Y_),bL v13 ([102]:Y_)),(([111,117,116]:Y_),bL v14 ([102]:Y_)),(([114,101,103,105,111,110]:Y_),(aA x.2.2.2.2.2.2.1 (toN v9.1) zE).2.2.1),(([107,105,110,100]:Y_),v15),(([115,112,101,97,107,101,114]:Y_),(aA x.2.2.2.2.2.2.1 (toN v9.1) zE).2.2.2.2.1)]:List D6))) fun v16 =>
     aY (fun v17 (v18:Int×List D1) =>
      cnd (ilt v18.1 (len (aA x.2.2.2.2.2.2.1 (toN v9.1) zE).2.2.2.2.2))
       (jn (fun (v19:List D1) =>
        v17 (w64 (aE v18.1 1),v19))
       fun v20 =>
       grd (inb v18.1 (len (aA x.2.2.2.2.2.2.1 (toN v9.1) zE).2.2.2.2.2)) <|
       bnd (q54 N (v18.2,2,([114,111,119]:Y_),([]:List D6))) fun v21 =>
       aY (fun v22 (v23:Int×List D1) =>
        cnd (ilt v23.1 (len (aA (aA x.2.2.2.2.2.2.1 (toN v9.1) zE).2.2.2.2.2 (toN v18.1) [])))
         (grd (inb v23.1 (len (aA (aA x.2.2.2.2.2.2.1 (toN v9.1) zE).2.2.2.2.2 (toN v18.1) [])))
          (jn (fun (v24:Y_) =>
           bnd (q50 N (([105,116,97,108,105,99]:Y_),(aA (aA (aA x.2.2.2.2.2.2.1 (toN v9.1) zE).2.2.2.2.2 (toN v18.1) []) (toN v23.1) zU).2.1.2.1)) fun v25 =>
           bnd (q50 N (([117,110,100,101,114,108,105,110,101]:Y_),(aA (aA (aA x.2.2.2.2.2.2.1 (toN v9.1) zE).2.2.2.2.2 (toN v18.1) []) (toN v23.1) zU).2.1.2.2)) fun v26 =>
           bnd (q54 N (v23.2,3,([114,117,110]:Y_),([(([99,111,108,111,114]:Y_),v24),v25,v26,(([114,117,98,121]:Y_),(aA (aA (aA x.2.2.2.2.2.2.1 (toN v9.1) zE).2.2.2.2.2 (toN v18.1) []) (toN v23.1) zU).2.2)]:List D6))) fun v27 =>
           grd (cL (aE (len v27) (len ([(([]:Y_),(aA (aA (aA x.2.2.2.2.2.2.1 (toN v9.1) zE).2.2.2.2.2 (toN v18.1) []) (toN v23.1) zU).1,([]:List D6),4)]:List D1))) 64) <|
           v22 (w64 (aE v23.1 1),bL v27 ([(([]:Y_),(aA (aA (aA x.2.2.2.2.2.2.1 (toN v9.1) zE).2.2.2.2.2 (toN v18.1) []) (toN v23.1) zU).1,([]:List D6),4)]:List D1)))
          fun v28 =>
          cnd (ine (n8 (aA (aA (aA x.2.2.2.2.2.2.1 (toN v9.1) zE).2.2.2.2.2 (toN v18.1) []) (toN v23.1) zU).2.1.1) (n8 0))
           (grd (inb (n8 (aA (aA (aA x.2.2.2.2.2.2.1 (toN v9.1) zE).2.2.2.2.2 (toN v18.1) []) (toN v23.1) zU).2.1.1) (ofN 7))
            (v28 (aA gl1 (toN (n8 (aA (aA (aA x.2.2.2.2.2.2.1 (toN v9.1) zE).2.2.2.2.2 (toN v18.1) []) (toN v23.1) zU).2.1.1)) [])))
           (v28 ([]:Y_))))
         (v20 v23.2)) N (0,v21))
       (v11 v18.2)) N (0,v16))
     (v7 v9.2)) N (0,v5))
  fun v29 =>
  aY (fun v30 (v31:Int×List D1) =>
   cnd (ilt v31.1 (len x.2.2.2.2.2.1))
    (grd (inb v31.1 (len x.2.2.2.2.2.1))
     (jn (fun (v32:Y_) =>
      bnd (q53 N (([116,111,112]:Y_),(aA x.2.2.2.2.2.1 (toN v31.1) zG).2.1)) fun v33 =>
      bnd (q53 N (([104,101,105,103,104,116]:Y_),(aA x.2.2.2.2.2.1 (toN v31.1) zG).2.2.1)) fun v34 =>
      bnd (q53 N (([108,101,102,116]:Y_),(aA x.2.2.2.2.2.1 (toN v31.1) zG).2.2.2.1)) fun v35 =>
      bnd (q53 N (([119,105,100,116,104]:Y_),(aA x.2.2.2.2.2.1 (toN v31.1) zG).2.2.2.2.1)) fun v36 =>
      grd (inb (n8 (b8 (aH (n8 (aA x.2.2.2.2.2.1 (toN v31.1) zG).2.2.2.2.2.1) (n8 1)))) (ofN 3)) <|
      bnd (q54 N (v31.2,1,([114,101,103,105,111,110]:Y_),([(([110,97,109,101]:Y_),(aA x.2.2.2.2.2.1 (toN v31.1) zG).1),v33,v34,v35,v36,(([97,108,105,103,110]:Y_),aA gl0 (toN (n8 (b8 (aH (n8 (aA x.2.2.2.2.2.1 (toN v31.1) zG).2.2.2.2.2.1) (n8 1))))) []),(([97,110,99,104,111,114]:Y_),v32)]:List D6))) fun v37 =>
      v30 (w64 (aE v31.1 1),v37))
     fun v38 =>
     cnd (aA x.2.2.2.2.2.1 (toN v31.1) zG).2.2.2.2.2.2
      (v38 ([66,79,84,84,79,77]:Y_))
      (v38 ([84,79,80]:Y_))))
    (v29 v31.2)) N (0,v4))
def T9:List PK:=[.k (.v (.slice Y2) []),.k (.v (.int .i64) [])]
def U0:List Kd:=[.v (.int .i64) []]
def q56(N:Nat) (x:(List D1)×Int):Option (Int) :=
 grd (inb x.2 (len x.1)) <|
 cnd (ieq x.2 0)
  (cnd (ine (aA x.1 (toN x.2) zN).2.2.2 0)
   (some 8)
   (some 0))
  (grd (inb (w64 (aH x.2 1)) (len x.1))
   (jn (fun (v0:Int) =>
    cnd (ilt (aA x.1 (toN x.2) zN).2.2.2 1)
     (some 8)
     (cnd (ilt v0 (aA x.1 (toN x.2) zN).2.2.2)
      (some 8)
      (cnd (ilt 15 (aA x.1 (toN x.2) zN).2.2.2)
       (some 9)
       (some 0))))
   fun v1 =>
   grd (inb (w64 (aH x.2 1)) (len x.1)) <|
   cnd (sne (aA x.1 (toN (w64 (aH x.2 1))) zN).1 ([]:Y_))
    (v1 (w64 (aE (aA x.1 (toN (w64 (aH x.2 1))) zN).2.2.2 1)))
    (v1 (aA x.1 (toN (w64 (aH x.2 1))) zN).2.2.2)))
def IG:List PK:=[.k (.v (.u8) [])]
def IH:List Kd:=[.v (.bool) []]
def q57(N:Nat) (x:UInt8):Option (Bool) :=
 cnd (ile (n8 97) (n8 x))
  (cnd (ile (n8 x) (n8 122))
   (some true)
   (cnd (ile (n8 65) (n8 x))
    (some (ile (n8 x) (n8 90)))
    (some false)))
  (cnd (ile (n8 65) (n8 x))
   (some (ile (n8 x) (n8 90)))
   (some false))
def PS:List PK:=[.k (.v (.u8) [])]
def PT:List Kd:=[.v (.bool) []]
def q58(N:Nat) (x:UInt8):Option (Bool) :=
 bnd (q57 N x) fun v0 =>
 cnd v0
  (some true)
  (cnd (ile (n8 48) (n8 x))
   (cnd (ile (n8 x) (n8 57))
    (some true)
    (some (ieq (n8 x) (n8 45))))
   (some (ieq (n8 x) (n8 45))))
def lC:List PK:=[.k (.v (.str) [])]
def lD:List Kd:=[.v (.bool) []]
def dW(N:Nat) (x:Y_):Option (Bool) :=
 cnd (ilt (len x) 1)
  (some false)
  (cnd (ilt 32 (len x))
   (some false)
   (grd (inb 0 (len x))
    (bnd (q57 N (aA x (toN 0) 0)) fun v0 =>
    cnd (bA v0)
     (some false)
     (jn (fun (v1:Unit) =>
      some true)
     fun v2 =>
     aY (fun v3 (v4:Int) =>
      cnd (ilt v4 (len x))
       (grd (inb v4 (len x))
        (bnd (q58 N (aA x (toN v4) 0)) fun v5 =>
        cnd (bA v5)
         (some false)
         (v3 (w64 (aE v4 1)))))
       (v2 ())) N 0))))
def U1:List PK:=[.k (.v Y2 [])]
def U2:List Kd:=[.v (.int .i64) []]
def q59(N:Nat) (x:D1):Option (Int) :=
 bnd (dW N x.1) fun v0 =>
 cnd (bA v0)
  (some 5)
  (cnd (sne x.2.1 ([]:Y_))
   (some 4)
   (cnd (ilt 16 (len x.2.2.1))
    (some 9)
    (jn (fun (v1:Unit) =>
     some 0)
    fun v2 =>
    aY (fun v3 (v4:Int×List (Y_×Bool)) =>
     cnd (ilt v4.1 (len x.2.2.1))
      (grd (inb v4.1 (len x.2.2.1))
       (bnd (dW N (aA x.2.2.1 (toN v4.1) ([],[])).1) fun v5 =>
       cnd (bA v5)
        (some 5)
        (cnd (oW seq false v4.2 (aA x.2.2.1 (toN v4.1) ([],[])).1)
         (some 7)
         (bnd (q13 N (aA x.2.2.1 (toN v4.1) ([],[])).2) fun v6 =>
         cnd (bA v6)
          (some 10)
          (v3 (w64 (aE v4.1 1),rJ seq v4.2 (aA x.2.2.1 (toN v4.1) ([],[])).1 true))))))
      (v2 ())) N (0,([]:List (Y_×Bool))))))
def U3:List PK:=[.k (.v (.slice Y2) []),.k (.v (.int .i64) [])]
def U4:List Kd:=[.v (.int .i64) []]
def q60(N:Nat) (x:(List D1)×Int):Option (Int) :=
 grd (inb x.2 (len x.1)) <|
 jn (fun (v0:Bool) =>
  cnd v0
   (some 8)
   (cnd (seq (aA x.1 (toN x.2) zN).2.1 ([]:Y_))
    (some 4)
    (cnd (ilt 0 (len (aA x.1 (toN x.2) zN).2.2.1))
     (some 4)
     (bnd (q13 N (aA x.1 (toN x.2) zN).2.1) fun v1 =>
     cnd (bA v1)
      (some 10)
      (some 0)))))
 fun v2 =>
 cnd (ieq x.2 0)
  (v2 true)
  (grd (inb (w64 (aH x.2 1)) (len x.1))
   (cnd (seq (aA x.1 (toN (w64 (aH x.2 1))) zN).1 ([]:Y_))
    (grd (inb (w64 (aH x.2 1)) (len x.1))
     (v2 (ieq (aA x.1 (toN (w64 (aH x.2 1))) zN).2.2.2 (aA x.1 (toN x.2) zN).2.2.2)))
    (v2 false)))
def PU:List PK:=[.k (.v (.slice Y2) [])]
def PV:List Kd:=[.v (.int .i64) []]
def q61(N:Nat) (x:List D1):Option (Int) :=
 cnd (ieq (len x) 0)
  (some 6)
  (cnd (ilt 8192 (len x))
   (some 9)
   (jn (fun (v0:Unit) =>
    some 0)
   fun v1 =>
   aY (fun v2 (v3:Int) =>
    cnd (ilt v3 (len x))
     (grd (inb v3 (len x))
      (bnd (q56 N (x,v3)) fun v4 =>
      cnd (ine v4 0)
       (some v4)
       (cnd (sne (aA x (toN v3) zN).1 ([]:Y_))
        (bnd (q59 N (aA x (toN v3) zN)) fun v5 =>
        cnd (ine v5 0)
         (some v5)
         (v2 (w64 (aE v3 1))))
        (bnd (q60 N (x,v3)) fun v6 =>
        cnd (ine v6 0)
         (some v6)
         (v2 (w64 (aE v3 1)))))))
     (v1 ())) N 0))
def iQ:List PK:=[.k (.v (.str) []),.k (.v (.str) []),.k (.v (.str) []),.k (.v (.int .i64) [])]
def iR:List Kd:=[.v (.str) []]
def strings_Replace(N:Nat) (x:Y_×Y_×Y_×Int):Option Y_:=lB N x
def U5:List PK:=[.k (.v (.str) []),.k (.v (.str) []),.k (.v (.str) [])]
def U6:List Kd:=[.v (.str) []]
def q62(N:Nat) (x:Y_×Y_×Y_):Option Y_ :=
 bnd (strings_Replace N (x.1,x.2.1,x.2.2,(-1))) fun v0 =>
 some v0
def U7:List PK:=[.k (.v (.str) [])]
def U8:List Kd:=[.v (.str) []]
def q63(N:Nat) (x:Y_):Option Y_ :=
 jn (fun (v0:Y_) =>
  some v0)
 fun v1 =>
 aY (fun v2 (v3:Y_×Int) =>
  cnd (ilt v3.2 5)
   (grd (inb v3.2 (ofN 5))
    (grd (ieq (len (aN 2 ([]:Y_))) (ofN 2))
     (grd (inb 1 (ofN 2))
      (grd (ilt 1 (len ([aA (aA ([([aA (aA gl2 0 (aN 2 [])) 0 [],aA (aA gl2 0 (aN 2 [])) 1 []]:List Y_),([aA (aA gl2 1 (aN 2 [])) 0 [],aA (aA gl2 1 (aN 2 [])) 1 []]:List Y_),([aA (aA gl2 2 (aN 2 [])) 0 [],aA (aA gl2 2 (aN 2 [])) 1 []]:List Y_),([aA (aA gl2 3 (aN 2 [])) 0 [],aA (aA gl2 3 (aN 2 [])) 1 []]:List Y_),([aA (aA gl2 4 (aN 2 [])) 0 [],aA (aA gl2 4 (aN 2 [])) 1 []]:List Y_)]:List (List Y_)) (toN v3.2) (aN 2 [])) 0 [],aA (aA ([([aA (aA gl2 0 (aN 2 [])) 0 [],aA (aA gl2 0 (aN 2 [])) 1 []]:List Y_),([aA (aA gl2 1 (aN 2 [])) 0 [],aA (aA gl2 1 (aN 2 [])) 1 []]:List Y_),([aA (aA gl2 2 (aN 2 [])) 0 [],aA (aA gl2 2 (aN 2 [])) 1 []]:List Y_),([aA (aA gl2 3 (aN 2 [])) 0 [],aA (aA gl2 3 (aN 2 [])) 1 []]:List Y_),([aA (aA gl2 4 (aN 2 [])) 0 [],aA (aA gl2 4 (aN 2 [])) 1 []]:List Y_)]:List (List Y_)) (toN v3.2) (aN 2 [])) 1 []]:List Y_)))
       (grd (inb 0 (ofN 2))
        (grd (ilt 0 (len ([aA (aA ([([aA (aA gl2 0 (aN 2 [])) 0 [],aA (aA gl2 0 (aN 2 [])) 1 []]:List Y_),([aA (aA gl2 1 (aN 2 [])) 0 [],aA (aA gl2 1 (aN 2 [])) 1 []]:List Y_),([aA (aA gl2 2 (aN 2 [])) 0 [],aA (aA gl2 2 (aN 2 [])) 1 []]:List Y_),([aA (aA gl2 3 (aN 2 [])) 0 [],aA (aA gl2 3 (aN 2 [])) 1 []]:List Y_),([aA (aA gl2 4 (aN 2 [])) 0 [],aA (aA gl2 4 (aN 2 [])) 1 []]:List Y_)]:List (List Y_)) (toN v3.2) (aN 2 [])) 0 [],aA (aA ([([aA (aA gl2 0 (aN 2 [])) 0 [],aA (aA gl2 0 (aN 2 [])) 1 []]:List Y_),([aA (aA gl2 1 (aN 2 [])) 0 [],aA (aA gl2 1 (aN 2 [])) 1 []]:List Y_),([aA (aA gl2 2 (aN 2 [])) 0 [],aA (aA gl2 2 (aN 2 [])) 1 []]:List Y_),([aA (aA gl2 3 (aN 2 [])) 0 [],aA (aA gl2 3 (aN 2 [])) 1 []]:List Y_),([aA (aA gl2 4 (aN 2 [])) 0 [],aA (aA gl2 4 (aN 2 [])) 1 []]:List Y_)]:List (List Y_)) (toN v3.2) (aN 2 [])) 1 []]:List Y_)))
         (bnd (q62 N (v3.1,aA ([aA (aA ([([aA (aA gl2 0 (aN 2 [])) 0 [],aA (aA gl2 0 (aN 2 [])) 1 []]:List Y_),([aA (aA gl2 1 (aN 2 [])) 0 [],aA (aA gl2 1 (aN 2 [])) 1 []]:List Y_),([aA (aA gl2 2 (aN 2 [])) 0 [],aA (aA gl2 2 (aN 2 [])) 1 []]:List Y_),([aA (aA gl2 3 (aN 2 [])) 0 [],aA (aA gl2 3 (aN 2 [])) 1 []]:List Y_),([aA (aA gl2 4 (aN 2 [])) 0 [],aA (aA gl2 4 (aN 2 [])) 1 []]:List Y_)]:List (List Y_)) (toN v3.2) (aN 2 [])) 0 [],aA (aA ([([aA (aA gl2 0 (aN 2 [])) 0 [],aA (aA gl2 0 (aN 2 [])) 1 []]:List Y_),([aA (aA gl2 1 (aN 2 [])) 0 [],aA (aA gl2 1 (aN 2 [])) 1 []]:List Y_),([aA (aA gl2 2 (aN 2 [])) 0 [],aA (aA gl2 2 (aN 2 [])) 1 []]:List Y_),([aA (aA gl2 3 (aN 2 [])) 0 [],aA (aA gl2 3 (aN 2 [])) 1 []]:List Y_),([aA (aA gl2 4 (aN 2 [])) 0 [],aA (aA gl2 4 (aN 2 [])) 1 []]:List Y_)]:List (List Y_)) (toN v3.2) (aN 2 [])) 1 []]:List Y_) (toN 1) [],aA ([aA (aA ([([aA (aA gl2 0 (aN 2 [])) 0 [],aA (aA gl2 0 (aN 2 [])) 1 []]:List Y_),([aA (aA gl2 1 (aN 2 [])) 0 [],aA (aA gl2 1 (aN 2 [])) 1 []]:List Y_),([aA (aA gl2 2 (aN 2 [])) 0 [],aA (aA gl2 2 (aN 2 [])) 1 []]:List Y_),([aA (aA gl2 3 (aN 2 [])) 0 [],aA (aA gl2 3 (aN 2 [])) 1 []]:List Y_),([aA (aA gl2 4 (aN 2 [])) 0 [],aA (aA gl2 4 (aN 2 [])) 1 []]:List Y_)]:List (List Y_)) (toN v3.2) (aN 2 [])) 0 [],aA (aA ([([aA (aA gl2 0 (aN 2 [])) 0 [],aA (aA gl2 0 (aN 2 [])) 1 []]:List Y_),([aA (aA gl2 1 (aN 2 [])) 0 [],aA (aA gl2 1 (aN 2 [])) 1 []]:List Y_),([aA (aA gl2 2 (aN 2 [])) 0 [],aA (aA gl2 2 (aN 2 [])) 1 []]:List Y_),([aA (aA gl2 3 (aN 2 [])) 0 [],aA (aA gl2 3 (aN 2 [])) 1 []]:List Y_),([aA (aA gl2 4 (aN 2 [])) 0 [],aA (aA gl2 4 (aN 2 [])) 1 []]:List Y_)]:List (List Y_)) (toN v3.2) (aN 2 [])) 1 []]:List Y_) (toN 0) [])) fun v4 =>
         v2 (v4,w64 (aE v3.2 1)))))))))
   (v1 v3.1)) N (x,0)
def U9:List PK:=[.k (.b 131 Y11 [1])]
def V1:List Kd:=[.v (.int .i64) []]
def q64(N:Nat) (x:Unit×Y_):Option (Int×Unit×Y_) :=
 some (len x.2,(),x.2)
def V2:List PK:=[.k (.v (.slice Y2) [])]
def V3:List Kd:=[.v (.str) [],.v (.int .i64) []]
def q65(N:Nat) (x:List D1):Option (Y_×Int) :=
 bnd (q61 N x) fun v0 =>
 cnd (ine v0 0)
  (some (([]:Y_),v0))
  (jn (fun (v1:(List Y_)×Unit×Y_) =>
   jn (fun (v2:Unit×Y_) =>
    bnd (q64 N ((),v2.2)) fun v3 =>
    cnd (ilt 262144 v3.1)
     (some (([]:Y_),9))
     (some (v3.2.2,0)))
   fun v4 =>
   aY (fun v5 (v6:Int×Unit×Y_) =>
    cnd (ile 0 v6.1)
     (grd (inb v6.1 (len v1.1))
      (grd (dQ (aE (len ([60,47]:Y_)) (len (aA v1.1 (toN v6.1) []))))
       (grd (dQ (aE (len (bL ([60,47]:Y_) (aA v1.1 (toN v6.1) []))) (len ([62]:Y_))))
        (bnd (q31 N (((),v6.2.2),bL (bL ([60,47]:Y_) (aA v1.1 (toN v6.1) [])) ([62]:Y_))) fun v7 =>
        v5 (w64 (aH v6.1 1),(),v7.2.2.2)))))
     (v4 ((),v6.2.2))) N (w64 (aH (len v1.1) 1),(),v1.2.2))
  fun v8 =>
  aY (fun v9 (v10:(List Y_)×Int×Unit×Y_) =>
   cnd (ilt v10.2.1 (len x))
    (jn (fun (v11:(List Y_)×Unit×Y_) =>
     v9 (v11.1,w64 (aE v10.2.1 1),(),v11.2.2))
    fun v12 =>
    grd (inb v10.2.1 (len x)) <|
    jn (fun (v13:(List Y_)×Unit×Y_) =>
     cnd (seq (aA x (toN v10.2.1) zN).1 ([]:Y_))
      (bnd (q63 N (aA x (toN v10.2.1) zN).2.1) fun v14 =>
      bnd (q31 N (((),v13.2.2),v14)) fun v15 =>
      v12 (v13.1,(),v15.2.2.2))
      (grd (dQ (aE (len ([60]:Y_)) (len (aA x (toN v10.2.1) zN).1)))
       (bnd (q31 N (((),v13.2.2),bL ([60]:Y_) (aA x (toN v10.2.1) zN).1)) fun v16 =>
       jn (fun (v17:Unit×Y_) =>
        cnd (ilt (w64 (aE v10.2.1 1)) (len x))
         (grd (inb (w64 (aE v10.2.1 1)) (len x))
          (cnd (ilt (aA x (toN v10.2.1) zN).2.2.2 (aA x (toN (w64 (aE v10.2.1 1))) zN).2.2.2)
           (bnd (q31 N (((),v17.2),([62]:Y_))) fun v18 =>
           grd (cL (aE (len v13.1) (len ([(aA x (toN v10.2.1) zN).1]:List Y_))) 16) <|
           v12 (bL v13.1 ([(aA x (toN v10.2.1) zN).1]:List Y_),(),v18.2.2.2))
           (bnd (q31 N (((),v17.2),([47,62]:Y_))) fun v19 =>
           v12 (v13.1,(),v19.2.2.2))))
         (bnd (q31 N (((),v17.2),([47,62]:Y_))) fun v20 =>
         v12 (v13.1,(),v20.2.2.2)))
       fun v21 =>
       aY (fun v22 (v23:Int×Unit×Y_) =>
        cnd (ilt v23.1 (len (aA x (toN v10.2.1) zN).2.2.1))
         (grd (inb v23.1 (len (aA x (toN v10.2.1) zN).2.2.1))
          (grd (dQ (aE (len ([32]:Y_)) (len (aA (aA x (toN v10.2.1) zN).2.2.1 (toN v23.1) ([],[])).1)))
           (grd (dQ (aE (len (bL ([32]:Y_) (aA (aA x (toN v10.2.1) zN).2.2.1 (toN v23.1) ([],[])).1)) (len ([61,34]:Y_))))
            (bnd (q63 N (aA (aA x (toN v10.2.1) zN).2.2.1 (toN v23.1) ([],[])).2) fun v24 =>
            grd (dQ (aE (len (bL (bL ([32]:Y_) (aA (aA x (toN v10.2.1) zN).2.2.1 (toN v23.1) ([],[])).1) ([61,34]:Y_))) (len v24))) <|
            grd (dQ (aE (len (bL (bL (bL ([32]:Y_) (aA (aA x (toN v10.2.1) zN).2.2.1 (toN v23.1) ([],[])).1) ([61,34]:Y_)) v24)) (len ([34]:Y_)))) <|
            bnd (q31 N (((),v23.2.2),bL (bL (bL (bL ([32]:Y_) (aA (aA x (toN v10.2.1) zN).2.2.1 (toN v23.1) ([],[])).1) ([61,34]:Y_)) v24) ([34]:Y_))) fun v25 =>
            v22 (w64 (aE v23.1 1),(),v25.2.2.2)))))
         (v21 ((),v23.2.2))) N (0,(),v16.2.2.2))))
    fun v26 =>
    aY (fun v27 (v28:(List Y_)×Unit×Y_) =>
     cnd (ilt (aA x (toN v10.2.1) zN).2.2.2 (len v28.1))
      (grd (inb (w64 (aH (len v28.1) 1)) (len v28.1))
       (grd (dQ (aE (len ([60,47]:Y_)) (len (aA v28.1 (toN (w64 (aH (len v28.1) 1))) []))))
        (grd (dQ (aE (len (bL ([60,47]:Y_) (aA v28.1 (toN (w64 (aH (len v28.1) 1))) []))) (len ([62]:Y_))))
         (bnd (q31 N (((),v28.2.2),bL (bL ([60,47]:Y_) (aA v28.1 (toN (w64 (aH (len v28.1) 1))) [])) ([62]:Y_))) fun v29 =>
         grd (in2 (w64 (aH (len v28.1) 1)) (ofN (gE v28.1))) <|
         v27 (gG v28.1 0 (toN (w64 (aH (len v28.1) 1))),(),v29.2.2.2)))))
      (v26 (v28.1,(),v28.2.2))) N (v10.1,(),v10.2.2.2))
    (v8 (v10.1,(),v10.2.2.2))) N (([]:List Y_),0,(),([]:Y_)))
def V4:List PK:=[.k (.v Y1 [])]
def V5:List Kd:=[.v (.str) [],.v (.int .i64) []]
def q66(N:Nat) (x:D7):Option (Y_×Int) :=
 bnd (q55 N x) fun v0 =>
 cnd (ine v0.2 0)
  (some (([]:Y_),v0.2))
  (bnd (q65 N v0.1) fun v1 =>
  some v1)
def qF:List PK:=[]
def qG:List Kd:=[.v (.bool) []]
def pH(N:Nat) (x:Unit):Option (Bool) :=
 bnd (q66 N (([]:Y_),([]:Y_),3,false,3,([]:List D3),([(3,(0,50),([]:Y_),1,([]:Y_),([([(([71,111]:Y_),(4,true,false),([]:Y_))]:List D5)]:List (List D5)))]:List D2),([]:List D4))) fun v0 =>
 cnd (ieq v0.2 0)
  (some (seq v0.1 ([60,116,116,32,114,97,116,101,61,34,50,53,34,32,108,97,115,116,61,34,51,34,62,60,112,32,105,100,61,34,51,34,32,105,110,61,34,48,102,34,32,111,117,116,61,34,53,48,102,34,32,107,105,110,100,61,34,68,73,65,76,79,71,85,69,34,62,60,114,111,119,62,60,114,117,110,32,99,111,108,111,114,61,34,114,101,100,34,32,105,116,97,108,105,99,61,34,49,34,62,71,111,60,47,114,117,110,62,60,47,114,111,119,62,60,47,112,62,60,47,116,116,62]:Y_)))
  (some false)
def qH:List PK:=[.k (.v (.str) [])]
def qI:List Kd:=[.v (.str) []]
def mU(N:Nat) (x:Y_):Option Y_ :=
 grd (in2 (mA (len x) 900) (len x)) <|
 some (aW (toN (mA (len x) 900)) x)
def eX:List PK:=[.k (.v (.str) []),.k (.v (.u8) [])]
def eY:List Kd:=[.v (.int .i64) []]
def eG(N:Nat) (x:Y_×UInt8):Option (Int):=iG N x
def gX:List PK:=[.k (.v (.str) []),.k (.v (.str) [])]
def gY:List Kd:=[.v (.int .i64) []]
def strings_Index(N:Nat) (x:Y_×Y_):Option (Int):=iP N x
def V6:List PK:=[.k (.v (.str) []),.k (.v (.str) [])]
def V7:List Kd:=[.v (.int .i64) []]
def q67(N:Nat) (x:Y_×Y_):Option (Int) :=
 cnd (ieq (len x.2) 0)
  (bnd (q33 N x.1) fun v0 =>
  some (w64 (aE v0 1)))
  (cnd (ieq (len x.2) 1)
   (grd (inb 0 (len x.2))
    (bnd (eG N (x.1,aA x.2 (toN 0) 0)) fun v1 =>
    some v1))
   (aY (fun v2 (v3:Y_×Int) =>
    bnd (strings_Index N (v3.1,x.2)) fun v4 =>
    cnd (ieq v4 (-1))
     (some v3.2)
     (grd (in2 (w64 (aE v4 (len x.2))) (len v3.1))
      (v2 (bC (toN (w64 (aE v4 (len x.2)))) v3.1,w64 (aE v3.2 1))))) N (x.1,0)))
def V8:List PK:=[.k (.v (.str) []),.k (.v (.u8) [])]
def V9:List Kd:=[.v (.int .i64) []]
def q68(N:Nat) (x:Y_×UInt8):Option (Int) :=
 jn (fun (v0:Unit) =>
  some (-1))
 fun v1 =>
 aY (fun v2 (v3:Int) =>
  cnd (ile 0 v3)
   (grd (inb v3 (len x.1))
    (cnd (ieq (n8 (aA x.1 (toN v3) 0)) (n8 x.2))
     (some v3)
     (v2 (w64 (aH v3 1)))))
   (v1 ())) N (w64 (aH (len x.1) 1))
def W0:List PK:=[.k (.v (.str) [])]
def X0:List Kd:=[.v (.int .u32) [],.v (.int .u32) []]
def q69(N:Nat) (x:Y_):Option (Int×Int) :=
 jn (fun (v0:Int) =>
  jn (fun (v1:Int) =>
   some (v0,v1))
  fun v2 =>
  aY (fun v3 (v4:D8) =>
   cnd (ilt 0 v4.2.2)
    (cnd (ine (rK .and .i64 v4.2.2 1) 0)
     (v3 (wr .u32 (jX v4.1 v4.2.1),wr .u32 (jX v4.2.1 v4.2.1),aF5 .i64 v4.2.2 1))
     (v3 (v4.1,wr .u32 (jX v4.2.1 v4.2.1),aF5 .i64 v4.2.2 1)))
    (v2 v4.1)) N (1,16777619,len x))
 fun v5 =>
 aY (fun v6 (v7:Int×Int) =>
  cnd (ile 0 v7.2)
   (grd (inb v7.2 (len x))
    (v6 (wr .u32 (aE (wr .u32 (jX v7.1 16777619)) (wr .u32 (n8 (aA x (toN v7.2) 0)))),w64 (aH v7.2 1))))
   (v5 v7.1)) N (0,w64 (aH (len x) 1))
def X1:List PK:=[.k (.v (.str) []),.k (.v (.str) [])]
def X2:List Kd:=[.v (.int .i64) []]
def q70(N:Nat) (x:Y_×Y_):Option (Int) :=
 bnd (q69 N x.2) fun v0 =>
 jn (fun (v1:Int) =>
  jn (fun (v2:Unit) =>
   jn (fun (v3:Unit) =>
    some (-1))
   fun v4 =>
   aY (fun v5 (v6:Int×Int) =>
    cnd (ile 0 v6.2)
     (grd (inb v6.2 (len x.1))
      (grd (inb (w64 (aE v6.2 (len x.2))) (len x.1))
       (cnd (ieq (wr .u32 (aH (wr .u32 (aE (wr .u32 (jX v6.1 16777619)) (wr .u32 (n8 (aA x.1 (toN v6.2) 0))))) (wr .u32 (jX v0.2 (wr .u32 (n8 (aA x.1 (toN (w64 (aE v6.2 (len x.2)))) 0))))))) v0.1)
        (grd (in3 v6.2 (w64 (aE v6.2 (len x.2))) (len x.1))
         (cnd (seq (bC (toN v6.2) (aW (toN (w64 (aE v6.2 (len x.2)))) x.1)) x.2)
          (some v6.2)
          (v5 (wr .u32 (aH (wr .u32 (aE (wr .u32 (jX v6.1 16777619)) (wr .u32 (n8 (aA x.1 (toN v6.2) 0))))) (wr .u32 (jX v0.2 (wr .u32 (n8 (aA x.1 (toN (w64 (aE v6.2 (len x.2)))) 0)))))),w64 (aH v6.2 1)))))
        (v5 (wr .u32 (aH (wr .u32 (aE (wr .u32 (jX v6.1 16777619)) (wr .u32 (n8 (aA x.1 (toN v6.2) 0))))) (wr .u32 (jX v0.2 (wr .u32 (n8 (aA x.1 (toN (w64 (aE v6.2 (len x.2)))) 0)))))),w64 (aH v6.2 1))))))
     (v4 ())) N (v1,w64 (aH (w64 (aH (len x.1) (len x.2))) 1)))
  fun v7 =>
  cnd (ieq v1 v0.1)
   (grd (in2 (w64 (aH (len x.1) (len x.2))) (len x.1))
    (cnd (seq (bC (toN (w64 (aH (len x.1) (len x.2)))) x.1) x.2)
     (some (w64 (aH (len x.1) (len x.2))))
     (v7 ())))
   (v7 ()))
 fun v8 =>
 aY (fun v9 (v10:Int×Int) =>
  cnd (ile (w64 (aH (len x.1) (len x.2))) v10.2)
   (grd (inb v10.2 (len x.1))
    (v9 (wr .u32 (aE (wr .u32 (jX v10.1 16777619)) (wr .u32 (n8 (aA x.1 (toN v10.2) 0)))),w64 (aH v10.2 1))))
   (v8 v10.1)) N (0,w64 (aH (len x.1) 1))
def X3:List PK:=[.k (.v (.str) []),.k (.v (.str) [])]
def X4:List Kd:=[.v (.int .i64) []]
def q71(N:Nat) (x:Y_×Y_):Option (Int) :=
 cnd (ieq (len x.2) 0)
  (some (len x.1))
  (cnd (ieq (len x.2) 1)
   (grd (inb 0 (len x.2))
    (bnd (q68 N (x.1,aA x.2 (toN 0) 0)) fun v0 =>
    some v0))
   (cnd (ieq (len x.2) (len x.1))
    (cnd (seq x.2 x.1)
     (some 0)
     (some (-1)))
    (cnd (ilt (len x.1) (len x.2))
     (some (-1))
     (bnd (q70 N x) fun v1 =>
     some v1))))
def BG:List PK:=[.k (.v (.str) []),.k (.v (.int .i64) []),.k (.v (.int .i64) [])]
def BH:List Kd:=[.v (.slice Y6) [0]]
def lR(N:Nat) (x:Y_×Int×Int):Option (List D8) :=
 grd (in2 x.2.1 (len x.1)) <|
 bnd (q67 N (aW (toN x.2.1) x.1,([10]:Y_))) fun v0 =>
 grd (in2 x.2.1 (len x.1)) <|
 bnd (q71 N (aW (toN x.2.1) x.1,([10]:Y_))) fun v1 =>
 some ([(w64 (aE 1 v0),w64 (aH x.2.1 v1),x.2.2)]:List D8)
def dM:List PK:=[.k (.v (.str) []),.k (.v (.u8) [])]
def dN:List Kd:=[.v (.int .i64) []]
def dF(N:Nat) (x:Y_×UInt8):Option (Int):=fE N x
def X5:List PK:=[.k (.v (.str) []),.k (.v (.u8) [])]
def X6:List Kd:=[.v (.int .i64) []]
def q72(N:Nat) (x:Y_×UInt8):Option (Int) :=
 bnd (dF N x) fun v0 =>
 some v0
def X7:List PK:=[.k (.v (.str) []),.k (.v (.u8) [])]
def X8:List Kd:=[.v (.int .i64) []]
def q73(N:Nat) (x:Y_×UInt8):Option (Int) :=
 bnd (q72 N x) fun v0 =>
 some v0
def PW:List PK:=[.k (.v (.str) []),.k (.v (.str) [])]
def PX:List Kd:=[.v (.bool) []]
def q74(N:Nat) (x:Y_×Y_):Option (Bool) :=
 cnd (ile (len x.2) (len x.1))
  (grd (in2 (len x.2) (len x.1))
   (some (seq (aW (toN (len x.2)) x.1) x.2)))
  (some false)
def PY:List PK:=[.k (.v (.str) []),.k (.v (.str) [])]
def PZ:List Kd:=[.v (.bool) []]
def q75(N:Nat) (x:Y_×Y_):Option (Bool) :=
 bnd (q74 N x) fun v0 =>
 some v0
def lE:List PK:=[.k (.v (.str) []),.k (.v (.int .i64) [])]
def lF:List Kd:=[.v (.str) [],.v (.int .i64) []]
def eL(N:Nat) (x:Y_×Int):Option (Y_×Int) :=
 cnd (ile (len x.1) x.2)
  (some (([]:Y_),x.2))
  (grd (inb x.2 (len x.1))
   (bnd (q57 N (aA x.1 (toN x.2) 0)) fun v0 =>
   cnd (bA v0)
    (some (([]:Y_),x.2))
    (jn (fun (v1:Int) =>
     grd (in3 x.2 v1 (len x.1)) <|
     some (bC (toN x.2) (aW (toN v1) x.1),v1))
    fun v2 =>
    aY (fun v3 (v4:Int) =>
     cnd (ilt v4 (len x.1))
      (grd (inb v4 (len x.1))
       (bnd (q58 N (aA x.1 (toN v4) 0)) fun v5 =>
       cnd v5
        (v3 (w64 (aE v4 1)))
        (v2 v4)))
      (v2 v4)) N x.2)))
def X9:List PK:=[.k (.v (.u8) [])]
def Y0:List Kd:=[.v (.bool) []]
def q76(N:Nat) (x:UInt8):Option (Bool) :=
 cnd (ieq (n8 x) (n8 9))
  (some true)
  (cnd (ieq (n8 x) (n8 10))
   (some true)
   (cnd (ieq (n8 x) (n8 13))
    (some true)
    (some (ieq (n8 x) (n8 32)))))
def II:List PK:=[.k (.v (.str) []),.k (.v (.int .i64) [])]
def IJ:List Kd:=[.v (.int .i64) []]
def q77(N:Nat) (x:Y_×Int):Option (Int) :=
 jn (fun (v0:Int) =>
  some v0)
 fun v1 =>
 aY (fun v2 (v3:Int) =>
  cnd (ilt v3 (len x.1))
   (grd (inb v3 (len x.1))
    (bnd (q76 N (aA x.1 (toN v3) 0)) fun v4 =>
    cnd v4
     (v2 (w64 (aE v3 1)))
     (v1 v3)))
   (v1 v3)) N x.2
def Z0:List PK:=[.k (.v (.str) []),.k (.v (.int .i64) [])]
def Z1:List Kd:=[.v (.st (.pair (.str) (.str))) [],.v (.int .i64) [],.v (.bool) []]
def q78(N:Nat) (x:Y_×Int):Option (D6×Int×Bool) :=
 bnd (eL N x) fun v0 =>
 cnd (seq v0.1 ([]:Y_))
  (some ((([]:Y_),([]:Y_)),0,false))
  (bnd (q77 N (x.1,v0.2)) fun v1 =>
  cnd (ile (len x.1) v1)
   (some ((([]:Y_),([]:Y_)),0,false))
   (grd (inb v1 (len x.1))
    (cnd (ine (n8 (aA x.1 (toN v1) 0)) (n8 61))
     (some ((([]:Y_),([]:Y_)),0,false))
     (bnd (q77 N (x.1,w64 (aE v1 1))) fun v2 =>
     jn (fun (v3:Unit) =>
      jn (fun (v4:Int) =>
       cnd (ile (len x.1) v4)
        (some ((([]:Y_),([]:Y_)),0,false))
        (grd (inb v4 (len x.1))
         (grd (inb v2 (len x.1))
          (cnd (ine (n8 (aA x.1 (toN v4) 0)) (n8 (aA x.1 (toN v2) 0)))
           (some ((([]:Y_),([]:Y_)),0,false))
           (grd (in3 (w64 (aE v2 1)) v4 (len x.1))
            (some ((v0.1,bC (toN (w64 (aE v2 1))) (aW (toN v4) x.1)),w64 (aE v4 1),true)))))))
      fun v5 =>
      aY (fun v6 (v7:Int) =>
       cnd (ilt v7 (len x.1))
        (grd (inb v7 (len x.1))
         (grd (inb v2 (len x.1))
          (cnd (ine (n8 (aA x.1 (toN v7) 0)) (n8 (aA x.1 (toN v2) 0)))
           (grd (inb v7 (len x.1))
            (cnd (ine (n8 (aA x.1 (toN v7) 0)) (n8 60))
             (v6 (w64 (aE v7 1)))
             (v5 v7)))
           (v5 v7))))
        (v5 v7)) N (w64 (aE v2 1)))
     fun v8 =>
     cnd (ile (len x.1) v2)
      (some ((([]:Y_),([]:Y_)),0,false))
      (grd (inb v2 (len x.1))
       (cnd (ine (n8 (aA x.1 (toN v2) 0)) (n8 34))
        (grd (inb v2 (len x.1))
         (cnd (ine (n8 (aA x.1 (toN v2) 0)) (n8 39))
          (some ((([]:Y_),([]:Y_)),0,false))
          (v8 ())))
        (v8 ())))))))
def Z2:List PK:=[.k (.v (.str) [])]
def Z3:List Kd:=[.v Y10 [2],.v (.int .i64) [],.v (.bool) []]
def q79(N:Nat) (x:Y_):Option ((Int×Y_×(List D6)×Y_)×Int×Bool) :=
 bnd (eL N (x,1)) fun v0 =>
 cnd (seq v0.1 ([]:Y_))
  (some ((0,([]:Y_),([]:List D6),([]:Y_)),0,false))
  (aY (fun v1 (v2:Int×Int×Y_×(List D6)×Y_) =>
   bnd (q77 N (x,v2.1)) fun v3 =>
   jn (fun (v4:Bool) =>
    cnd v4
     (some (v2.2,w64 (aE v3 1),true))
     (jn (fun (v5:Bool) =>
      cnd v5
       (some ((3,v2.2.2),w64 (aE v3 2),true))
       (cnd (ieq v3 v2.1)
        (some ((0,([]:Y_),([]:List D6),([]:Y_)),0,false))
        (bnd (q78 N (x,v3)) fun v6 =>
        cnd (bA v6.2.2)
         (some ((0,([]:Y_),([]:List D6),([]:Y_)),0,false))
         (grd (cL (aE (len v2.2.2.2.1) (len ([v6.1]:List D6))) 32)
          (v1 (v6.2.1,v2.2.1,v2.2.2.1,bL v2.2.2.2.1 ([v6.1]:List D6),v2.2.2.2.2))))))
     fun v7 =>
     cnd (ilt (w64 (aE v3 1)) (len x))
      (grd (inb v3 (len x))
       (cnd (ieq (n8 (aA x (toN v3) 0)) (n8 47))
        (grd (inb (w64 (aE v3 1)) (len x))
         (v7 (ieq (n8 (aA x (toN (w64 (aE v3 1))) 0)) (n8 62))))
        (v7 false)))
      (v7 false)))
   fun v8 =>
   cnd (ilt v3 (len x))
    (grd (inb v3 (len x))
     (v8 (ieq (n8 (aA x (toN v3) 0)) (n8 62))))
    (v8 false)) N (v0.2,1,v0.1,([]:List D6),([]:Y_)))
def sI:List PK:=[.k (.v (.str) [])]
def sJ:List Kd:=[.v Y10 [2],.v (.int .i64) [],.v (.bool) []]
def eM(N:Nat) (x:Y_):Option ((Int×Y_×(List D6)×Y_)×Int×Bool) :=
 grd (inb 0 (len x)) <|
 cnd (ine (n8 (aA x (toN 0) 0)) (n8 60))
  (bnd (q73 N (x,60)) fun v0 =>
  cnd (ilt v0 0)
   (grd (in2 (len x) (len x))
    (some ((0,([]:Y_),([]:List D6),aW (toN (len x)) x),len x,true)))
   (grd (in2 v0 (len x))
    (some ((0,([]:Y_),([]:List D6),aW (toN v0) x),v0,true))))
  (jn (fun (v1:Unit) =>
   bnd (q75 N (x,([60,47]:Y_))) fun v2 =>
   cnd v2
    (bnd (eL N (x,2)) fun v3 =>
    bnd (q77 N (x,v3.2)) fun v4 =>
    cnd (seq v3.1 ([]:Y_))
     (some ((0,([]:Y_),([]:List D6),([]:Y_)),0,false))
     (cnd (ile (len x) v4)
      (some ((0,([]:Y_),([]:List D6),([]:Y_)),0,false))
      (grd (inb v4 (len x))
       (cnd (ine (n8 (aA x (toN v4) 0)) (n8 62))
        (some ((0,([]:Y_),([]:List D6),([]:Y_)),0,false))
        (some ((2,v3.1,([]:List D6),([]:Y_)),w64 (aE v4 1),true))))))
    (bnd (q79 N x) fun v5 =>
    some v5))
  fun v6 =>
  aY (fun v7 (v8:Int) =>
   cnd (ilt v8 2)
    (grd (inb v8 (ofN 2))
     (grd (ieq (len (aN 2 ([]:Y_))) (ofN 2))
      (grd (inb 0 (ofN 2))
       (grd (ilt 0 (len ([aA (aA ([([([60,63]:Y_),([63,62]:Y_)]:List Y_),([([60,33,45,45]:Y_),([45,45,62]:Y_)]:List Y_)]:List (List Y_)) (toN v8) (aN 2 [])) 0 [],aA (aA ([([([60,63]:Y_),([63,62]:Y_)]:List Y_),([([60,33,45,45]:Y_),([45,45,62]:Y_)]:List Y_)]:List (List Y_)) (toN v8) (aN 2 [])) 1 []]:List Y_)))
        (bnd (q75 N (x,aA ([aA (aA ([([([60,63]:Y_),([63,62]:Y_)]:List Y_),([([60,33,45,45]:Y_),([45,45,62]:Y_)]:List Y_)]:List (List Y_)) (toN v8) (aN 2 [])) 0 [],aA (aA ([([([60,63]:Y_),([63,62]:Y_)]:List Y_),([([60,33,45,45]:Y_),([45,45,62]:Y_)]:List Y_)]:List (List Y_)) (toN v8) (aN 2 [])) 1 []]:List Y_) (toN 0) [])) fun v9 =>
        cnd v9
         (grd (inb 0 (ofN 2))
          (grd (ilt 0 (len ([aA (aA ([([([60,63]:Y_),([63,62]:Y_)]:List Y_),([([60,33,45,45]:Y_),([45,45,62]:Y_)]:List Y_)]:List (List Y_)) (toN v8) (aN 2 [])) 0 [],aA (aA ([([([60,63]:Y_),([63,62]:Y_)]:List Y_),([([60,33,45,45]:Y_),([45,45,62]:Y_)]:List Y_)]:List (List Y_)) (toN v8) (aN 2 [])) 1 []]:List Y_)))
           (grd (in2 (len (aA ([aA (aA ([([([60,63]:Y_),([63,62]:Y_)]:List Y_),([([60,33,45,45]:Y_),([45,45,62]:Y_)]:List Y_)]:List (List Y_)) (toN v8) (aN 2 [])) 0 [],aA (aA ([([([60,63]:Y_),([63,62]:Y_)]:List Y_),([([60,33,45,45]:Y_),([45,45,62]:Y_)]:List Y_)]:List (List Y_)) (toN v8) (aN 2 [])) 1 []]:List Y_) (toN 0) [])) (len x))
            (grd (inb 1 (ofN 2))
             (grd (ilt 1 (len ([aA (aA ([([([60,63]:Y_),([63,62]:Y_)]:List Y_),([([60,33,45,45]:Y_),([45,45,62]:Y_)]:List Y_)]:List (List Y_)) (toN v8) (aN 2 [])) 0 [],aA (aA ([([([60,63]:Y_),([63,62]:Y_)]:List Y_),([([60,33,45,45]:Y_),([45,45,62]:Y_)]:List Y_)]:List (List Y_)) (toN v8) (aN 2 [])) 1 []]:List Y_)))
              (bnd (strings_Index N (bC (toN (len (aA ([aA (aA ([([([60,63]:Y_),([63,62]:Y_)]:List Y_),([([60,33,45,45]:Y_),([45,45,62]:Y_)]:List Y_)]:List (List Y_)) (toN v8) (aN 2 [])) 0 [],aA (aA ([([([60,63]:Y_),([63,62]:Y_)]:List Y_),([([60,33,45,45]:Y_),([45,45,62]:Y_)]:List Y_)]:List (List Y_)) (toN v8) (aN 2 [])) 1 []]:List Y_) (toN 0) []))) x,aA ([aA (aA ([([([60,63]:Y_),([63,62]:Y_)]:List Y_),([([60,33,45,45]:Y_),([45,45,62]:Y_)]:List Y_)]:List (List Y_)) (toN v8) (aN 2 [])) 0 [],aA (aA ([([([60,63]:Y_),([63,62]:Y_)]:List Y_),([([60,33,45,45]:Y_),([45,45,62]:Y_)]:List Y_)]:List (List Y_)) (toN v8) (aN 2 [])) 1 []]:List Y_) (toN 1) [])) fun v10 =>
              grd (inb 0 (ofN 2)) <|
              grd (ilt 0 (len ([aA (aA ([([([60,63]:Y_),([63,62]:Y_)]:List Y_),([([60,33,45,45]:Y_),([45,45,62]:Y_)]:List Y_)]:List (List Y_)) (toN v8) (aN 2 [])) 0 [],aA (aA ([([([60,63]:Y_),([63,62]:Y_)]:List Y_),([([60,33,45,45]:Y_),([45,45,62]:Y_)]:List Y_)]:List (List Y_)) (toN v8) (aN 2 [])) 1 []]:List Y_))) <|
              grd (inb 0 (ofN 2)) <|
              grd (ilt 0 (len ([aA (aA ([([([60,63]:Y_),([63,62]:Y_)]:List Y_),([([60,33,45,45]:Y_),([45,45,62]:Y_)]:List Y_)]:List (List Y_)) (toN v8) (aN 2 [])) 0 [],aA (aA ([([([60,63]:Y_),([63,62]:Y_)]:List Y_),([([60,33,45,45]:Y_),([45,45,62]:Y_)]:List Y_)]:List (List Y_)) (toN v8) (aN 2 [])) 1 []]:List Y_))) <|
              grd (inb 1 (ofN 2)) <|
              grd (ilt 1 (len ([aA (aA ([([([60,63]:Y_),([63,62]:Y_)]:List Y_),([([60,33,45,45]:Y_),([45,45,62]:Y_)]:List Y_)]:List (List Y_)) (toN v8) (aN 2 [])) 0 [],aA (aA ([([([60,63]:Y_),([63,62]:Y_)]:List Y_),([([60,33,45,45]:Y_),([45,45,62]:Y_)]:List Y_)]:List (List Y_)) (toN v8) (aN 2 [])) 1 []]:List Y_))) <|
              some ((4,([]:Y_),([]:List D6),aA ([aA (aA ([([([60,63]:Y_),([63,62]:Y_)]:List Y_),([([60,33,45,45]:Y_),([45,45,62]:Y_)]:List Y_)]:List (List Y_)) (toN v8) (aN 2 [])) 0 [],aA (aA ([([([60,63]:Y_),([63,62]:Y_)]:List Y_),([([60,33,45,45]:Y_),([45,45,62]:Y_)]:List Y_)]:List (List Y_)) (toN v8) (aN 2 [])) 1 []]:List Y_) (toN 0) []),w64 (aE (w64 (aE (len (aA ([aA (aA ([([([60,63]:Y_),([63,62]:Y_)]:List Y_),([([60,33,45,45]:Y_),([45,45,62]:Y_)]:List Y_)]:List (List Y_)) (toN v8) (aN 2 [])) 0 [],aA (aA ([([([60,63]:Y_),([63,62]:Y_)]:List Y_),([([60,33,45,45]:Y_),([45,45,62]:Y_)]:List Y_)]:List (List Y_)) (toN v8) (aN 2 [])) 1 []]:List Y_) (toN 0) [])) v10)) (len (aA ([aA (aA ([([([60,63]:Y_),([63,62]:Y_)]:List Y_),([([60,33,45,45]:Y_),([45,45,62]:Y_)]:List Y_)]:List (List Y_)) (toN v8) (aN 2 [])) 0 [],aA (aA ([([([60,63]:Y_),([63,62]:Y_)]:List Y_),([([60,33,45,45]:Y_),([45,45,62]:Y_)]:List Y_)]:List (List Y_)) (toN v8) (aN 2 [])) 1 []]:List Y_) (toN 1) []))),ile 0 v10)))))))
         (v7 (w64 (aE v8 1))))))))
    (v6 ())) N 0)
def lS:List PK:=[.k (.v (.str) []),.k (.v (.str) [])]
def lT:List Kd:=[.v (.str) []]
def gZ(N:Nat) (x:Y_×Y_):Option Y_:=jO N x
def sK:List PK:=[.k (.v (.str) [])]
def sL:List Kd:=[.v (.str) []]
def sM(N:Nat) (x:Y_):Option Y_:=oR N x
def Z4:List PK:=[.k (.v (.u8) []),.k (.v (.int .i64) [])]
def Z5:List Kd:=[.v (.int .i64) []]
def q80(N:Nat) (x:UInt8×Int):Option (Int) :=
 jn (fun (v0:Int) =>
  cnd (ile x.2 v0)
   (some (-1))
   (some v0))
 fun v1 =>
 jn (fun (v2:Bool) =>
  cnd v2
   (v1 (w64 (n8 (b8 (aH (n8 x.1) (n8 48))))))
   (jn (fun (v3:Bool) =>
    cnd v3
     (v1 (w64 (aE (w64 (n8 (b8 (aH (n8 x.1) (n8 97))))) 10)))
     (cnd (ile (n8 65) (n8 x.1))
      (cnd (ile (n8 x.1) (n8 70))
       (v1 (w64 (aE (w64 (n8 (b8 (aH (n8 x.1) (n8 65))))) 10)))
       (v1 (-1)))
      (v1 (-1))))
   fun v4 =>
   cnd (ile (n8 97) (n8 x.1))
    (v4 (ile (n8 x.1) (n8 102)))
    (v4 false)))
 fun v5 =>
 cnd (ile (n8 48) (n8 x.1))
  (v5 (ile (n8 x.1) (n8 57)))
  (v5 false)
def Z6:List PK:=[.k (.v (.str) [])]
def Z7:List Kd:=[.v (.str) [],.v (.int .i64) [],.v (.int .i64) []]
def q81(N:Nat) (x:Y_):Option (Y_×Int×Int) :=
 jn (fun (v0:Unit) =>
  jn (fun (v1:D8) =>
   jn (fun (v2:Int×Int) =>
    cnd (ieq v2.1 v1.1)
     (some (([]:Y_),0,4))
     (cnd (ilt v1.2.2 (w64 (aH v2.1 v1.1)))
      (some (([]:Y_),0,4))
      (cnd (ieq v2.1 (len x))
       (some (([]:Y_),0,4))
       (grd (inb v2.1 (len x))
        (cnd (ine (n8 (aA x (toN v2.1) 0)) (n8 59))
         (some (([]:Y_),0,4))
         (bnd (q12 N (wr .i32 v2.2)) fun v3 =>
         cnd (ilt v3 0)
          (some (([]:Y_),0,10))
          (some (enc (wr .i32 v2.2),w64 (aE v2.1 1),0))))))))
   fun v4 =>
   aY (fun v5 (v6:Int×Int) =>
    cnd (ilt v6.1 (len x))
     (grd (inb v6.1 (len x))
      (bnd (q80 N (aA x (toN v6.1) 0,v1.2.1)) fun v7 =>
      cnd (ile 0 v7)
       (grd (inb v6.1 (len x))
        (bnd (q80 N (aA x (toN v6.1) 0,v1.2.1)) fun v8 =>
        v5 (w64 (aE v6.1 1),mA (w64 (aE (w64 (jX v6.2 v1.2.1)) v8)) 16777216)))
       (v4 v6)))
     (v4 v6)) N (v1.1,0))
  fun v9 =>
  bnd (q75 N (x,([38,35,120]:Y_))) fun v10 =>
  cnd v10
   (v9 (3,16,5))
   (bnd (q75 N (x,([38,35]:Y_))) fun v11 =>
   cnd (bA v11)
    (some (([]:Y_),0,4))
    (v9 (2,10,6))))
 fun v12 =>
 aY (fun v13 (v14:Int) =>
  cnd (ilt v14 5)
   (grd (inb v14 (ofN 5))
    (grd (ieq (len (aN 2 ([]:Y_))) (ofN 2))
     (grd (inb 0 (ofN 2))
      (grd (ilt 0 (len ([aA (aA ([([aA (aA gl2 0 (aN 2 [])) 0 [],aA (aA gl2 0 (aN 2 [])) 1 []]:List Y_),([aA (aA gl2 1 (aN 2 [])) 0 [],aA (aA gl2 1 (aN 2 [])) 1 []]:List Y_),([aA (aA gl2 2 (aN 2 [])) 0 [],aA (aA gl2 2 (aN 2 [])) 1 []]:List Y_),([aA (aA gl2 3 (aN 2 [])) 0 [],aA (aA gl2 3 (aN 2 [])) 1 []]:List Y_),([aA (aA gl2 4 (aN 2 [])) 0 [],aA (aA gl2 4 (aN 2 [])) 1 []]:List Y_)]:List (List Y_)) (toN v14) (aN 2 [])) 0 [],aA (aA ([([aA (aA gl2 0 (aN 2 [])) 0 [],aA (aA gl2 0 (aN 2 [])) 1 []]:List Y_),([aA (aA gl2 1 (aN 2 [])) 0 [],aA (aA gl2 1 (aN 2 [])) 1 []]:List Y_),([aA (aA gl2 2 (aN 2 [])) 0 [],aA (aA gl2 2 (aN 2 [])) 1 []]:List Y_),([aA (aA gl2 3 (aN 2 [])) 0 [],aA (aA gl2 3 (aN 2 [])) 1 []]:List Y_),([aA (aA gl2 4 (aN 2 [])) 0 [],aA (aA gl2 4 (aN 2 [])) 1 []]:List Y_)]:List (List Y_)) (toN v14) (aN 2 [])) 1 []]:List Y_)))
       (bnd (q75 N (x,aA ([aA (aA ([([aA (aA gl2 0 (aN 2 [])) 0 [],aA (aA gl2 0 (aN 2 [])) 1 []]:List Y_),([aA (aA gl2 1 (aN 2 [])) 0 [],aA (aA gl2 1 (aN 2 [])) 1 []]:List Y_),([aA (aA gl2 2 (aN 2 [])) 0 [],aA (aA gl2 2 (aN 2 [])) 1 []]:List Y_),([aA (aA gl2 3 (aN 2 [])) 0 [],aA (aA gl2 3 (aN 2 [])) 1 []]:List Y_),([aA (aA gl2 4 (aN 2 [])) 0 [],aA (aA gl2 4 (aN 2 [])) 1 []]:List Y_)]:List (List Y_)) (toN v14) (aN 2 [])) 0 [],aA (aA ([([aA (aA gl2 0 (aN 2 [])) 0 [],aA (aA gl2 0 (aN 2 [])) 1 []]:List Y_),([aA (aA gl2 1 (aN 2 [])) 0 [],aA (aA gl2 1 (aN 2 [])) 1 []]:List Y_),([aA (aA gl2 2 (aN 2 [])) 0 [],aA (aA gl2 2 (aN 2 [])) 1 []]:List Y_),([aA (aA gl2 3 (aN 2 [])) 0 [],aA (aA gl2 3 (aN 2 [])) 1 []]:List Y_),([aA (aA gl2 4 (aN 2 [])) 0 [],aA (aA gl2 4 (aN 2 [])) 1 []]:List Y_)]:List (List Y_)) (toN v14) (aN 2 [])) 1 []]:List Y_) (toN 0) [])) fun v15 =>
       cnd v15
        (grd (inb 1 (ofN 2))
         (grd (ilt 1 (len ([aA (aA ([([aA (aA gl2 0 (aN 2 [])) 0 [],aA (aA gl2 0 (aN 2 [])) 1 []]:List Y_),([aA (aA gl2 1 (aN 2 [])) 0 [],aA (aA gl2 1 (aN 2 [])) 1 []]:List Y_),([aA (aA gl2 2 (aN 2 [])) 0 [],aA (aA gl2 2 (aN 2 [])) 1 []]:List Y_),([aA (aA gl2 3 (aN 2 [])) 0 [],aA (aA gl2 3 (aN 2 [])) 1 []]:List Y_),([aA (aA gl2 4 (aN 2 [])) 0 [],aA (aA gl2 4 (aN 2 [])) 1 []]:List Y_)]:List (List Y_)) (toN v14) (aN 2 [])) 0 [],aA (aA ([([aA (aA gl2 0 (aN 2 [])) 0 [],aA (aA gl2 0 (aN 2 [])) 1 []]:List Y_),([aA (aA gl2 1 (aN 2 [])) 0 [],aA (aA gl2 1 (aN 2 [])) 1 []]:List Y_),([aA (aA gl2 2 (aN 2 [])) 0 [],aA (aA gl2 2 (aN 2 [])) 1 []]:List Y_),([aA (aA gl2 3 (aN 2 [])) 0 [],aA (aA gl2 3 (aN 2 [])) 1 []]:List Y_),([aA (aA gl2 4 (aN 2 [])) 0 [],aA (aA gl2 4 (aN 2 [])) 1 []]:List Y_)]:List (List Y_)) (toN v14) (aN 2 [])) 1 []]:List Y_)))
          (grd (inb 0 (ofN 2))
           (grd (ilt 0 (len ([aA (aA ([([aA (aA gl2 0 (aN 2 [])) 0 [],aA (aA gl2 0 (aN 2 [])) 1 []]:List Y_),([aA (aA gl2 1 (aN 2 [])) 0 [],aA (aA gl2 1 (aN 2 [])) 1 []]:List Y_),([aA (aA gl2 2 (aN 2 [])) 0 [],aA (aA gl2 2 (aN 2 [])) 1 []]:List Y_),([aA (aA gl2 3 (aN 2 [])) 0 [],aA (aA gl2 3 (aN 2 [])) 1 []]:List Y_),([aA (aA gl2 4 (aN 2 [])) 0 [],aA (aA gl2 4 (aN 2 [])) 1 []]:List Y_)]:List (List Y_)) (toN v14) (aN 2 [])) 0 [],aA (aA ([([aA (aA gl2 0 (aN 2 [])) 0 [],aA (aA gl2 0 (aN 2 [])) 1 []]:List Y_),([aA (aA gl2 1 (aN 2 [])) 0 [],aA (aA gl2 1 (aN 2 [])) 1 []]:List Y_),([aA (aA gl2 2 (aN 2 [])) 0 [],aA (aA gl2 2 (aN 2 [])) 1 []]:List Y_),([aA (aA gl2 3 (aN 2 [])) 0 [],aA (aA gl2 3 (aN 2 [])) 1 []]:List Y_),([aA (aA gl2 4 (aN 2 [])) 0 [],aA (aA gl2 4 (aN 2 [])) 1 []]:List Y_)]:List (List Y_)) (toN v14) (aN 2 [])) 1 []]:List Y_)))
            (some (aA ([aA (aA ([([aA (aA gl2 0 (aN 2 [])) 0 [],aA (aA gl2 0 (aN 2 [])) 1 []]:List Y_),([aA (aA gl2 1 (aN 2 [])) 0 [],aA (aA gl2 1 (aN 2 [])) 1 []]:List Y_),([aA (aA gl2 2 (aN 2 [])) 0 [],aA (aA gl2 2 (aN 2 [])) 1 []]:List Y_),([aA (aA gl2 3 (aN 2 [])) 0 [],aA (aA gl2 3 (aN 2 [])) 1 []]:List Y_),([aA (aA gl2 4 (aN 2 [])) 0 [],aA (aA gl2 4 (aN 2 [])) 1 []]:List Y_)]:List (List Y_)) (toN v14) (aN 2 [])) 0 [],aA (aA ([([aA (aA gl2 0 (aN 2 [])) 0 [],aA (aA gl2 0 (aN 2 [])) 1 []]:List Y_),([aA (aA gl2 1 (aN 2 [])) 0 [],aA (aA gl2 1 (aN 2 [])) 1 []]:List Y_),([aA (aA gl2 2 (aN 2 [])) 0 [],aA (aA gl2 2 (aN 2 [])) 1 []]:List Y_),([aA (aA gl2 3 (aN 2 [])) 0 [],aA (aA gl2 3 (aN 2 [])) 1 []]:List Y_),([aA (aA gl2 4 (aN 2 [])) 0 [],aA (aA gl2 4 (aN 2 [])) 1 []]:List Y_)]:List (List Y_)) (toN v14) (aN 2 [])) 1 []]:List Y_) (toN 1) [],len (aA ([aA (aA ([([aA (aA gl2 0 (aN 2 [])) 0 [],aA (aA gl2 0 (aN 2 [])) 1 []]:List Y_),([aA (aA gl2 1 (aN 2 [])) 0 [],aA (aA gl2 1 (aN 2 [])) 1 []]:List Y_),([aA (aA gl2 2 (aN 2 [])) 0 [],aA (aA gl2 2 (aN 2 [])) 1 []]:List Y_),([aA (aA gl2 3 (aN 2 [])) 0 [],aA (aA gl2 3 (aN 2 [])) 1 []]:List Y_),([aA (aA gl2 4 (aN 2 [])) 0 [],aA (aA gl2 4 (aN 2 [])) 1 []]:List Y_)]:List (List Y_)) (toN v14) (aN 2 [])) 0 [],aA (aA ([([aA (aA gl2 0 (aN 2 [])) 0 [],aA (aA gl2 0 (aN 2 [])) 1 []]:List Y_),([aA (aA gl2 1 (aN 2 [])) 0 [],aA (aA gl2 1 (aN 2 [])) 1 []]:List Y_),([aA (aA gl2 2 (aN 2 [])) 0 [],aA (aA gl2 2 (aN 2 [])) 1 []]:List Y_),([aA (aA gl2 3 (aN 2 [])) 0 [],aA (aA gl2 3 (aN 2 [])) 1 []]:List Y_),([aA (aA gl2 4 (aN 2 [])) 0 [],aA (aA gl2 4 (aN 2 [])) 1 []]:List Y_)]:List (List Y_)) (toN v14) (aN 2 [])) 1 []]:List Y_) (toN 0) []),0))))))
        (v13 (w64 (aE v14 1))))))))
   (v12 ())) N 0
def Z8:List PK:=[.k (.b 131 Y11 [1]),.k (.v (.u8) [])]
def Z9:List Kd:=[.v (.nif) []]
def q82(N:Nat) (x:(Unit×Y_)×UInt8):Option (Bool×Unit×Y_) :=
 bnd (bQ N ((),x.1.2)) fun v0 =>
 grd (cL (aE (len v0.2) (len ([x.2]:Y_))) 1) <|
 some (false,(),bL v0.2 ([x.2]:Y_))
def aAA:List PK:=[.k (.v (.str) [])]
def aAB:List Kd:=[.v (.str) [],.v (.int .i64) []]
def q83(N:Nat) (x:Y_):Option (Y_×Int) :=
 jn (fun (v0:Unit×Y_) =>
  some (v0.2,0))
 fun v1 =>
 aY (fun v2 (v3:Int×Unit×Y_) =>
  cnd (ilt v3.1 (len x))
   (grd (inb v3.1 (len x))
    (cnd (ieq (n8 (aA x (toN v3.1) 0)) (n8 60))
     (some (([]:Y_),4))
     (cnd (ieq (n8 (aA x (toN v3.1) 0)) (n8 38))
      (grd (in2 v3.1 (len x))
       (bnd (q81 N (bC (toN v3.1) x)) fun v4 =>
       cnd (ine v4.2.2 0)
        (some (([]:Y_),v4.2.2))
        (bnd (q31 N (((),v3.2.2),v4.1)) fun v5 =>
        v2 (w64 (aE v3.1 v4.2.1),(),v5.2.2.2))))
      (grd (inb v3.1 (len x))
       (bnd (q82 N (((),v3.2.2),aA x (toN v3.1) 0)) fun v6 =>
       v2 (w64 (aE v3.1 1),(),v6.2.2))))))
   (v1 ((),v3.2.2))) N (0,(),([]:Y_))
def QA:List PK:=[.k (.v (.str) [])]
def QB:List Kd:=[.v (.str) [],.v (.int .i64) []]
def q84(N:Nat) (x:Y_):Option (Y_×Int) :=
 bnd (sM N x) fun v0 =>
 bnd (q83 N v0) fun v1 =>
 cnd (ine v1.2 0)
  (some (([]:Y_),v1.2))
  (bnd (q13 N v1.1) fun v2 =>
  cnd (bA v2)
   (some (([]:Y_),10))
   (some (v1.1,0)))
def QC:List PK:=[.k (.b 174 (.st (.pair (.slice Y2) (.pair (.slice (.str)) (.bool)))) [0,1]),.k (.v (.bool) [])]
def QD:List Kd:=[.v (.int .i64) []]
def q85(N:Nat) (x:((List D1)×(List Y_)×Bool)×Bool):Option (Int×(List D1)×(List Y_)×Bool) :=
 jn (fun (v0:Bool) =>
  cnd v0
   (some (8,x.1))
   (cnd (ilt 15 (len x.1.2.1))
    (some (9,x.1))
    (cnd (ile 8192 (len x.1.1))
     (cnd x.2
      (cnd (bA x.1.2.2)
       (some (9,x.1))
       (some (0,x.1)))
      (cnd (bA false)
       (some (9,x.1))
       (some (0,x.1))))
     (some (0,x.1)))))
 fun v1 =>
 cnd (ieq (len x.1.2.1) 0)
  (cnd x.2
   (v1 true)
   (v1 (ilt 0 (len x.1.1))))
  (v1 false)
def aAC:List PK:=[.k (.b 174 (.st (.pair (.slice Y2) (.pair (.slice (.str)) (.bool)))) [0,1]),.k (.v (.str) [])]
def aAD:List Kd:=[.v (.int .i64) []]
def q86(N:Nat) (x:((List D1)×(List Y_)×Bool)×Y_):Option (Int×(List D1)×(List Y_)×Bool) :=
 jn (fun (v0:Unit) =>
  bnd (q84 N x.2) fun v1 =>
  cnd (ine v1.2 0)
   (some (v1.2,x.1))
   (bnd (q85 N (x.1,true)) fun v2 =>
   cnd (ine v2.1 0)
    (some v2)
    (cnd v2.2.2.2
     (grd (inb (w64 (aH (len v2.2.1) 1)) (len v2.2.1))
      (grd (dQ (aE (len (aA v2.2.1 (toN (w64 (aH (len v2.2.1) 1))) zN).2.1) (len v1.1)))
       (grd (inb (w64 (aH (len v2.2.1) 1)) (len v2.2.1))
        (some (0,nS v2.2.1 (toN (w64 (aH (len v2.2.1) 1))) ((aA v2.2.1 (toN (w64 (aH (len v2.2.1) 1))) zN).1,bL (aA v2.2.1 (toN (w64 (aH (len v2.2.1) 1))) zN).2.1 v1.1,(aA v2.2.1 (toN (w64 (aH (len v2.2.1) 1))) zN).2.2),v2.2.2)))))
     (grd (cL (aE (len v2.2.1) (len ([(([]:Y_),v1.1,([]:List D6),len v2.2.2.1)]:List D1))) 64)
      (some (0,bL v2.2.1 ([(([]:Y_),v1.1,([]:List D6),len v2.2.2.1)]:List D1),v2.2.2.1,true))))))
 fun v3 =>
 bnd (gZ N (x.2,([9,10,13,32]:Y_))) fun v4 =>
 cnd (seq v4 ([]:Y_))
  (bnd (strings_Contains N (x.2,([10]:Y_))) fun v5 =>
  cnd v5
   (some (0,x.1))
   (cnd (ieq (len x.1.2.1) 0)
    (some (0,x.1))
    (v3 ())))
  (v3 ())
def aAE:List PK:=[.k (.b 174 (.st (.pair (.slice Y2) (.pair (.slice (.str)) (.bool)))) [0,1]),.k (.v Y10 [])]
def aAF:List Kd:=[.v (.int .i64) []]
def q87(N:Nat) (x:((List D1)×(List Y_)×Bool)×Int×Y_×(List D6)×Y_):Option (Int×(List D1)×(List Y_)×Bool) :=
 bnd (dW N x.2.2.1) fun v0 =>
 cnd (bA v0)
  (some (5,x.1))
  (cnd (ieq (len x.1.2.1) 0)
   (some (8,x.1))
   (grd (inb (w64 (aH (len x.1.2.1) 1)) (len x.1.2.1))
    (cnd (sne (aA x.1.2.1 (toN (w64 (aH (len x.1.2.1) 1))) []) x.2.2.1)
     (some (8,x.1))
     (grd (in2 (w64 (aH (len x.1.2.1) 1)) (ofN (gE x.1.2.1)))
      (some (0,x.1.1,gG x.1.2.1 0 (toN (w64 (aH (len x.1.2.1) 1))),false))))))
def aAG:List PK:=[.k (.b 174 (.st (.pair (.slice Y2) (.pair (.slice (.str)) (.bool)))) [0,1]),.k (.v Y10 [])]
def aAH:List Kd:=[.v (.int .i64) []]
def q88(N:Nat) (x:((List D1)×(List Y_)×Bool)×Int×Y_×(List D6)×Y_):Option (Int×(List D1)×(List Y_)×Bool) :=
 jn (fun (v0:List Y_) =>
  jn (fun (v1:Unit) =>
   cnd (ilt 16 (len x.2.2.2.1))
    (some (9,x.1))
    (jn (fun (v2:D1) =>
     bnd (q85 N (x.1,false)) fun v3 =>
     cnd (ine v3.1 0)
      (some v3)
      (grd (cL (aE (len v3.2.1) (len ([v2]:List D1))) 64)
       (cnd (ieq x.2.1 1)
        (grd (cL (aE (len v3.2.2.1) (len ([x.2.2.1]:List Y_))) 16)
         (some (0,bL v3.2.1 ([v2]:List D1),bL v3.2.2.1 ([x.2.2.1]:List Y_),false)))
        (some (0,bL v3.2.1 ([v2]:List D1),v3.2.2.1,false)))))
    fun v4 =>
    aY (fun v5 (v6:Int×Y_×Y_×(List D6)×Int) =>
     cnd (ilt v6.1 (len x.2.2.2.1))
      (jn (fun (v7:D1) =>
       v5 (w64 (aE v6.1 1),v7))
      fun v8 =>
      grd (inb v6.1 (len x.2.2.2.1)) <|
      jn (fun (v9:Unit) =>
       bnd (q84 N (aA x.2.2.2.1 (toN v6.1) ([],[])).2) fun v10 =>
       cnd (ine v10.2 0)
        (some (v10.2,x.1))
        (grd (cL (aE (len v6.2.2.2.1) (len ([((aA x.2.2.2.1 (toN v6.1) ([],[])).1,v10.1)]:List D6))) 32)
         (v8 (v6.2.1,v6.2.2.1,bL v6.2.2.2.1 ([((aA x.2.2.2.1 (toN v6.1) ([],[])).1,v10.1)]:List D6),v6.2.2.2.2))))
      fun v11 =>
      grd (in2 v6.1 (len x.2.2.2.1)) <|
      aY (fun v12 (v13:Int) =>
       cnd (ilt v13 (len (aW (toN v6.1) x.2.2.2.1)))
        (grd (inb v13 (len (aW (toN v6.1) x.2.2.2.1)))
         (cnd (seq (aA (aW (toN v6.1) x.2.2.2.1) (toN v13) ([],[])).1 (aA x.2.2.2.1 (toN v6.1) ([],[])).1)
          (some (7,x.1))
          (v12 (w64 (aE v13 1)))))
        (v11 ())) N 0)
      (v4 v6.2)) N (0,x.2.2.1,([]:Y_),([]:List D6),len x.1.2.1)))
  fun v14 =>
  aY (fun v15 (v16:Int) =>
   cnd (ilt v16 (len v0))
    (grd (inb v16 (len v0))
     (bnd (dW N (aA v0 (toN v16) [])) fun v17 =>
     cnd (bA v17)
      (some (5,x.1))
      (v15 (w64 (aE v16 1)))))
    (v14 ())) N 0)
 fun v18 =>
 aY (fun v19 (v20:(List Y_)×Int) =>
  cnd (ilt v20.2 (len x.2.2.2.1))
   (grd (inb v20.2 (len x.2.2.2.1))
    (grd (cL (aE (len v20.1) (len ([(aA x.2.2.2.1 (toN v20.2) ([],[])).1]:List Y_))) 16)
     (v19 (bL v20.1 ([(aA x.2.2.2.1 (toN v20.2) ([],[])).1]:List Y_),w64 (aE v20.2 1)))))
   (v18 v20.1)) N (([x.2.2.1]:List Y_),0)
def aAI:List PK:=[.k (.b 174 (.st (.pair (.slice Y2) (.pair (.slice (.str)) (.bool)))) [0,1]),.k (.v Y10 []),.k (.v (.bool) [])]
def aAJ:List Kd:=[.v (.int .i64) []]
def q89(N:Nat) (x:((List D1)×(List Y_)×Bool)×(Int×Y_×(List D6)×Y_)×Bool):Option (Int×(List D1)×(List Y_)×Bool) :=
 cnd (ieq x.2.1.1 0)
  (bnd (q86 N (x.1,x.2.1.2.2.2)) fun v0 =>
  some v0)
  (cnd (ieq x.2.1.1 2)
   (bnd (q87 N (x.1,x.2.1)) fun v1 =>
   some v1)
   (cnd (ieq x.2.1.1 4)
    (cnd (seq x.2.1.2.2.2 ([60,63]:Y_))
     (cnd (bA x.2.2)
      (some (4,x.1))
      (some (0,x.1)))
     (some (0,x.1)))
    (bnd (q88 N (x.1,x.2.1)) fun v2 =>
    some v2)))
def aAK:List PK:=[.k (.v (.str) [])]
def aAL:List Kd:=[.v (.slice Y2) [0],.v (.slice Y6) [0]]
def q90(N:Nat) (x:Y_):Option ((List D1)×List D8) :=
 cnd (ilt 262144 (len x))
  (bnd (lR N (x,0,9)) fun v0 =>
  some (([]:List D1),v0))
  (jn (fun (v1:(List D1)×(List Y_)×Bool) =>
   cnd (ieq (len v1.1) 0)
    (bnd (lR N (x,len x,4)) fun v2 =>
    some (([]:List D1),v2))
    (cnd (ilt 0 (len v1.2.1))
     (bnd (lR N (x,len x,4)) fun v3 =>
     some (([]:List D1),v3))
     (some (v1.1,([]:List D8)))))
  fun v4 =>
  aY (fun v5 (v6:Int×(List D1)×(List Y_)×Bool) =>
   cnd (ilt v6.1 (len x))
    (grd (in2 v6.1 (len x))
     (bnd (eM N (bC (toN v6.1) x)) fun v7 =>
     cnd (bA v7.2.2)
      (bnd (lR N (x,v6.1,4)) fun v8 =>
      some (([]:List D1),v8))
      (bnd (q89 N (v6.2,v7.1,ieq v6.1 0)) fun v9 =>
      cnd (ine v9.1 0)
       (bnd (lR N (x,v6.1,v9.1)) fun v10 =>
       some (([]:List D1),v10))
       (v5 (w64 (aE v6.1 v7.2.1),v9.2)))))
    (v4 v6.2)) N (0,([]:List D1),([]:List Y_),false))
def aAM:List PK:=[.k (.v Y2 []),.k (.v (.str) []),.k (.v (.bool) [])]
def aAN:List Kd:=[.v (.bool) []]
def q91(N:Nat) (x:D1×Y_×Bool):Option (Bool) :=
 cnd (seq x.2.1 ([]:Y_))
  (some (seq x.1.1 ([116,116]:Y_)))
  (cnd (seq x.2.1 ([116,116]:Y_))
   (cnd (seq x.1.1 ([112]:Y_))
    (some true)
    (cnd (seq x.1.1 ([114,101,103,105,111,110]:Y_))
     (some x.2.2)
     (some false)))
   (cnd (seq x.2.1 ([112]:Y_))
    (some (seq x.1.1 ([114,111,119]:Y_)))
    (cnd (seq x.2.1 ([114,111,119]:Y_))
     (some (seq x.1.1 ([114,117,110]:Y_)))
     (cnd (seq x.2.1 ([114,117,110]:Y_))
      (some (seq x.1.1 ([]:Y_)))
      (some false)))))
def aAO:List PK:=[.k (.v (.str) [])]
def aAP:List Kd:=[.v (.slice (.str)) [0],.v (.slice (.str)) [0]]
def q92(N:Nat) (x:Y_):Option (List Y_×List Y_) :=
 cnd (seq x ([116,116]:Y_))
  (some (([([114,97,116,101]:Y_),([108,97,115,116]:Y_)]:List Y_),([([116,105,116,108,101]:Y_),([108,97,110,103]:Y_),([100,114,111,112]:Y_)]:List Y_)))
  (cnd (seq x ([114,101,103,105,111,110]:Y_))
   (some (([([110,97,109,101]:Y_),([116,111,112]:Y_),([104,101,105,103,104,116]:Y_),([108,101,102,116]:Y_),([119,105,100,116,104]:Y_),([97,108,105,103,110]:Y_),([97,110,99,104,111,114]:Y_)]:List Y_),([]:List Y_)))
   (cnd (seq x ([112]:Y_))
    (some (([([105,100]:Y_),([105,110]:Y_),([111,117,116]:Y_),([107,105,110,100]:Y_)]:List Y_),([([114,101,103,105,111,110]:Y_),([115,112,101,97,107,101,114]:Y_)]:List Y_)))
    (cnd (seq x ([114,117,110]:Y_))
     (some (([]:List Y_),([([99,111,108,111,114]:Y_),([105,116,97,108,105,99]:Y_),([117,110,100,101,114,108,105,110,101]:Y_),([114,117,98,121]:Y_)]:List Y_)))
     (some (([]:List Y_),([]:List Y_))))))
def aAQ:List PK:=[.k (.v (.slice (.str)) []),.k (.v (.str) [])]
def aAR:List Kd:=[.v (.bool) []]
def q93(N:Nat) (x:List Y_×Y_):Option (Bool) :=
 jn (fun (v0:Unit) =>
  some false)
 fun v1 =>
 aY (fun v2 (v3:Int) =>
  cnd (ilt v3 (len x.1))
   (grd (inb v3 (len x.1))
    (cnd (seq (aA x.1 (toN v3) []) x.2)
     (some true)
     (v2 (w64 (aE v3 1)))))
   (v1 ())) N 0
def aAS:List PK:=[.k (.v Y2 [])]
def aAT:List Kd:=[.v (.bool) []]
def q94(N:Nat) (x:D1):Option (Bool) :=
 bnd (q92 N x.1) fun v0 =>
 jn (fun (v1:(List Y_)×Int) =>
  some (ieq v1.2 (len v1.1)))
 fun v2 =>
 aY (fun v3 (v4:(List Y_)×(List Y_)×Int×Int) =>
  cnd (ilt v4.2.2.2 (len x.2.2.1))
   (grd (inb v4.2.2.2 (len x.2.2.1))
    (bnd (q93 N (v4.1,(aA x.2.2.1 (toN v4.2.2.2) ([],[])).1)) fun v5 =>
    cnd v5
     (v3 (v4.1,v4.2.1,w64 (aE v4.2.2.1 1),w64 (aE v4.2.2.2 1)))
     (bnd (q93 N (v4.2.1,(aA x.2.2.1 (toN v4.2.2.2) ([],[])).1)) fun v6 =>
     cnd (bA v6)
      (some false)
      (v3 (v4.1,v4.2.1,v4.2.2.1,w64 (aE v4.2.2.2 1))))))
   (v2 (v4.1,v4.2.2.1))) N (v0.1,v0.2,0,0)
def wE:List PK:=[.k (.b 160 Y9 []),.k (.v (.str) [])]
def wF:List Kd:=[.v (.str) []]
def q95(N:Nat) (x:(D1×Int)×Y_):Option (Y_×D1×Int) :=
 jn (fun (v0:Unit) =>
  some (([]:Y_),x.1))
 fun v1 =>
 aY (fun v2 (v3:Int) =>
  cnd (ilt v3 (len x.1.1.2.2.1))
   (grd (inb v3 (len x.1.1.2.2.1))
    (cnd (seq (aA x.1.1.2.2.1 (toN v3) ([],[])).1 x.2)
     (some ((aA x.1.1.2.2.1 (toN v3) ([],[])).2,x.1))
     (v2 (w64 (aE v3 1)))))
   (v1 ())) N 0
def aAU:List PK:=[]
def aAV:List Kd:=[.v (.slice (.u8)) []]
def q96(N:Nat) (x:Unit):Option Y_ :=
 some ([1,2,3,4,5,6,7]:Y_)
def aAW:List PK:=[.k (.v (.str) [])]
def aAX:List Kd:=[.v (.u8) [],.v (.int .i64) []]
def q97(N:Nat) (x:Y_):Option (UInt8×Int) :=
 jn (fun (v0:Unit) =>
  some (0,4))
 fun v1 =>
 bnd (q96 N ()) fun v2 =>
 aY (fun v3 (v4:Int) =>
  cnd (ilt v4 (len v2))
   (grd (inb v4 (len v2))
    (bnd (q49 N (aA v2 (toN v4) 0)) fun v5 =>
    cnd (seq v5 x)
     (some (aA v2 (toN v4) 0,0))
     (v3 (w64 (aE v4 1)))))
   (v1 ())) N 0
def wG:List PK:=[.k (.b 160 Y9 []),.k (.v (.int .i64) [])]
def wH:List Kd:=[]
def q98(N:Nat) (x:(D1×Int)×Int):Option (D1×Int) :=
 cnd (ieq x.1.2 0)
  (some (x.1.1,x.2))
  (some x.1)
def aAY:List PK:=[.k (.b 160 Y9 []),.k (.v (.str) [])]
def aAZ:List Kd:=[.v (.bool) []]
def q99(N:Nat) (x:(D1×Int)×Y_):Option (Bool×D1×Int) :=
 jn (fun (v0:D1×Int) =>
  bnd (q95 N (v0,x.2)) fun v1 =>
  some (seq v1.1 ([49]:Y_),v1.2))
 fun v2 =>
 aY (fun v3 (v4:Int×D1×Int) =>
  cnd (ilt v4.1 (len x.1.1.2.2.1))
   (grd (inb v4.1 (len x.1.1.2.2.1))
    (cnd (seq (aA x.1.1.2.2.1 (toN v4.1) ([],[])).1 x.2)
     (cnd (sne (aA x.1.1.2.2.1 (toN v4.1) ([],[])).2 ([48]:Y_))
      (cnd (sne (aA x.1.1.2.2.1 (toN v4.1) ([],[])).2 ([49]:Y_))
       (bnd (q98 N (v4.2,4)) fun v5 =>
       v3 (w64 (aE v4.1 1),v5))
       (v3 (w64 (aE v4.1 1),v4.2)))
      (v3 (w64 (aE v4.1 1),v4.2)))
     (v3 (w64 (aE v4.1 1),v4.2))))
   (v2 v4.2)) N (0,x.1)
def QE:List PK:=[.k (.v (.str) []),.k (.v (.str) [])]
def QF:List Kd:=[.v (.str) [],.v (.bool) []]
def aLY(N:Nat) (x:Y_×Y_):Option (Y_×Bool) :=
 bnd (q74 N x) fun v0 =>
 cnd (bA v0)
  (some (x.1,false))
  (grd (in2 (len x.2) (len x.1))
   (some (bC (toN (len x.2)) x.1,true)))
def QG:List PK:=[.k (.v (.str) []),.k (.v (.str) [])]
def QH:List Kd:=[.v (.str) [],.v (.bool) []]
def aA0(N:Nat) (x:Y_×Y_):Option (Y_×Bool) :=
 bnd (aLY N x) fun v0 =>
 some v0
def hZ:List PK:=[.k (.v (.str) []),.k (.v (.int .i64) []),.k (.v (.int .i64) [])]
def iA:List Kd:=[.v (.int .i64) [],.v (.nif) []]
def dD(N:Nat) (x:Y_×Int×Int):Option (Int×Bool):=kC N x
def QI:List PK:=[.k (.v (.str) []),.k (.v (.int .i64) []),.k (.v (.int .i64) [])]
def QJ:List Kd:=[.v (.int .i64) [],.v (.int .i64) []]
def aA1(N:Nat) (x:Y_×Int×Int):Option (Int×Int) :=
 bnd (aA0 N (x.1,([45]:Y_))) fun v0 =>
 jn (fun (v1:Unit) =>
  jn (fun (v2:Unit) =>
   bnd (dD N (x.1,10,64)) fun v3 =>
   cnd v3.2
    (some (0,2))
    (cnd (ilt v3.1 x.2.1)
     (some (0,2))
     (cnd (ilt x.2.2 v3.1)
      (some (0,2))
      (some (v3.1,0)))))
  fun v4 =>
  aY (fun v5 (v6:Int) =>
   cnd (ilt v6 (len v0.1))
    (grd (inb v6 (len v0.1))
     (cnd (ilt (n8 (aA v0.1 (toN v6) 0)) (n8 48))
      (some (0,4))
      (grd (inb v6 (len v0.1))
       (cnd (ilt (n8 57) (n8 (aA v0.1 (toN v6) 0)))
        (some (0,4))
        (v5 (w64 (aE v6 1)))))))
    (v4 ())) N 0)
 fun v7 =>
 cnd (seq v0.1 ([]:Y_))
  (some (0,4))
  (grd (inb 0 (len v0.1))
   (cnd (ieq (n8 (aA v0.1 (toN 0) 0)) (n8 48))
    (cnd (ilt 1 (len v0.1))
     (some (0,4))
     (cnd v0.2
      (some (0,4))
      (v7 ())))
    (v7 ())))
def DU:List PK:=[.k (.b 160 Y9 []),.k (.v (.str) []),.k (.v (.int .i64) [])]
def DV:List Kd:=[.v (.int .i64) []]
def B9(N:Nat) (x:(D1×Int)×Y_×Int):Option (Int×D1×Int) :=
 bnd (aA1 N (x.2.1,0,x.2.2)) fun v0 =>
 bnd (q98 N (x.1,v0.2)) fun v1 =>
 some (v0.1,v1)
def DW:List PK:=[.k (.b 160 Y9 []),.k (.v (.str) []),.k (.v (.int .i64) [])]
def DX:List Kd:=[.v (.int .i64) []]
def QK(N:Nat) (x:(D1×Int)×Y_×Int):Option (Int×D1×Int) :=
 bnd (q95 N (x.1,x.2.1)) fun v0 =>
 bnd (B9 N (v0.2,v0.1,x.2.2)) fun v1 =>
 some v1
def QL:List PK:=[.k (.b 160 Y9 []),.k (.v (.str) [])]
def QM:List Kd:=[.v (.int .i64) []]
def QN(N:Nat) (x:(D1×Int)×Y_):Option (Int×D1×Int) :=
 bnd (QK N (x.1,x.2,32)) fun v0 =>
 some v0
def DY:List PK:=[.k (.b 160 Y9 []),.k (.v (.str) []),.k (.v (.slice (.str)) [])]
def DZ:List Kd:=[.v (.int .i64) []]
def IK(N:Nat) (x:(D1×Int)×Y_×List Y_):Option (Int×D1×Int) :=
 bnd (q95 N (x.1,x.2.1)) fun v0 =>
 jn (fun (v1:Unit) =>
  bnd (q98 N (v0.2,4)) fun v2 =>
  some (0,v2))
 fun v3 =>
 aY (fun v4 (v5:Int) =>
  cnd (ilt v5 (len x.2.2))
   (grd (inb v5 (len x.2.2))
    (cnd (seq (aA x.2.2 (toN v5) []) v0.1)
     (some (v5,v0.2))
     (v4 (w64 (aE v5 1)))))
   (v3 ())) N 0
def QO:List PK:=[.k (.v (.str) []),.k (.v (.str) [])]
def QP:List Kd:=[.v (.bool) []]
def aLZ(N:Nat) (x:Y_×Y_):Option (Bool) :=
 cnd (ile (len x.2) (len x.1))
  (grd (in2 (w64 (aH (len x.1) (len x.2))) (len x.1))
   (some (seq (bC (toN (w64 (aH (len x.1) (len x.2)))) x.1) x.2)))
  (some false)
def QQ:List PK:=[.k (.v (.str) []),.k (.v (.str) [])]
def QR:List Kd:=[.v (.str) [],.v (.bool) []]
def aL0(N:Nat) (x:Y_×Y_):Option (Y_×Bool) :=
 bnd (aLZ N x) fun v0 =>
 cnd (bA v0)
  (some (x.1,false))
  (grd (in2 (w64 (aH (len x.1) (len x.2))) (len x.1))
   (some (aW (toN (w64 (aH (len x.1) (len x.2)))) x.1,true)))
def QS:List PK:=[.k (.v (.str) []),.k (.v (.str) [])]
def QT:List Kd:=[.v (.str) [],.v (.bool) []]
def aG6(N:Nat) (x:Y_×Y_):Option (Y_×Bool) :=
 bnd (aL0 N x) fun v0 =>
 some v0
def QU:List PK:=[.k (.b 160 Y9 []),.k (.v (.str) [])]
def QV:List Kd:=[.v (.int .i64) []]
def aA2(N:Nat) (x:(D1×Int)×Y_):Option (Int×D1×Int) :=
 bnd (q95 N x) fun v0 =>
 bnd (aG6 N (v0.1,([102]:Y_))) fun v1 =>
 cnd (bA v1.2)
  (bnd (q98 N (v0.2,4)) fun v2 =>
  some (0,v2))
  (bnd (B9 N (v0.2,v1.1,5184000)) fun v3 =>
  some v3)
def QW:List PK:=[.k (.v (.str) [])]
def QX:List Kd:=[.v (.u8) [],.v (.int .i64) []]
def aA3(N:Nat) (x:Y_):Option (UInt8×Int) :=
 jn (fun (v0:Unit) =>
  some (0,4))
 fun v1 =>
 bnd (q26 N ()) fun v2 =>
 aY (fun v3 (v4:Int) =>
  cnd (ilt v4 (len v2))
   (grd (inb v4 (len v2))
    (cnd (seq (aA v2 (toN v4) []) x)
     (some (b8 (w64 (aE v4 1)),0))
     (v3 (w64 (aE v4 1)))))
   (v1 ())) N 0
def QY:List PK:=[.k (.b 160 Y9 [])]
def QZ:List Kd:=[.v (.u8) []]
def aG7(N:Nat) (x:D1×Int):Option (UInt8×D1×Int) :=
 jn (fun (v0:Unit) =>
  some (0,x))
 fun v1 =>
 aY (fun v2 (v3:Int) =>
  cnd (ilt v3 (len x.1.2.2.1))
   (grd (inb v3 (len x.1.2.2.1))
    (cnd (seq (aA x.1.2.2.1 (toN v3) ([],[])).1 ([99,111,108,111,114]:Y_))
     (bnd (IK N (x,([99,111,108,111,114]:Y_),gl1)) fun v4 =>
     some (b8 v4.1,v4.2))
     (v2 (w64 (aE v3 1)))))
   (v1 ())) N 0
def sN:List PK:=[.k (.d 27 Y1),.k (.v Y2 [])]
def sO:List Kd:=[.v (.int .i64) []]
def nK(N:Nat) (x:D7×Y_×Y_×(List D6)×Int):Option (Int×Y_×Y_×UInt8×Bool×Int×(List D3)×(List D2)×List D4) :=
 jn (fun (v0:D7×D1×Int) =>
  some (v0.2.2,v0.1.1,v0.1.2.1,v0.1.2.2.1,v0.1.2.2.2.1,v0.1.2.2.2.2.1,v0.1.2.2.2.2.2.1,bJ v0.1.2.2.2.2.2.2.1 ((aI v0.1.2.2.2.2.2.2.1 zE).1,(aI v0.1.2.2.2.2.2.2.1 zE).2.1,(aI v0.1.2.2.2.2.2.2.1 zE).2.2.1,(aI v0.1.2.2.2.2.2.2.1 zE).2.2.2.1,(aI v0.1.2.2.2.2.2.2.1 zE).2.2.2.2.1,bJ (aI v0.1.2.2.2.2.2.2.1 zE).2.2.2.2.2 (aI (aI v0.1.2.2.2.2.2.2.1 zE).2.2.2.2.2 [])),v0.1.2.2.2.2.2.2.2))
 fun v1 =>
 cnd (seq x.2.1 ([116,116]:Y_))
  (bnd (q95 N ((x.2,0),([116,105,116,108,101]:Y_))) fun v2 =>
  bnd (q95 N (v2.2,([108,97,110,103]:Y_))) fun v3 =>
  bnd (q95 N (v3.2,([114,97,116,101]:Y_))) fun v4 =>
  bnd (q97 N v4.1) fun v5 =>
  bnd (q98 N (v4.2,v5.2)) fun v6 =>
  bnd (q99 N (v6,([100,114,111,112]:Y_))) fun v7 =>
  bnd (QK N (v7.2,([108,97,115,116]:Y_),1099511627776)) fun v8 =>
  v1 ((v2.1,v3.1,v5.1,v7.1,v8.1,x.1.2.2.2.2.2.1,bJ x.1.2.2.2.2.2.2.1 ((aI x.1.2.2.2.2.2.2.1 zE).1,(aI x.1.2.2.2.2.2.2.1 zE).2.1,(aI x.1.2.2.2.2.2.2.1 zE).2.2.1,(aI x.1.2.2.2.2.2.2.1 zE).2.2.2.1,(aI x.1.2.2.2.2.2.2.1 zE).2.2.2.2.1,bJ (aI x.1.2.2.2.2.2.2.1 zE).2.2.2.2.2 (aI (aI x.1.2.2.2.2.2.2.1 zE).2.2.2.2.2 [])),x.1.2.2.2.2.2.2.2),v8.2))
  (cnd (seq x.2.1 ([114,101,103,105,111,110]:Y_))
   (bnd (q95 N ((x.2,0),([110,97,109,101]:Y_))) fun v9 =>
   bnd (QN N (v9.2,([116,111,112]:Y_))) fun v10 =>
   bnd (QN N (v10.2,([104,101,105,103,104,116]:Y_))) fun v11 =>
   bnd (QN N (v11.2,([108,101,102,116]:Y_))) fun v12 =>
   bnd (QN N (v12.2,([119,105,100,116,104]:Y_))) fun v13 =>
   bnd (IK N (v13.2,([97,108,105,103,110]:Y_),gl0)) fun v14 =>
   bnd (IK N (v14.2,([97,110,99,104,111,114]:Y_),([([84,79,80]:Y_),([66,79,84,84,79,77]:Y_)]:List Y_))) fun v15 =>
   grd (cL (aE (len x.1.2.2.2.2.2.1) (len ([(v9.1,v10.1,v11.1,v12.1,v13.1,b8 (w64 (aE v14.1 1)),ieq v15.1 1)]:List D3))) 56) <|
   v1 ((x.1.1,x.1.2.1,x.1.2.2.1,x.1.2.2.2.1,x.1.2.2.2.2.1,bL x.1.2.2.2.2.2.1 ([(v9.1,v10.1,v11.1,v12.1,v13.1,b8 (w64 (aE v14.1 1)),ieq v15.1 1)]:List D3),bJ x.1.2.2.2.2.2.2.1 ((aI x.1.2.2.2.2.2.2.1 zE).1,(aI x.1.2.2.2.2.2.2.1 zE).2.1,(aI x.1.2.2.2.2.2.2.1 zE).2.2.1,(aI x.1.2.2.2.2.2.2.1 zE).2.2.2.1,(aI x.1.2.2.2.2.2.2.1 zE).2.2.2.2.1,bJ (aI x.1.2.2.2.2.2.2.1 zE).2.2.2.2.2 (aI (aI x.1.2.2.2.2.2.2.1 zE).2.2.2.2.2 [])),x.1.2.2.2.2.2.2.2),v15.2))
   (cnd (seq x.2.1 ([112]:Y_))
    (bnd (QK N ((x.2,0),([105,100]:Y_),1099511627776)) fun v16 =>
    bnd (aA2 N (v16.2,([105,110]:Y_))) fun v17 =>
    bnd (aA2 N (v17.2,([111,117,116]:Y_))) fun v18 =>
    bnd (q95 N (v18.2,([114,101,103,105,111,110]:Y_))) fun v19 =>
    bnd (q95 N (v19.2,([107,105,110,100]:Y_))) fun v20 =>
    bnd (aA3 N v20.1) fun v21 =>
    jn (fun (v22:D1×Int) =>
     bnd (q95 N (v22,([115,112,101,97,107,101,114]:Y_))) fun v23 =>
     grd (cL (aE (len (bJ x.1.2.2.2.2.2.2.1 ((aI x.1.2.2.2.2.2.2.1 zE).1,(aI x.1.2.2.2.2.2.2.1 zE).2.1,(aI x.1.2.2.2.2.2.2.1 zE).2.2.1,(aI x.1.2.2.2.2.2.2.1 zE).2.2.2.1,(aI x.1.2.2.2.2.2.2.1 zE).2.2.2.2.1,bJ (aI x.1.2.2.2.2.2.2.1 zE).2.2.2.2.2 (aI (aI x.1.2.2.2.2.2.2.1 zE).2.2.2.2.2 [])))) (len ([zE]:List D2))) 88) <|
     v1 ((x.1.1,x.1.2.1,x.1.2.2.1,x.1.2.2.2.1,x.1.2.2.2.2.1,x.1.2.2.2.2.2.1,bJ (bL (bJ x.1.2.2.2.2.2.2.1 ((aI x.1.2.2.2.2.2.2.1 zE).1,(aI x.1.2.2.2.2.2.2.1 zE).2.1,(aI x.1.2.2.2.2.2.2.1 zE).2.2.1,(aI x.1.2.2.2.2.2.2.1 zE).2.2.2.1,(aI x.1.2.2.2.2.2.2.1 zE).2.2.2.2.1,bJ (aI x.1.2.2.2.2.2.2.1 zE).2.2.2.2.2 (aI (aI x.1.2.2.2.2.2.2.1 zE).2.2.2.2.2 []))) ([zE]:List D2)) (v16.1,(v17.1,v18.1),v19.1,v21.1,v23.1,([]:List (List D5))),x.1.2.2.2.2.2.2.2),v23.2))
    fun v24 =>
    cnd (ine v21.2 0)
     (bnd (q98 N (v20.2,4)) fun v25 =>
     v24 v25)
     (v24 v20.2))
    (cnd (seq x.2.1 ([114,111,119]:Y_))
     (grd (inb (w64 (aH (len x.1.2.2.2.2.2.2.1) 1)) (len x.1.2.2.2.2.2.2.1))
      (grd (ieq (w64 (aH (len x.1.2.2.2.2.2.2.1) 1)) (aH (len x.1.2.2.2.2.2.2.1) 1))
       (grd (ieq (ofN (toN (w64 (aH (len x.1.2.2.2.2.2.2.1) 1)))) (aH (len x.1.2.2.2.2.2.2.1) 1))
        (grd (cL (aE (len (bJ (aI x.1.2.2.2.2.2.2.1 zE).2.2.2.2.2 (aI (aI x.1.2.2.2.2.2.2.1 zE).2.2.2.2.2 []))) (len ([[]]:List (List D5)))) 24)
         (grd (inb (w64 (aH (len x.1.2.2.2.2.2.2.1) 1)) (len x.1.2.2.2.2.2.2.1))
          (grd (ieq (w64 (aH (len x.1.2.2.2.2.2.2.1) 1)) (aH (len x.1.2.2.2.2.2.2.1) 1))
           (grd (ieq (ofN (toN (w64 (aH (len x.1.2.2.2.2.2.2.1) 1)))) (aH (len x.1.2.2.2.2.2.2.1) 1))
            (v1 ((x.1.1,x.1.2.1,x.1.2.2.1,x.1.2.2.2.1,x.1.2.2.2.2.1,x.1.2.2.2.2.2.1,bJ x.1.2.2.2.2.2.2.1 ((aI x.1.2.2.2.2.2.2.1 zE).1,(aI x.1.2.2.2.2.2.2.1 zE).2.1,(aI x.1.2.2.2.2.2.2.1 zE).2.2.1,(aI x.1.2.2.2.2.2.2.1 zE).2.2.2.1,(aI x.1.2.2.2.2.2.2.1 zE).2.2.2.2.1,bJ (bL (bJ (aI x.1.2.2.2.2.2.2.1 zE).2.2.2.2.2 (aI (aI x.1.2.2.2.2.2.2.1 zE).2.2.2.2.2 [])) ([[]]:List (List D5))) ([]:List D5)),x.1.2.2.2.2.2.2.2),x.2,0)))))))))
     (cnd (seq x.2.1 ([114,117,110]:Y_))
      (bnd (q95 N ((x.2,0),([114,117,98,121]:Y_))) fun v26 =>
      bnd (aG7 N v26.2) fun v27 =>
      bnd (q99 N (v27.2,([105,116,97,108,105,99]:Y_))) fun v28 =>
      bnd (q99 N (v28.2,([117,110,100,101,114,108,105,110,101]:Y_))) fun v29 =>
      grd (inb (w64 (aH (len x.1.2.2.2.2.2.2.1) 1)) (len x.1.2.2.2.2.2.2.1)) <|
      grd (ieq (w64 (aH (len x.1.2.2.2.2.2.2.1) 1)) (aH (len x.1.2.2.2.2.2.2.1) 1)) <|
      grd (ieq (ofN (toN (w64 (aH (len x.1.2.2.2.2.2.2.1) 1)))) (aH (len x.1.2.2.2.2.2.2.1) 1)) <|
      grd (inb (w64 (aH (len x.1.2.2.2.2.2.2.1) 1)) (len x.1.2.2.2.2.2.2.1)) <|
      grd (ieq (w64 (aH (len x.1.2.2.2.2.2.2.1) 1)) (aH (len x.1.2.2.2.2.2.2.1) 1)) <|
      grd (ieq (ofN (toN (w64 (aH (len x.1.2.2.2.2.2.2.1) 1)))) (aH (len x.1.2.2.2.2.2.2.1) 1)) <|
      grd (inb (w64 (aH (len (aI x.1.2.2.2.2.2.2.1 zE).2.2.2.2.2) 1)) (len (aI x.1.2.2.2.2.2.2.1 zE).2.2.2.2.2)) <|
      grd (ieq (w64 (aH (len (aI x.1.2.2.2.2.2.2.1 zE).2.2.2.2.2) 1)) (aH (len (aI x.1.2.2.2.2.2.2.1 zE).2.2.2.2.2) 1)) <|
      grd (ieq (ofN (toN (w64 (aH (len (aI x.1.2.2.2.2.2.2.1 zE).2.2.2.2.2) 1)))) (aH (len (aI x.1.2.2.2.2.2.2.1 zE).2.2.2.2.2) 1)) <|
      grd (cL (aE (len (aI (aI x.1.2.2.2.2.2.2.1 zE).2.2.2.2.2 [])) (len ([(([]:Y_),(v27.1,v28.1,v29.1),v26.1)]:List D5))) 40) <|
      grd (ieq (ofN (toN (w64 (aH (len (aI x.1.2.2.2.2.2.2.1 zE).2.2.2.2.2) 1)))) (aH (len (aI x.1.2.2.2.2.2.2.1 zE).2.2.2.2.2) 1)) <|
      v1 ((x.1.1,x.1.2.1,x.1.2.2.1,x.1.2.2.2.1,x.1.2.2.2.2.1,x.1.2.2.2.2.2.1,bJ x.1.2.2.2.2.2.2.1 ((aI x.1.2.2.2.2.2.2.1 zE).1,(aI x.1.2.2.2.2.2.2.1 zE).2.1,(aI x.1.2.2.2.2.2.2.1 zE).2.2.1,(aI x.1.2.2.2.2.2.2.1 zE).2.2.2.1,(aI x.1.2.2.2.2.2.2.1 zE).2.2.2.2.1,bJ (aI x.1.2.2.2.2.2.2.1 zE).2.2.2.2.2 (bL (aI (aI x.1.2.2.2.2.2.2.1 zE).2.2.2.2.2 []) ([(([]:Y_),(v27.1,v28.1,v29.1),v26.1)]:List D5))),x.1.2.2.2.2.2.2.2),v29.2))
      (grd (inb (w64 (aH (len x.1.2.2.2.2.2.2.1) 1)) (len x.1.2.2.2.2.2.2.1))
       (grd (ieq (w64 (aH (len x.1.2.2.2.2.2.2.1) 1)) (aH (len x.1.2.2.2.2.2.2.1) 1))
        (grd (ieq (ofN (toN (w64 (aH (len x.1.2.2.2.2.2.2.1) 1)))) (aH (len x.1.2.2.2.2.2.2.1) 1))
         (grd (inb (w64 (aH (len x.1.2.2.2.2.2.2.1) 1)) (len x.1.2.2.2.2.2.2.1))
          (grd (ieq (w64 (aH (len x.1.2.2.2.2.2.2.1) 1)) (aH (len x.1.2.2.2.2.2.2.1) 1))
           (grd (ieq (ofN (toN (w64 (aH (len x.1.2.2.2.2.2.2.1) 1)))) (aH (len x.1.2.2.2.2.2.2.1) 1))
            (grd (inb (w64 (aH (len (aI x.1.2.2.2.2.2.2.1 zE).2.2.2.2.2) 1)) (len (aI x.1.2.2.2.2.2.2.1 zE).2.2.2.2.2))
             (grd (ieq (w64 (aH (len (aI x.1.2.2.2.2.2.2.1 zE).2.2.2.2.2) 1)) (aH (len (aI x.1.2.2.2.2.2.2.1 zE).2.2.2.2.2) 1))
              (grd (ieq (ofN (toN (w64 (aH (len (aI x.1.2.2.2.2.2.2.1 zE).2.2.2.2.2) 1)))) (aH (len (aI x.1.2.2.2.2.2.2.1 zE).2.2.2.2.2) 1))
               (grd (ieq (ofN (toN (w64 (aH (len (aI x.1.2.2.2.2.2.2.1 zE).2.2.2.2.2) 1)))) (aH (len (aI x.1.2.2.2.2.2.2.1 zE).2.2.2.2.2) 1))
                (grd (inb (w64 (aH (len (aI (aI x.1.2.2.2.2.2.2.1 zE).2.2.2.2.2 [])) 1)) (len (aI (aI x.1.2.2.2.2.2.2.1 zE).2.2.2.2.2 [])))
                 (v1 ((x.1.1,x.1.2.1,x.1.2.2.1,x.1.2.2.2.1,x.1.2.2.2.2.1,x.1.2.2.2.2.2.1,bJ x.1.2.2.2.2.2.2.1 ((aI x.1.2.2.2.2.2.2.1 zE).1,(aI x.1.2.2.2.2.2.2.1 zE).2.1,(aI x.1.2.2.2.2.2.2.1 zE).2.2.1,(aI x.1.2.2.2.2.2.2.1 zE).2.2.2.1,(aI x.1.2.2.2.2.2.2.1 zE).2.2.2.2.1,bJ (aI x.1.2.2.2.2.2.2.1 zE).2.2.2.2.2 (nS (aI (aI x.1.2.2.2.2.2.2.1 zE).2.2.2.2.2 []) (toN (w64 (aH (len (aI (aI x.1.2.2.2.2.2.2.1 zE).2.2.2.2.2 [])) 1))) (x.2.2.1,(aA (aI (aI x.1.2.2.2.2.2.2.1 zE).2.2.2.2.2 []) (toN (w64 (aH (len (aI (aI x.1.2.2.2.2.2.2.1 zE).2.2.2.2.2 [])) 1))) zU).2))),x.1.2.2.2.2.2.2.2),x.2,0)))))))))))))))))
def RA:List PK:=[.k (.v (.slice Y2) [])]
def RB:List Kd:=[.v Y1 [],.v (.int .i64) [],.v (.int .i64) []]
def aG8(N:Nat) (x:List D1):Option (D7×Int×Int) :=
 bnd (q61 N x) fun v0 =>
 cnd (ine v0 0)
  (some ((([]:Y_),([]:Y_),0,false,0,([]:List D3),([]:List D2),([]:List D4)),0,v0))
  (jn (fun (v1:D7) =>
   bnd (q48 N (v1.1,v1.2.1,v1.2.2.1,v1.2.2.2.1,v1.2.2.2.2.1,v1.2.2.2.2.2.1,bJ v1.2.2.2.2.2.2.1 ((aI v1.2.2.2.2.2.2.1 zE).1,(aI v1.2.2.2.2.2.2.1 zE).2.1,(aI v1.2.2.2.2.2.2.1 zE).2.2.1,(aI v1.2.2.2.2.2.2.1 zE).2.2.2.1,(aI v1.2.2.2.2.2.2.1 zE).2.2.2.2.1,bJ (aI v1.2.2.2.2.2.2.1 zE).2.2.2.2.2 (aI (aI v1.2.2.2.2.2.2.1 zE).2.2.2.2.2 [])),v1.2.2.2.2.2.2.2)) fun v2 =>
   cnd (ine v2 0)
    (some ((([]:Y_),([]:Y_),0,false,0,([]:List D3),([]:List D2),([]:List D4)),0,v2))
    (some ((v1.1,v1.2.1,v1.2.2.1,v1.2.2.2.1,v1.2.2.2.2.1,v1.2.2.2.2.2.1,bJ v1.2.2.2.2.2.2.1 ((aI v1.2.2.2.2.2.2.1 zE).1,(aI v1.2.2.2.2.2.2.1 zE).2.1,(aI v1.2.2.2.2.2.2.1 zE).2.2.1,(aI v1.2.2.2.2.2.2.1 zE).2.2.2.1,(aI v1.2.2.2.2.2.2.1 zE).2.2.2.2.1,bJ (aI v1.2.2.2.2.2.2.1 zE).2.2.2.2.2 (aI (aI v1.2.2.2.2.2.2.1 zE).2.2.2.2.2 [])),v1.2.2.2.2.2.2.2),0,0)))
  fun v3 =>
  aY (fun v4 (v5:(List Y_)×Int×Y_×Y_×UInt8×Bool×Int×(List D3)×(List D2)×List D4) =>
   cnd (ilt v5.2.1 (len x))
    (grd (inb v5.2.1 (len x))
     (grd (in2 (aA x (toN v5.2.1) zN).2.2.2 (ofN (gE v5.1)))
      (jn (fun (v6:Y_) =>
       bnd (q91 N (aA x (toN v5.2.1) zN,v6,ieq (len v5.2.2.2.2.2.2.2.2.1) 0)) fun v7 =>
       cnd (bA v7)
        (some ((([]:Y_),([]:Y_),0,false,0,([]:List D3),([]:List D2),([]:List D4)),v5.2.1,4))
        (bnd (q94 N (aA x (toN v5.2.1) zN)) fun v8 =>
        cnd (bA v8)
         (some ((([]:Y_),([]:Y_),0,false,0,([]:List D3),([]:List D2),([]:List D4)),v5.2.1,4))
         (bnd (nK N ((v5.2.2.1,v5.2.2.2.1,v5.2.2.2.2.1,v5.2.2.2.2.2.1,v5.2.2.2.2.2.2.1,v5.2.2.2.2.2.2.2.1,bJ v5.2.2.2.2.2.2.2.2.1 ((aI v5.2.2.2.2.2.2.2.2.1 zE).1,(aI v5.2.2.2.2.2.2.2.2.1 zE).2.1,(aI v5.2.2.2.2.2.2.2.2.1 zE).2.2.1,(aI v5.2.2.2.2.2.2.2.2.1 zE).2.2.2.1,(aI v5.2.2.2.2.2.2.2.2.1 zE).2.2.2.2.1,bJ (aI v5.2.2.2.2.2.2.2.2.1 zE).2.2.2.2.2 (aI (aI v5.2.2.2.2.2.2.2.2.1 zE).2.2.2.2.2 [])),v5.2.2.2.2.2.2.2.2.2),aA x (toN v5.2.1) zN)) fun v9 =>
         cnd (ine v9.1 0)
          (some ((([]:Y_),([]:Y_),0,false,0,([]:List D3),([]:List D2),([]:List D4)),v5.2.1,v9.1))
          (grd (cL (aE (ofN (toN (aA x (toN v5.2.1) zN).2.2.2)) (len ([(aA x (toN v5.2.1) zN).1]:List Y_))) 16)
           (v4 (bL (aW (toN (aA x (toN v5.2.1) zN).2.2.2) v5.1) ([(aA x (toN v5.2.1) zN).1]:List Y_),w64 (aE v5.2.1 1),v9.2.1,v9.2.2.1,v9.2.2.2.1,v9.2.2.2.2.1,v9.2.2.2.2.2.1,v9.2.2.2.2.2.2.1,bJ v9.2.2.2.2.2.2.2.1 ((aI v9.2.2.2.2.2.2.2.1 zE).1,(aI v9.2.2.2.2.2.2.2.1 zE).2.1,(aI v9.2.2.2.2.2.2.2.1 zE).2.2.1,(aI v9.2.2.2.2.2.2.2.1 zE).2.2.2.1,(aI v9.2.2.2.2.2.2.2.1 zE).2.2.2.2.1,bJ (aI v9.2.2.2.2.2.2.2.1 zE).2.2.2.2.2 (aI (aI v9.2.2.2.2.2.2.2.1 zE).2.2.2.2.2 [])),v9.2.2.2.2.2.2.2.2))))))
      fun v10 =>
      cnd (ilt 0 (aA x (toN v5.2.1) zN).2.2.2)
       (grd (inb (w64 (aH (aA x (toN v5.2.1) zN).2.2.2 1)) (ofN (toN (aA x (toN v5.2.1) zN).2.2.2)))
        (v10 (aA v5.1 (nR 0 (toN (w64 (aH (aA x (toN v5.2.1) zN).2.2.2 1)))) [])))
       (v10 ([]:Y_)))))
    (v3 (v5.2.2.1,v5.2.2.2.1,v5.2.2.2.2.1,v5.2.2.2.2.2.1,v5.2.2.2.2.2.2.1,v5.2.2.2.2.2.2.2.1,bJ v5.2.2.2.2.2.2.2.2.1 ((aI v5.2.2.2.2.2.2.2.2.1 zE).1,(aI v5.2.2.2.2.2.2.2.2.1 zE).2.1,(aI v5.2.2.2.2.2.2.2.2.1 zE).2.2.1,(aI v5.2.2.2.2.2.2.2.2.1 zE).2.2.2.1,(aI v5.2.2.2.2.2.2.2.2.1 zE).2.2.2.2.1,bJ (aI v5.2.2.2.2.2.2.2.2.1 zE).2.2.2.2.2 (aI (aI v5.2.2.2.2.2.2.2.2.1 zE).2.2.2.2.2 [])),v5.2.2.2.2.2.2.2.2.2))) N (([]:List Y_),0,([]:Y_),([]:Y_),0,false,0,([]:List D3),([]:List D2),([]:List D4)))
def RC:List PK:=[.k (.v (.str) [])]
def RD:List Kd:=[.v Y1 [],.v (.slice Y6) [0]]
def aG9(N:Nat) (x:Y_):Option (D7×List D8) :=
 bnd (q90 N x) fun v0 =>
 cnd (ilt 0 (len v0.2))
  (some ((([]:Y_),([]:Y_),0,false,0,([]:List D3),([]:List D2),([]:List D4)),v0.2))
  (bnd (aG8 N v0.1) fun v1 =>
  cnd (ine v1.2.2 0)
   (some ((([]:Y_),([]:Y_),0,false,0,([]:List D3),([]:List D2),([]:List D4)),([(1,1,v1.2.2)]:List D8)))
   (some (v1.1,([]:List D8))))
def sP:List PK:=[.k (.v (.str) []),.k (.v (.int .i64) []),.k (.v (.int .i64) [])]
def sQ:List Kd:=[.v (.slice Y6) [0]]
def iH(N:Nat) (x:Y_×Int×Int):Option (List D8) :=
 jn (fun (v0:D8) =>
  some ([v0]:List D8))
 fun v1 =>
 aY (fun v2 (v3:Int×Int×Int×Int) =>
  cnd (ilt v3.1 x.2.1)
   (grd (inb v3.1 (len x.1))
    (cnd (ieq (n8 (aA x.1 (toN v3.1) 0)) (n8 10))
     (v2 (w64 (aE v3.1 1),w64 (aE v3.2.1 1),1,v3.2.2.2))
     (v2 (w64 (aE v3.1 1),v3.2.1,w64 (aE v3.2.2.1 1),v3.2.2.2))))
   (v1 v3.2)) N (0,1,1,x.2.2)
def lG:List PK:=[.k (.v (.str) []),.k (.v (.str) []),.k (.v (.int .i64) [])]
def lH:List Kd:=[.v (.int .i64) []]
def cS(N:Nat) (x:Y_×Y_×Int):Option (Int) :=
 jn (fun (v0:Unit) =>
  some (-1))
 fun v1 =>
 aY (fun v2 (v3:Int) =>
  cnd (ile (w64 (aE v3 (len x.2.1))) (len x.1))
   (grd (in3 v3 (w64 (aE v3 (len x.2.1))) (len x.1))
    (cnd (seq (bC (toN v3) (aW (toN (w64 (aE v3 (len x.2.1)))) x.1)) x.2.1)
     (some v3)
     (v2 (w64 (aE v3 1)))))
   (v1 ())) N x.2.2
def yM:List PK:=[.k (.v (.str) []),.k (.v (.str) [])]
def yN:List Kd:=[.v (.bool) []]
def yO(N:Nat) (x:Y_×Y_):Option (Bool) :=
 cnd (ile (len x.2) (len x.1))
  (grd (in2 (len x.2) (len x.1))
   (some (seq (aW (toN (len x.2)) x.1) x.2)))
  (some false)
def RE:List PK:=[.k (.v (.u8) [])]
def RF:List Kd:=[.v (.bool) []]
def IL(N:Nat) (x:UInt8):Option (Bool) :=
 cnd (ile (n8 97) (n8 x))
  (cnd (ile (n8 x) (n8 122))
   (some true)
   (cnd (ile (n8 65) (n8 x))
    (some (ile (n8 x) (n8 90)))
    (some false)))
  (cnd (ile (n8 65) (n8 x))
   (some (ile (n8 x) (n8 90)))
   (some false))
def EA:List PK:=[.k (.v (.u8) [])]
def EB:List Kd:=[.v (.bool) []]
def IM(N:Nat) (x:UInt8):Option (Bool) :=
 cnd (ile (n8 48) (n8 x))
  (some (ile (n8 x) (n8 57)))
  (some false)
def yP:List PK:=[.k (.v (.str) [])]
def yQ:List Kd:=[.v (.str) []]
def KM(N:Nat) (x:Y_):Option Y_ :=
 cnd (seq x ([]:Y_))
  (some ([]:Y_))
  (grd (inb 0 (len x))
   (bnd (IL N (aA x (toN 0) 0)) fun v0 =>
   cnd (bA v0)
    (some ([]:Y_))
    (jn (fun (v1:Int) =>
     grd (in2 v1 (len x)) <|
     some (aW (toN v1) x))
    fun v2 =>
    aY (fun v3 (v4:Int) =>
     cnd (ilt v4 (len x))
      (grd (inb v4 (len x))
       (bnd (IL N (aA x (toN v4) 0)) fun v5 =>
       cnd v5
        (v3 (w64 (aE v4 1)))
        (grd (inb v4 (len x))
         (bnd (IM N (aA x (toN v4) 0)) fun v6 =>
         cnd v6
          (v3 (w64 (aE v4 1)))
          (grd (inb v4 (len x))
           (cnd (ieq (n8 (aA x (toN v4) 0)) (n8 45))
            (v3 (w64 (aE v4 1)))
            (v2 v4)))))))
      (v2 v4)) N 1)))
def EC:List PK:=[.k (.v (.u8) [])]
def ED:List Kd:=[.v (.bool) []]
def KN(N:Nat) (x:UInt8):Option (Bool) :=
 cnd (ieq (n8 x) (n8 9))
  (some true)
  (cnd (ieq (n8 x) (n8 10))
   (some true)
   (cnd (ieq (n8 x) (n8 13))
    (some true)
    (some (ieq (n8 x) (n8 32)))))
def lI:List PK:=[.k (.v (.str) [])]
def lJ:List Kd:=[.v (.str) []]
def fF(N:Nat) (x:Y_):Option Y_ :=
 jn (fun (v0:Y_) =>
  some v0)
 fun v1 =>
 aY (fun v2 (v3:Y_) =>
  cnd (sne v3 ([]:Y_))
   (grd (inb 0 (len v3))
    (bnd (KN N (aA v3 (toN 0) 0)) fun v4 =>
    cnd v4
     (grd (in2 1 (len v3))
      (v2 (bC (toN 1) v3)))
     (v1 v3)))
   (v1 v3)) N x
def RG:List PK:=[.k (.v (.str) [])]
def RH:List Kd:=[.v (.st (.pair (.str) (.str))) [],.v (.str) [],.v (.bool) []]
def aA4(N:Nat) (x:Y_):Option (D6×Y_×Bool) :=
 bnd (fF N x) fun v0 =>
 bnd (KM N v0) fun v1 =>
 cnd (ieq (len v0) (len x))
  (some ((([]:Y_),([]:Y_)),x,false))
  (cnd (seq v1 ([]:Y_))
   (some ((([]:Y_),([]:Y_)),x,false))
   (grd (in2 (len v1) (len v0))
    (bnd (fF N (bC (toN (len v1)) v0)) fun v2 =>
    bnd (yO N (v2,([61]:Y_))) fun v3 =>
    cnd (bA v3)
     (some ((([]:Y_),([]:Y_)),x,false))
     (grd (in2 1 (len v2))
      (bnd (fF N (bC (toN 1) v2)) fun v4 =>
      jn (fun (v5:Unit) =>
       grd (in2 1 (len v4)) <|
       bnd (cS N (v4,aW (toN 1) v4,1)) fun v6 =>
       cnd (ilt v6 0)
        (some ((([]:Y_),([]:Y_)),x,false))
        (grd (in2 v6 (len v4))
         (bnd (cS N (aW (toN v6) v4,([60]:Y_),0)) fun v7 =>
         cnd (ile 0 v7)
          (some ((([]:Y_),([]:Y_)),x,false))
          (grd (in3 1 v6 (len v4))
           (grd (in2 (w64 (aE v6 1)) (len v4))
            (some ((v1,bC (toN 1) (aW (toN v6) v4)),bC (toN (w64 (aE v6 1))) v4,true)))))))
      fun v8 =>
      cnd (seq v4 ([]:Y_))
       (some ((([]:Y_),([]:Y_)),x,false))
       (grd (inb 0 (len v4))
        (cnd (ine (n8 (aA v4 (toN 0) 0)) (n8 34))
         (grd (inb 0 (len v4))
          (cnd (ine (n8 (aA v4 (toN 0) 0)) (n8 39))
           (some ((([]:Y_),([]:Y_)),x,false))
           (v8 ())))
         (v8 ()))))))))
def wI:List PK:=[.k (.v (.str) [])]
def wJ:List Kd:=[.v Y7 [3]]
def uH(N:Nat) (x:Y_):Option (Int×Int×Y_×List D6) :=
 grd (in2 1 (len x)) <|
 jn (fun (v0:Y_×Int×Int×Y_×List D6) =>
  bnd (KM N v0.1) fun v1 =>
  cnd (seq v1 ([]:Y_))
   (some (0,0,([]:Y_),([]:List D6)))
   (grd (in2 (len v1) (len v0.1))
    (jn (fun (v2:Y_×Int×Int×Y_×List D6) =>
     bnd (fF N v2.1) fun v3 =>
     jn (fun (v4:Y_×Int×Int×Y_×List D6) =>
      bnd (yO N (v4.1,([62]:Y_))) fun v5 =>
      cnd (bA v5)
       (some (0,0,([]:Y_),([]:List D6)))
       (some (v4.2.1,w64 (aE (w64 (aH (len x) (len v4.1))) 1),v4.2.2.2)))
     fun v6 =>
     cnd (ieq v2.2.1 3)
      (bnd (yO N (v3,([47]:Y_))) fun v7 =>
      cnd v7
       (grd (in2 1 (len v3))
        (v6 (bC (toN 1) v3,4,v2.2.2)))
       (v6 (v3,v2.2)))
      (v6 (v3,v2.2)))
    fun v8 =>
    aY (fun v9 (v10:Y_×Int×Int×Y_×List D6) =>
     cnd (ieq v10.2.1 3)
      (bnd (aA4 N v10.1) fun v11 =>
      cnd (bA v11.2.2)
       (v8 v10)
       (grd (cL (aE (len v10.2.2.2.2) (len ([v11.1]:List D6))) 32)
        (v9 (v11.2.1,v10.2.1,v10.2.2.1,v10.2.2.2.1,bL v10.2.2.2.2 ([v11.1]:List D6)))))
      (v8 v10)) N (bC (toN (len v1)) v0.1,v0.2.1,v0.2.2.1,v1,v0.2.2.2.2))))
 fun v12 =>
 bnd (yO N (bC (toN 1) x,([47]:Y_))) fun v13 =>
 cnd v13
  (grd (in2 1 (len (bC (toN 1) x)))
   (v12 (bC (toN 1) (bC (toN 1) x),5,0,([]:Y_),([]:List D6))))
  (v12 (bC (toN 1) x,3,0,([]:Y_),([]:List D6)))
def sR:List PK:=[.k (.v (.str) [])]
def sS:List Kd:=[.v Y7 [3]]
def pI(N:Nat) (x:Y_):Option (Int×Int×Y_×List D6) :=
 grd (inb 0 (len x)) <|
 cnd (ine (n8 (aA x (toN 0) 0)) (n8 60))
  (bnd (cS N (x,([60]:Y_),0)) fun v0 =>
  cnd (ilt v0 0)
   (some (6,len x,([]:Y_),([]:List D6)))
   (some (6,v0,([]:Y_),([]:List D6))))
  (bnd (yO N (x,([60,63]:Y_))) fun v1 =>
  cnd v1
   (bnd (cS N (x,([63,62]:Y_),2)) fun v2 =>
   cnd (ile 0 v2)
    (some (1,w64 (aE v2 2),([]:Y_),([]:List D6)))
    (some (0,0,([]:Y_),([]:List D6))))
   (bnd (yO N (x,([60,33,45,45]:Y_))) fun v3 =>
   cnd v3
    (bnd (cS N (x,([45,45,62]:Y_),4)) fun v4 =>
    cnd (ile 0 v4)
     (some (2,w64 (aE v4 3),([]:Y_),([]:List D6)))
     (some (0,0,([]:Y_),([]:List D6))))
    (bnd (uH N x) fun v5 =>
    some v5)))
def RI:List PK:=[.k (.v (.str) [])]
def RJ:List Kd:=[.v (.str) []]
def aHA(N:Nat) (x:Y_):Option Y_ :=
 grd (dQ (len x)) <|
 jn (fun (v0:Y_) =>
  some v0)
 fun v1 =>
 aY (fun v2 (v3:Int×Y_) =>
  cnd (ilt v3.1 (len x))
   (grd (inb v3.1 (len v3.2))
    (bnd (KN N (aA v3.2 (toN v3.1) 0)) fun v4 =>
    cnd v4
     (grd (inb v3.1 (len v3.2))
      (v2 (w64 (aE v3.1 1),nS v3.2 (toN v3.1) 32)))
     (v2 (w64 (aE v3.1 1),v3.2))))
   (v1 v3.2)) N (0,x)
def wK:List PK:=[.k (.v (.u8) [])]
def wL:List Kd:=[.v (.int .i64) []]
def mG(N:Nat) (x:UInt8):Option (Int) :=
 bnd (IM N x) fun v0 =>
 cnd v0
  (some (w64 (n8 (b8 (aH (n8 x) (n8 48))))))
  (jn (fun (v1:Bool) =>
   cnd v1
    (some (w64 (aE (w64 (n8 (b8 (aH (n8 x) (n8 97))))) 10)))
    (cnd (ile (n8 65) (n8 x))
     (cnd (ile (n8 x) (n8 70))
      (some (w64 (aE (w64 (n8 (b8 (aH (n8 x) (n8 65))))) 10)))
      (some (-1)))
     (some (-1))))
  fun v2 =>
  cnd (ile (n8 97) (n8 x))
   (v2 (ile (n8 x) (n8 102)))
   (v2 false))
def sT:List PK:=[.k (.v (.str) []),.k (.v (.int .i64) []),.k (.v (.int .i64) [])]
def sU:List Kd:=[.v (.int .i64) []]
def fG(N:Nat) (x:Y_×Int×Int):Option (Int) :=
 cnd (seq x.1 ([]:Y_))
  (some (-1))
  (cnd (ilt x.2.2 (len x.1))
   (some (-1))
   (jn (fun (v0:Int) =>
    some v0)
   fun v1 =>
   aY (fun v2 (v3:Int×Int) =>
    cnd (ilt v3.2 (len x.1))
     (grd (inb v3.2 (len x.1))
      (bnd (mG N (aA x.1 (toN v3.2) 0)) fun v4 =>
      cnd (ilt v4 0)
       (some (-1))
       (cnd (ile x.2.1 v4)
        (some (-1))
        (v2 (w64 (aE (w64 (jX v3.1 x.2.1)) v4),w64 (aE v3.2 1))))))
     (v1 v3.1)) N (0,0)))
def RK:List PK:=[]
def RL:List Kd:=[.v (.str) []]
def aP8(N:Nat) (x:Unit):Option Y_ :=
 some ([32,33,34,35,36,37,38,39,40,41,42,43,44,45,46,47,48,49,50,51,52,53,54,55,56,57,58,59,60,61,62,63,64,65,66,67,68,69,70,71,72,73,74,75,76,77,78,79,80,81,82,83,84,85,86,87,88,89,90,91,92,93,94,95,96,97,98,99,100,101,102,103,104,105,106,107,108,109,110,111,112,113,114,115,116,117,118,119,120,121,122,123,124,125,126,194,161,194,162,194,163,194,164,194,165,194,166,194,167,194,169,194,171,194,174,194,176,194,183,194,187,194,189,194,191,195,128,195,129,195,130,195,131,195,132,195,133,195,134,195,135,195,136,195,137,195,138,195,139,195,140,195,141,195,142,195,143,195,145,195,146,195,147,195,148,195,149,195,150,195,152,195,153,195,154,195,155,195,156,195,159,195,160,195,161,195,162,195,163,195,164,195,165,195,166,195,167,195,168,195,169,195,170,195,171,195,172,195,173,195,174,195,175,195,177,195,178,195,179,195,180,195,181,195,182,195,184,195,185,195,186,195,187,195,188,197,146,197,147,226,128,148,226,128,152,226,128,153,226,128,156,226,128,157,226,128,162,226,128,166,226,132,162,226,153,170]:Y_)
def yR:List PK:=[.k (.v (.int .i32) [])]
def yS:List Kd:=[.v (.int .i64) []]
def uZ(N:Nat) (x:Int):Option (Int) :=
 jn (fun (v0:Unit) =>
  jn (fun (v1:Unit) =>
   some (-1))
  fun v2 =>
  bnd (aP8 N ()) fun v3 =>
  aY (fun v4 (v5:Int×Y_×Int) =>
   cnd (nlt (toN v5.2.2) (gE v5.2.1))
    (cnd (ieq (uV v5.2.1 (toN v5.2.2)) x)
     (some v5.1)
     (v4 (w64 (aE v5.1 1),v5.2.1,ofN (nR (toN v5.2.2) (vN v5.2.1 (toN v5.2.2))))))
    (v2 ())) N (0,v3,ofN 0))
 fun v6 =>
 cnd (ile 32 x)
  (cnd (ile x 126)
   (some (w64 (wr .i32 (aH x 32))))
   (v6 ()))
  (v6 ())
def BI:List PK:=[.k (.v (.slice (.int .i32)) [])]
def BJ:List Kd:=[.v (.str) []]
def qJ(N:Nat) (x:List Int):Option Y_ :=
 jn (fun (v0:Y_) =>
  some v0)
 fun v1 =>
 aY (fun v2 (v3:Y_×Int) =>
  cnd (ilt v3.2 (len x))
   (grd (inb v3.2 (len x))
    (bnd (uZ N (aA x (toN v3.2) 0)) fun v4 =>
    cnd (ilt v4 0)
     (some ([]:Y_))
     (grd (dQ (aE (len v3.1) (len (enc (aA x (toN v3.2) 0)))))
      (v2 (bL v3.1 (enc (aA x (toN v3.2) 0)),w64 (aE v3.2 1))))))
   (v1 v3.1)) N (([]:Y_),0)
def RM:List PK:=[.k (.v (.str) [])]
def RN:List Kd:=[.v (.str) [],.v (.int .i64) []]
def C0(N:Nat) (x:Y_):Option (Y_×Int) :=
 jn (fun (v0:Unit) =>
  jn (fun (v1:Int) =>
   cnd (ilt v1 0)
    (some (([]:Y_),4))
    (bnd (uZ N (wr .i32 v1)) fun v2 =>
    cnd (ilt v2 0)
     (some (([]:Y_),10))
     (bnd (qJ N ([wr .i32 v1]:List Int)) fun v3 =>
     some (v3,0))))
  fun v4 =>
  jn (fun (v5:Bool) =>
   cnd v5
    (grd (in2 2 (len x))
     (bnd (fG N (bC (toN 2) x,16,5)) fun v6 =>
     v4 v6))
    (cnd (ilt 0 (len x))
     (grd (inb 0 (len x))
      (cnd (ieq (n8 (aA x (toN 0) 0)) (n8 35))
       (grd (in2 1 (len x))
        (bnd (fG N (bC (toN 1) x,10,6)) fun v7 =>
        v4 v7))
       (v4 (-1))))
     (v4 (-1))))
  fun v8 =>
  cnd (ilt 1 (len x))
   (grd (inb 0 (len x))
    (cnd (ieq (n8 (aA x (toN 0) 0)) (n8 35))
     (grd (inb 1 (len x))
      (v8 (ieq (n8 (aA x (toN 1) 0)) (n8 120))))
     (v8 false)))
   (v8 false))
 fun v9 =>
 aY (fun v10 (v11:Int) =>
  cnd (ilt v11 (len ([([97,109,112]:Y_),([108,116]:Y_),([103,116]:Y_),([113,117,111,116]:Y_),([97,112,111,115]:Y_)]:List Y_)))
   (grd (inb v11 (len ([([97,109,112]:Y_),([108,116]:Y_),([103,116]:Y_),([113,117,111,116]:Y_),([97,112,111,115]:Y_)]:List Y_)))
    (cnd (seq (aA ([([97,109,112]:Y_),([108,116]:Y_),([103,116]:Y_),([113,117,111,116]:Y_),([97,112,111,115]:Y_)]:List Y_) (toN v11) []) x)
     (grd (inb v11 (len ([([38]:Y_),([60]:Y_),([62]:Y_),([34]:Y_),([39]:Y_)]:List Y_)))
      (some (aA ([([38]:Y_),([60]:Y_),([62]:Y_),([34]:Y_),([39]:Y_)]:List Y_) (toN v11) [],0)))
     (v10 (w64 (aE v11 1)))))
   (v9 ())) N 0
def RO:List PK:=[.k (.v (.str) [])]
def RP:List Kd:=[.v (.str) [],.v (.int .i64) []]
def aHB(N:Nat) (x:Y_):Option (Y_×Int) :=
 jn (fun (v0:Y_) =>
  some (v0,0))
 fun v1 =>
 aY (fun v2 (v3:Y_×Int) =>
  cnd (ilt v3.2 (len x))
   (jn (fun (v4:Y_×Int) =>
    v2 (v4.1,w64 (aE v4.2 1)))
   fun v5 =>
   grd (inb v3.2 (len x)) <|
   cnd (ieq (n8 (aA x (toN v3.2) 0)) (n8 60))
    (some (([]:Y_),4))
    (grd (inb v3.2 (len x))
     (cnd (ine (n8 (aA x (toN v3.2) 0)) (n8 38))
      (grd (in3 v3.2 (w64 (aE v3.2 1)) (len x))
       (grd (dQ (aE (len v3.1) (len (bC (toN v3.2) (aW (toN (w64 (aE v3.2 1))) x)))))
        (v5 (bL v3.1 (bC (toN v3.2) (aW (toN (w64 (aE v3.2 1))) x)),v3.2))))
      (jn (fun (v6:Int) =>
       cnd (ieq v6 (len x))
        (some (([]:Y_),4))
        (grd (in3 (w64 (aE v3.2 1)) v6 (len x))
         (bnd (C0 N (bC (toN (w64 (aE v3.2 1))) (aW (toN v6) x))) fun v7 =>
         cnd (ine v7.2 0)
          (some (([]:Y_),v7.2))
          (grd (dQ (aE (len v3.1) (len v7.1)))
           (v5 (bL v3.1 v7.1,v6))))))
      fun v8 =>
      aY (fun v9 (v10:Int) =>
       cnd (ilt v10 (len x))
        (grd (inb v10 (len x))
         (cnd (ine (n8 (aA x (toN v10) 0)) (n8 59))
          (v9 (w64 (aE v10 1)))
          (v8 v10)))
        (v8 v10)) N (w64 (aE v3.2 1))))))
   (v1 v3.1)) N (([]:Y_),0)
def mH:List PK:=[.k (.v (.str) [])]
def mI:List Kd:=[.v (.bool) []]
def nT(N:Nat) (x:Y_):Option (Bool) :=
 jn (fun (v0:Unit) =>
  some true)
 fun v1 =>
 aY (fun v2 (v3:Y_×Int) =>
  cnd (nlt (toN v3.2) (gE v3.1))
   (bnd (uZ N (uV v3.1 (toN v3.2))) fun v4 =>
   cnd (ilt v4 0)
    (some false)
    (v2 (v3.1,ofN (nR (toN v3.2) (vN v3.1 (toN v3.2))))))
   (v1 ())) N (x,ofN 0)
def EE:List PK:=[.k (.v (.str) [])]
def EF:List Kd:=[.v (.str) [],.v (.int .i64) []]
def KO(N:Nat) (x:Y_):Option (Y_×Int) :=
 bnd (aHA N x) fun v0 =>
 bnd (aHB N v0) fun v1 =>
 jn (fun (v2:Int) =>
  cnd (ine v2 0)
   (some (([]:Y_),v2))
   (some (v1.1,0)))
 fun v3 =>
 cnd (ieq v1.2 0)
  (bnd (nT N v1.1) fun v4 =>
  cnd (bA v4)
   (v3 10)
   (v3 v1.2))
  (v3 v1.2)
def EG:List PK:=[.k (.b 182 Y12 [0,1]),.k (.v (.bool) [])]
def EH:List Kd:=[.v (.int .i64) []]
def DG(N:Nat) (x:((List D1)×(List Y_)×Bool×Bool)×Bool):Option (Int×(List D1)×(List Y_)×Bool×Bool) :=
 jn (fun (v0:Bool) =>
  cnd v0
   (some (8,x.1))
   (cnd (ilt 15 (len x.1.2.1))
    (some (9,x.1))
    (cnd (ieq (len x.1.1) 8192)
     (cnd x.2
      (some (9,x.1))
      (cnd (bA x.1.2.2.2)
       (some (9,x.1))
       (some (0,x.1))))
     (some (0,x.1)))))
 fun v1 =>
 cnd x.1.2.2.1
  (v1 true)
  (cnd (bA x.2)
   (v1 (ieq (len x.1.2.1) 0))
   (v1 false))
def RQ:List PK:=[.k (.b 182 Y12 [0,1]),.k (.v (.str) [])]
def RR:List Kd:=[.v (.int .i64) []]
def aHC(N:Nat) (x:((List D1)×(List Y_)×Bool×Bool)×Y_):Option (Int×(List D1)×(List Y_)×Bool×Bool) :=
 jn (fun (v0:Unit) =>
  bnd (KO N x.2) fun v1 =>
  cnd (ine v1.2 0)
   (some (v1.2,x.1))
   (bnd (DG N (x.1,false)) fun v2 =>
   cnd (ine v2.1 0)
    (some v2)
    (cnd v2.2.2.2.2
     (grd (inb (w64 (aH (len v2.2.1) 1)) (len v2.2.1))
      (grd (dQ (aE (len (aA v2.2.1 (toN (w64 (aH (len v2.2.1) 1))) zN).2.1) (len v1.1)))
       (grd (inb (w64 (aH (len v2.2.1) 1)) (len v2.2.1))
        (some (0,nS v2.2.1 (toN (w64 (aH (len v2.2.1) 1))) ((aA v2.2.1 (toN (w64 (aH (len v2.2.1) 1))) zN).1,bL (aA v2.2.1 (toN (w64 (aH (len v2.2.1) 1))) zN).2.1 v1.1,(aA v2.2.1 (toN (w64 (aH (len v2.2.1) 1))) zN).2.2),v2.2.2)))))
     (grd (cL (aE (len v2.2.1) (len ([(([]:Y_),v1.1,([]:List D6),len v2.2.2.1)]:List D1))) 64)
      (some (0,bL v2.2.1 ([(([]:Y_),v1.1,([]:List D6),len v2.2.2.1)]:List D1),v2.2.2.1,v2.2.2.2.1,true))))))
 fun v3 =>
 bnd (fF N x.2) fun v4 =>
 cnd (seq v4 ([]:Y_))
  (bnd (cS N (x.2,([10]:Y_),0)) fun v5 =>
  cnd (ile 0 v5)
   (some (0,x.1))
   (cnd (ieq (len x.1.2.1) 0)
    (some (0,x.1))
    (v3 ())))
  (v3 ())
def lK:List PK:=[.k (.v (.str) [])]
def lL:List Kd:=[.v (.bool) []]
def eN(N:Nat) (x:Y_):Option (Bool) :=
 cnd (sne x ([]:Y_))
  (cnd (ile (len x) 32)
   (bnd (KM N x) fun v0 =>
   some (seq v0 x))
   (some false))
  (some false)
def RS:List PK:=[.k (.b 182 Y12 [0,1]),.k (.v Y7 [])]
def RT:List Kd:=[.v (.int .i64) []]
def aHD(N:Nat) (x:((List D1)×(List Y_)×Bool×Bool)×Int×Int×Y_×List D6):Option (Int×(List D1)×(List Y_)×Bool×Bool) :=
 cnd (ilt (w64 (aH (len x.1.2.1) 1)) 0)
  (some (8,x.1))
  (grd (inb (w64 (aH (len x.1.2.1) 1)) (len x.1.2.1))
   (cnd (sne (aA x.1.2.1 (toN (w64 (aH (len x.1.2.1) 1))) []) x.2.2.2.1)
    (some (8,x.1))
    (grd (in2 (w64 (aH (len x.1.2.1) 1)) (ofN (gE x.1.2.1)))
     (some (0,x.1.1,gG x.1.2.1 0 (toN (w64 (aH (len x.1.2.1) 1))),ieq (w64 (aH (len x.1.2.1) 1)) 0,false)))))
def RU:List PK:=[.k (.b 182 Y12 [0,1]),.k (.v Y7 [])]
def RV:List Kd:=[.v (.int .i64) []]
def aHE(N:Nat) (x:((List D1)×(List Y_)×Bool×Bool)×Int×Int×Y_×List D6):Option (Int×(List D1)×(List Y_)×Bool×Bool) :=
 jn (fun (v0:Unit) =>
  cnd (ilt 16 (len x.2.2.2.2))
   (some (9,x.1))
   (jn (fun (v1:D1) =>
    bnd (DG N (x.1,true)) fun v2 =>
    cnd (ine v2.1 0)
     (some v2)
     (grd (cL (aE (len v2.2.1) (len ([v1]:List D1))) 64)
      (cnd (ieq x.2.1 3)
       (grd (cL (aE (len v2.2.2.1) (len ([x.2.2.2.1]:List Y_))) 16)
        (some (0,bL v2.2.1 ([v1]:List D1),bL v2.2.2.1 ([x.2.2.2.1]:List Y_),ieq (len (bL v2.2.2.1 ([x.2.2.2.1]:List Y_))) 0,false)))
       (some (0,bL v2.2.1 ([v1]:List D1),v2.2.2.1,ieq (len v2.2.2.1) 0,false)))))
   fun v3 =>
   aY (fun v4 (v5:Int×Y_×Y_×(List D6)×Int) =>
    cnd (ilt v5.1 (len x.2.2.2.2))
     (jn (fun (v6:D1) =>
      v4 (w64 (aE v5.1 1),v6))
     fun v7 =>
     grd (inb v5.1 (len x.2.2.2.2)) <|
     jn (fun (v8:Unit) =>
      bnd (KO N (aA x.2.2.2.2 (toN v5.1) ([],[])).2) fun v9 =>
      cnd (ine v9.2 0)
       (some (v9.2,x.1))
       (grd (cL (aE (len v5.2.2.2.1) (len ([((aA x.2.2.2.2 (toN v5.1) ([],[])).1,v9.1)]:List D6))) 32)
        (v7 (v5.2.1,v5.2.2.1,bL v5.2.2.2.1 ([((aA x.2.2.2.2 (toN v5.1) ([],[])).1,v9.1)]:List D6),v5.2.2.2.2))))
     fun v10 =>
     grd (in2 v5.1 (len x.2.2.2.2)) <|
     aY (fun v11 (v12:Int) =>
      cnd (ilt v12 (len (aW (toN v5.1) x.2.2.2.2)))
       (grd (inb v12 (len (aW (toN v5.1) x.2.2.2.2)))
        (cnd (seq (aA x.2.2.2.2 (toN v5.1) ([],[])).1 (aA (aW (toN v5.1) x.2.2.2.2) (toN v12) ([],[])).1)
         (some (7,x.1))
         (v11 (w64 (aE v12 1)))))
       (v10 ())) N 0)
     (v3 v5.2)) N (0,x.2.2.2.1,([]:Y_),([]:List D6),len x.1.2.1)))
 fun v13 =>
 aY (fun v14 (v15:Int) =>
  cnd (ilt v15 (len x.2.2.2.2))
   (grd (inb v15 (len x.2.2.2.2))
    (bnd (eN N (aA x.2.2.2.2 (toN v15) ([],[])).1) fun v16 =>
    cnd (bA v16)
     (some (5,x.1))
     (v14 (w64 (aE v15 1)))))
   (v13 ())) N 0
def RW:List PK:=[.k (.b 182 Y12 [0,1]),.k (.v (.str) []),.k (.v (.int .i64) []),.k (.v Y7 [])]
def RX:List Kd:=[.v (.int .i64) []]
def C1(N:Nat) (x:((List D1)×(List Y_)×Bool×Bool)×Y_×Int×Int×Int×Y_×List D6):Option (Int×(List D1)×(List Y_)×Bool×Bool) :=
 cnd (ieq x.2.2.2.1 0)
  (some (4,x.1))
  (cnd (ieq x.2.2.2.1 1)
   (cnd (ilt 0 x.2.2.1)
    (some (4,x.1))
    (some (0,x.1)))
   (cnd (ieq x.2.2.2.1 6)
    (grd (in3 x.2.2.1 (w64 (aE x.2.2.1 x.2.2.2.2.1)) (len x.2.1))
     (bnd (aHC N (x.1,bC (toN x.2.2.1) (aW (toN (w64 (aE x.2.2.1 x.2.2.2.2.1))) x.2.1))) fun v0 =>
     some v0))
    (jn (fun (v1:Bool) =>
     cnd v1
      (bnd (eN N x.2.2.2.2.2.1) fun v2 =>
      cnd (bA v2)
       (some (5,x.1))
       (cnd (ieq x.2.2.2.1 5)
        (bnd (aHD N (x.1,x.2.2.2)) fun v3 =>
        some v3)
        (bnd (aHE N (x.1,x.2.2.2)) fun v4 =>
        some v4)))
      (some (0,x.1)))
    fun v5 =>
    cnd (ieq x.2.2.2.1 3)
     (v5 (ieq x.2.2.2.1 3))
     (cnd (ieq x.2.2.2.1 4)
      (v5 (ieq x.2.2.2.1 4))
      (v5 (ieq x.2.2.2.1 5))))))
def RY:List PK:=[.k (.v (.str) [])]
def RZ:List Kd:=[.v (.slice Y2) [0],.v (.slice Y6) [0]]
def aHF(N:Nat) (x:Y_):Option ((List D1)×List D8) :=
 cnd (ilt 262144 (len x))
  (bnd (iH N (x,0,9)) fun v0 =>
  some (([]:List D1),v0))
  (jn (fun (v1:(List D1)×(List Y_)×Bool×Bool) =>
   cnd (bA v1.2.2.1)
    (bnd (iH N (x,len x,4)) fun v2 =>
    some (([]:List D1),v2))
    (some (v1.1,([]:List D8))))
  fun v3 =>
  aY (fun v4 (v5:Int×(List D1)×(List Y_)×Bool×Bool) =>
   cnd (ilt v5.1 (len x))
    (grd (in2 v5.1 (len x))
     (bnd (pI N (bC (toN v5.1) x)) fun v6 =>
     bnd (C1 N (v5.2,x,v5.1,v6)) fun v7 =>
     cnd (ine v7.1 0)
      (bnd (iH N (x,v5.1,v7.1)) fun v8 =>
      some (([]:List D1),v8))
      (v4 (w64 (aE v5.1 v6.2.1),v7.2))))
    (v3 v5.2)) N (0,([]:List D1),([]:List Y_),false,false))
def SA:List PK:=[.k (.v Y2 [])]
def SB:List Kd:=[.v (.int .i64) []]
def aA5(N:Nat) (x:D1):Option (Int) :=
 bnd (eN N x.1) fun v0 =>
 cnd (bA v0)
  (some 5)
  (cnd (sne x.2.1 ([]:Y_))
   (some 4)
   (cnd (ilt 16 (len x.2.2.1))
    (some 9)
    (jn (fun (v1:Unit) =>
     some 0)
    fun v2 =>
    aY (fun v3 (v4:Int) =>
     cnd (ilt v4 (len x.2.2.1))
      (jn (fun (v5:Unit) =>
       v3 (w64 (aE v4 1)))
      fun v6 =>
      grd (inb v4 (len x.2.2.1)) <|
      bnd (eN N (aA x.2.2.1 (toN v4) ([],[])).1) fun v7 =>
      cnd (bA v7)
       (some 5)
       (jn (fun (v8:Unit) =>
        bnd (nT N (aA x.2.2.1 (toN v4) ([],[])).2) fun v9 =>
        cnd (bA v9)
         (some 10)
         (v6 ()))
       fun v10 =>
       grd (in2 v4 (len x.2.2.1)) <|
       aY (fun v11 (v12:Int) =>
        cnd (ilt v12 (len (aW (toN v4) x.2.2.1)))
         (grd (inb v12 (len (aW (toN v4) x.2.2.1)))
          (cnd (seq (aA x.2.2.1 (toN v4) ([],[])).1 (aA (aW (toN v4) x.2.2.1) (toN v12) ([],[])).1)
           (some 7)
           (v11 (w64 (aE v12 1)))))
         (v10 ())) N 0))
      (v2 ())) N 0)))
def SC:List PK:=[.k (.v (.slice Y2) [])]
def SD:List Kd:=[.v (.int .i64) []]
def aHG(N:Nat) (x:List D1):Option (Int) :=
 cnd (ieq (len x) 0)
  (some 6)
  (cnd (ilt 8192 (len x))
   (some 9)
   (jn (fun (v0:Unit) =>
    some 0)
   fun v1 =>
   aY (fun v2 (v3:Int) =>
    cnd (ilt v3 (len x))
     (grd (inb v3 (len x))
      (jn (fun (v4:Unit) =>
       jn (fun (v5:Unit) =>
        cnd (ilt 15 (aA x (toN v3) zN).2.2.2)
         (some 9)
         (cnd (sne (aA x (toN v3) zN).1 ([]:Y_))
          (bnd (aA5 N (aA x (toN v3) zN)) fun v6 =>
          cnd (ine v6 0)
           (some v6)
           (v2 (w64 (aE v3 1))))
          (jn (fun (v7:Bool) =>
           cnd v7
            (some 8)
            (cnd (seq (aA x (toN v3) zN).2.1 ([]:Y_))
             (some 4)
             (cnd (ilt 0 (len (aA x (toN v3) zN).2.2.1))
              (some 4)
              (bnd (nT N (aA x (toN v3) zN).2.1) fun v8 =>
              cnd (bA v8)
               (some 10)
               (v2 (w64 (aE v3 1)))))))
          fun v9 =>
          cnd (ieq v3 0)
           (v9 true)
           (grd (inb (w64 (aH v3 1)) (len x))
            (cnd (seq (aA x (toN (w64 (aH v3 1))) zN).1 ([]:Y_))
             (grd (inb (w64 (aH v3 1)) (len x))
              (v9 (ieq (aA x (toN (w64 (aH v3 1))) zN).2.2.2 (aA x (toN v3) zN).2.2.2)))
             (v9 false))))))
       fun v10 =>
       cnd (ilt 0 v3)
        (grd (inb (w64 (aH v3 1)) (len x))
         (grd (inb (w64 (aH v3 1)) (len x))
          (cnd (sne (aA x (toN (w64 (aH v3 1))) zN).1 ([]:Y_))
           (cnd (ilt (w64 (aE (aA x (toN (w64 (aH v3 1))) zN).2.2.2 1)) (aA x (toN v3) zN).2.2.2)
            (some 8)
            (v10 ()))
           (cnd (ilt (aA x (toN (w64 (aH v3 1))) zN).2.2.2 (aA x (toN v3) zN).2.2.2)
            (some 8)
            (v10 ())))))
        (v10 ()))
      fun v11 =>
      cnd (ieq v3 0)
       (cnd (ine (aA x (toN v3) zN).2.2.2 0)
        (some 8)
        (cnd (ilt 0 v3)
         (cnd (ilt (aA x (toN v3) zN).2.2.2 1)
          (some 8)
          (v11 ()))
         (v11 ())))
       (cnd (ilt 0 v3)
        (cnd (ilt (aA x (toN v3) zN).2.2.2 1)
         (some 8)
         (v11 ()))
        (v11 ()))))
     (v1 ())) N 0))
def SE:List PK:=[.k (.v (.slice Y2) []),.k (.v (.int .i64) [])]
def SG:List Kd:=[.v (.bool) []]
def aHH(N:Nat) (x:(List D1)×Int):Option (Bool) :=
 grd (inb x.2 (len x.1)) <|
 jn (fun (v0:Unit) =>
  cnd (ilt (aA x.1 (toN x.2) zN).2.2.2 2)
   (cnd (sne (aA x.1 (toN x.2) zN).1 ([114,101,103,105,111,110]:Y_))
    (some true)
    (cnd (ieq x.2 1)
     (some true)
     (grd (inb (w64 (aH x.2 1)) (len x.1))
      (some (seq (aA x.1 (toN (w64 (aH x.2 1))) zN).1 ([114,101,103,105,111,110]:Y_))))))
   (jn (fun (v1:Int) =>
    grd (inb v1 (len x.1)) <|
    grd (inb (w64 (aH (aA x.1 (toN x.2) zN).2.2.2 1)) (len ([([116,116]:Y_),([112]:Y_),([114,111,119]:Y_),([114,117,110]:Y_),([]:Y_)]:List Y_))) <|
    some (seq (aA x.1 (toN v1) zN).1 (aA ([([116,116]:Y_),([112]:Y_),([114,111,119]:Y_),([114,117,110]:Y_),([]:Y_)]:List Y_) (toN (w64 (aH (aA x.1 (toN x.2) zN).2.2.2 1))) [])))
   fun v2 =>
   aY (fun v3 (v4:Int) =>
    grd (inb v4 (len x.1)) <|
    cnd (ine (aA x.1 (toN v4) zN).2.2.2 (w64 (aH (aA x.1 (toN x.2) zN).2.2.2 1)))
     (v3 (w64 (aH v4 1)))
     (v2 v4)) N (w64 (aH x.2 1))))
 fun v5 =>
 cnd (ilt 4 (aA x.1 (toN x.2) zN).2.2.2)
  (some false)
  (grd (inb (aA x.1 (toN x.2) zN).2.2.2 (len ([([116,116]:Y_),([112]:Y_),([114,111,119]:Y_),([114,117,110]:Y_),([]:Y_)]:List Y_)))
   (cnd (sne (aA ([([116,116]:Y_),([112]:Y_),([114,111,119]:Y_),([114,117,110]:Y_),([]:Y_)]:List Y_) (toN (aA x.1 (toN x.2) zN).2.2.2) []) (aA x.1 (toN x.2) zN).1)
    (cnd (ieq (aA x.1 (toN x.2) zN).2.2.2 1)
     (cnd (bA (seq (aA x.1 (toN x.2) zN).1 ([114,101,103,105,111,110]:Y_)))
      (some false)
      (v5 ()))
     (cnd (bA false)
      (some false)
      (v5 ())))
    (v5 ())))
def SH:List PK:=[.k (.v (.str) [])]
def SI:List Kd:=[.v (.slice (.str)) [0],.v (.slice (.str)) [0]]
def aA6(N:Nat) (x:Y_):Option (List Y_×List Y_) :=
 cnd (seq x ([116,116]:Y_))
  (some (([([116,105,116,108,101]:Y_),([108,97,110,103]:Y_),([114,97,116,101]:Y_),([100,114,111,112]:Y_),([108,97,115,116]:Y_)]:List Y_),([([114,97,116,101]:Y_),([108,97,115,116]:Y_)]:List Y_)))
  (cnd (seq x ([114,101,103,105,111,110]:Y_))
   (some (([([110,97,109,101]:Y_),([116,111,112]:Y_),([104,101,105,103,104,116]:Y_),([108,101,102,116]:Y_),([119,105,100,116,104]:Y_),([97,108,105,103,110]:Y_),([97,110,99,104,111,114]:Y_)]:List Y_),([([110,97,109,101]:Y_),([116,111,112]:Y_),([104,101,105,103,104,116]:Y_),([108,101,102,116]:Y_),([119,105,100,116,104]:Y_),([97,108,105,103,110]:Y_),([97,110,99,104,111,114]:Y_)]:List Y_)))
   (cnd (seq x ([112]:Y_))
    (some (([([105,100]:Y_),([105,110]:Y_),([111,117,116]:Y_),([114,101,103,105,111,110]:Y_),([107,105,110,100]:Y_),([115,112,101,97,107,101,114]:Y_)]:List Y_),([([105,100]:Y_),([105,110]:Y_),([111,117,116]:Y_),([107,105,110,100]:Y_)]:List Y_)))
    (cnd (seq x ([114,117,110]:Y_))
     (some (([([99,111,108,111,114]:Y_),([105,116,97,108,105,99]:Y_),([117,110,100,101,114,108,105,110,101]:Y_),([114,117,98,121]:Y_)]:List Y_),([]:List Y_)))
     (some (([]:List Y_),([]:List Y_))))))
def EI:List PK:=[.k (.v (.slice (.str)) []),.k (.v (.str) [])]
def EJ:List Kd:=[.v (.int .i64) []]
def C2(N:Nat) (x:List Y_×Y_):Option (Int) :=
 jn (fun (v0:Unit) =>
  some (-1))
 fun v1 =>
 aY (fun v2 (v3:Int) =>
  cnd (ilt v3 (len x.1))
   (grd (inb v3 (len x.1))
    (cnd (seq (aA x.1 (toN v3) []) x.2)
     (some v3)
     (v2 (w64 (aE v3 1)))))
   (v1 ())) N 0
def wM:List PK:=[.k (.v (.slice (.str)) []),.k (.v (.str) [])]
def wN:List Kd:=[.v (.bool) []]
def kP(N:Nat) (x:List Y_×Y_):Option (Bool) :=
 bnd (C2 N x) fun v0 =>
 some (ile 0 v0)
def sV:List PK:=[.k (.v Y2 [])]
def sW:List Kd:=[.v (.bool) []]
def pJ(N:Nat) (x:D1):Option (Bool) :=
 bnd (aA6 N x.1) fun v0 =>
 jn (fun (v1:List Y_) =>
  jn (fun (v2:Unit) =>
   some true)
  fun v3 =>
  aY (fun v4 (v5:(List Y_)×Int) =>
   cnd (ilt v5.2 (len v0.2))
    (grd (inb v5.2 (len v0.2))
     (bnd (kP N (v5.1,aA v0.2 (toN v5.2) [])) fun v6 =>
     cnd (bA v6)
      (some false)
      (v4 (v5.1,w64 (aE v5.2 1)))))
    (v3 ())) N (v1,0))
 fun v7 =>
 aY (fun v8 (v9:(List Y_)×(List Y_)×Int) =>
  cnd (ilt v9.2.2 (len x.2.2.1))
   (grd (inb v9.2.2 (len x.2.2.1))
    (bnd (kP N (v9.1,(aA x.2.2.1 (toN v9.2.2) ([],[])).1)) fun v10 =>
    cnd (bA v10)
     (some false)
     (grd (cL (aE (len v9.2.1) (len ([(aA x.2.2.1 (toN v9.2.2) ([],[])).1]:List Y_))) 16)
      (v8 (v9.1,bL v9.2.1 ([(aA x.2.2.1 (toN v9.2.2) ([],[])).1]:List Y_),w64 (aE v9.2.2 1))))))
   (v7 v9.2.1)) N (v0.1,([]:List Y_),0)
def oD:List PK:=[.k (.v (.slice Y2) []),.k (.v (.int .i64) []),.k (.v (.str) [])]
def oE:List Kd:=[.v (.str) [],.v (.bool) []]
def lM(N:Nat) (x:(List D1)×Int×Y_):Option (Y_×Bool) :=
 cnd (ilt x.2.1 0)
  (some (([]:Y_),false))
  (cnd (ile (len x.1) x.2.1)
   (some (([]:Y_),false))
   (jn (fun (v0:Unit) =>
    some (([]:Y_),false))
   fun v1 =>
   grd (inb x.2.1 (len x.1)) <|
   aY (fun v2 (v3:Int) =>
    cnd (ilt v3 (len (aA x.1 (toN x.2.1) zN).2.2.1))
     (grd (inb v3 (len (aA x.1 (toN x.2.1) zN).2.2.1))
      (cnd (seq (aA (aA x.1 (toN x.2.1) zN).2.2.1 (toN v3) ([],[])).1 x.2.2)
       (some ((aA (aA x.1 (toN x.2.1) zN).2.2.1 (toN v3) ([],[])).2,true))
       (v2 (w64 (aE v3 1)))))
     (v1 ())) N 0))
def oF:List PK:=[.k (.b 114 Y9 []),.k (.v (.str) [])]
def oG:List Kd:=[.v (.str) []]
def pK(N:Nat) (x:(D1×Int)×Y_):Option (Y_×D1×Int) :=
 bnd (lM N (([x.1.1]:List D1),0,x.2)) fun v0 =>
 some (v0.1,x.1)
def SJ:List PK:=[]
def SK:List Kd:=[.v (.slice (.u8)) []]
def aL1(N:Nat) (x:Unit):Option Y_ :=
 some ([1,2,3,4,5,6,7]:Y_)
def EK:List PK:=[.k (.v (.u8) [])]
def EL:List Kd:=[.v (.bool) []]
def KP(N:Nat) (x:UInt8):Option (Bool) :=
 cnd (ile (n8 1) (n8 x))
  (some (ile (n8 x) (n8 7)))
  (some false)
def sX:List PK:=[.k (.v (.u8) [])]
def sY:List Kd:=[.v (.str) []]
def lN(N:Nat) (x:UInt8):Option Y_ :=
 bnd (KP N x) fun v0 =>
 cnd (bA v0)
  (some ([]:Y_))
  (grd (inb (n8 (b8 (aH (n8 x) (n8 1)))) (len ([([50,51,46,57,55,54]:Y_),([50,52]:Y_),([50,53]:Y_),([50,57,46,57,55]:Y_),([51,48]:Y_),([53,48]:Y_),([53,57,46,57,52]:Y_)]:List Y_)))
   (some (aA ([([50,51,46,57,55,54]:Y_),([50,52]:Y_),([50,53]:Y_),([50,57,46,57,55]:Y_),([51,48]:Y_),([53,48]:Y_),([53,57,46,57,52]:Y_)]:List Y_) (toN (n8 (b8 (aH (n8 x) (n8 1))))) [])))
def SL:List PK:=[.k (.v (.str) [])]
def SM:List Kd:=[.v (.u8) [],.v (.int .i64) []]
def aHI(N:Nat) (x:Y_):Option (UInt8×Int) :=
 jn (fun (v0:Unit) =>
  some (0,4))
 fun v1 =>
 bnd (aL1 N ()) fun v2 =>
 aY (fun v3 (v4:Int) =>
  cnd (ilt v4 (len v2))
   (grd (inb v4 (len v2))
    (bnd (lN N (aA v2 (toN v4) 0)) fun v5 =>
    cnd (seq v5 x)
     (some (aA v2 (toN v4) 0,0))
     (v3 (w64 (aE v4 1)))))
   (v1 ())) N 0
def qK:List PK:=[.k (.b 114 Y9 []),.k (.v (.int .i64) [])]
def qL:List Kd:=[]
def wO(N:Nat) (x:(D1×Int)×Int):Option (D1×Int) :=
 cnd (ieq x.1.2 0)
  (some (x.1.1,x.2))
  (some x.1)
def yT:List PK:=[.k (.b 114 Y9 []),.k (.v (.str) []),.k (.v (.slice (.str)) [])]
def yU:List Kd:=[.v (.int .i64) []]
def IN(N:Nat) (x:(D1×Int)×Y_×List Y_):Option (Int×D1×Int) :=
 bnd (lM N (([x.1.1]:List D1),0,x.2.1)) fun v0 =>
 cnd (bA v0.2)
  (some (0,x.1))
  (bnd (C2 N (x.2.2,v0.1)) fun v1 =>
  cnd (ilt v1 0)
   (bnd (wO N (x.1,4)) fun v2 =>
   some (0,v2))
   (some (v1,x.1)))
def EM:List PK:=[.k (.b 114 Y9 []),.k (.v (.str) [])]
def EN:List Kd:=[.v (.bool) []]
def SN(N:Nat) (x:(D1×Int)×Y_):Option (Bool×D1×Int) :=
 bnd (IN N (x.1,x.2,([([48]:Y_),([49]:Y_)]:List Y_))) fun v0 =>
 some (ieq v0.1 1,v0.2)
def EO:List PK:=[.k (.v (.u8) [])]
def EP:List Kd:=[.v (.bool) []]
def wP(N:Nat) (x:UInt8):Option (Bool) :=
 cnd (ile (n8 48) (n8 x))
  (some (ile (n8 x) (n8 57)))
  (some false)
def EQ:List PK:=[.k (.v (.str) []),.k (.v (.int .i64) []),.k (.v (.int .i64) [])]
def ER:List Kd:=[.v (.int .i64) [],.v (.int .i64) []]
def SO(N:Nat) (x:Y_×Int×Int):Option (Int×Int) :=
 jn (fun (v0:Bool) =>
  jn (fun (v1:Y_) =>
   jn (fun (v2:Unit) =>
    jn (fun (v3:Unit) =>
     cnd (ilt 19 (len v1))
      (some (0,2))
      (jn (fun (v4:Int) =>
       jn (fun (v5:Unit) =>
        jn (fun (v6:Int) =>
         cnd (ilt v6 x.2.1)
          (some (0,2))
          (cnd (ilt x.2.2 v6)
           (some (0,2))
           (some (v6,0))))
        fun v7 =>
        cnd v0
         (v7 (w64 (aH 0 (w64 v4))))
         (v7 (w64 v4)))
       fun v8 =>
       cnd (ilt 9223372036854775808 v4)
        (some (0,2))
        (cnd (bA v0)
         (cnd (ieq v4 9223372036854775808)
          (some (0,2))
          (v8 ()))
         (v8 ())))
      fun v9 =>
      aY (fun v10 (v11:Int×Int) =>
       cnd (ilt v11.2 (len v1))
        (grd (inb v11.2 (len v1))
         (v10 (wr .u64 (aE (wr .u64 (jX 10 v11.1)) (wr .u64 (n8 (b8 (aH (n8 (aA v1 (toN v11.2) 0)) (n8 48)))))),w64 (aE v11.2 1))))
        (v9 v11.1)) N (0,0)))
    fun v12 =>
    aY (fun v13 (v14:Int) =>
     cnd (ilt v14 (len v1))
      (grd (inb v14 (len v1))
       (bnd (wP N (aA v1 (toN v14) 0)) fun v15 =>
       cnd (bA v15)
        (some (0,4))
        (v13 (w64 (aE v14 1)))))
      (v12 ())) N 0)
   fun v16 =>
   cnd (ieq (len v1) 0)
    (some (0,4))
    (grd (inb 0 (len v1))
     (cnd (ieq (n8 (aA v1 (toN 0) 0)) (n8 48))
      (cnd (ilt 1 (len v1))
       (some (0,4))
       (cnd v0
        (some (0,4))
        (v16 ())))
      (v16 ()))))
  fun v17 =>
  cnd v0
   (grd (in2 1 (len x.1))
    (v17 (bC (toN 1) x.1)))
   (v17 x.1))
 fun v18 =>
 cnd (ilt 0 (len x.1))
  (grd (inb 0 (len x.1))
   (v18 (ieq (n8 (aA x.1 (toN 0) 0)) (n8 45))))
  (v18 false)
def yV:List PK:=[.k (.b 114 Y9 []),.k (.v (.str) []),.k (.v (.int .i64) [])]
def yW:List Kd:=[.v (.int .i64) []]
def BL(N:Nat) (x:(D1×Int)×Y_×Int):Option (Int×D1×Int) :=
 bnd (pK N (x.1,x.2.1)) fun v0 =>
 bnd (SO N (v0.1,0,x.2.2)) fun v1 =>
 bnd (wO N (v0.2,v1.2)) fun v2 =>
 some (v1.1,v2)
def SP:List PK:=[.k (.b 114 Y9 []),.k (.d 27 Y1)]
def SQ:List Kd:=[]
def aHJ(N:Nat) (x:(D1×Int)×Y_×Y_×UInt8×Bool×Int×(List D3)×(List D2)×List D4):Option ((D1×Int)×Y_×Y_×UInt8×Bool×Int×(List D3)×(List D2)×List D4) :=
 bnd (pK N (x.1,([116,105,116,108,101]:Y_))) fun v0 =>
 bnd (pK N (v0.2,([108,97,110,103]:Y_))) fun v1 =>
 bnd (pK N (v1.2,([114,97,116,101]:Y_))) fun v2 =>
 bnd (aHI N v2.1) fun v3 =>
 bnd (wO N (v2.2,v3.2)) fun v4 =>
 bnd (SN N (v4,([100,114,111,112]:Y_))) fun v5 =>
 bnd (BL N (v5.2,([108,97,115,116]:Y_),1099511627776)) fun v6 =>
 some (v6.2,v0.1,v1.1,v3.1,v5.1,v6.1,x.2.2.2.2.2.2.1,bJ x.2.2.2.2.2.2.2.1 ((aI x.2.2.2.2.2.2.2.1 zE).1,(aI x.2.2.2.2.2.2.2.1 zE).2.1,(aI x.2.2.2.2.2.2.2.1 zE).2.2.1,(aI x.2.2.2.2.2.2.2.1 zE).2.2.2.1,(aI x.2.2.2.2.2.2.2.1 zE).2.2.2.2.1,bJ (aI x.2.2.2.2.2.2.2.1 zE).2.2.2.2.2 (aI (aI x.2.2.2.2.2.2.2.1 zE).2.2.2.2.2 [])),x.2.2.2.2.2.2.2.2)
def SR:List PK:=[]
def SS:List Kd:=[.v (.slice (.str)) [0]]
def aL2(N:Nat) (x:Unit):Option (List Y_) :=
 some ([([]:Y_),([76,69,70,84]:Y_),([67,69,78,84,69,82]:Y_),([82,73,71,72,84]:Y_)]:List Y_)
def ST:List PK:=[.k (.b 114 Y9 []),.k (.d 27 Y1)]
def SU:List Kd:=[]
def aHK(N:Nat) (x:(D1×Int)×Y_×Y_×UInt8×Bool×Int×(List D3)×(List D2)×List D4):Option ((D1×Int)×Y_×Y_×UInt8×Bool×Int×(List D3)×(List D2)×List D4) :=
 bnd (pK N (x.1,([110,97,109,101]:Y_))) fun v0 =>
 bnd (BL N (v0.2,([116,111,112]:Y_),32)) fun v1 =>
 bnd (BL N (v1.2,([104,101,105,103,104,116]:Y_),32)) fun v2 =>
 bnd (BL N (v2.2,([108,101,102,116]:Y_),32)) fun v3 =>
 bnd (BL N (v3.2,([119,105,100,116,104]:Y_),32)) fun v4 =>
 bnd (aL2 N ()) fun v5 =>
 grd (in2 1 (ofN (gE v5))) <|
 bnd (IN N (v4.2,([97,108,105,103,110]:Y_),gG v5 (toN 1) (KH (gE v5) (toN 1)))) fun v6 =>
 bnd (IN N (v6.2,([97,110,99,104,111,114]:Y_),([([84,79,80]:Y_),([66,79,84,84,79,77]:Y_)]:List Y_))) fun v7 =>
 grd (cL (aE (len x.2.2.2.2.2.2.1) (len ([(v0.1,v1.1,v2.1,v3.1,v4.1,b8 (w64 (aE v6.1 1)),ieq v7.1 1)]:List D3))) 56) <|
 some (v7.2,x.2.1,x.2.2.1,x.2.2.2.1,x.2.2.2.2.1,x.2.2.2.2.2.1,bL x.2.2.2.2.2.2.1 ([(v0.1,v1.1,v2.1,v3.1,v4.1,b8 (w64 (aE v6.1 1)),ieq v7.1 1)]:List D3),bJ x.2.2.2.2.2.2.2.1 ((aI x.2.2.2.2.2.2.2.1 zE).1,(aI x.2.2.2.2.2.2.2.1 zE).2.1,(aI x.2.2.2.2.2.2.2.1 zE).2.2.1,(aI x.2.2.2.2.2.2.2.1 zE).2.2.2.1,(aI x.2.2.2.2.2.2.2.1 zE).2.2.2.2.1,bJ (aI x.2.2.2.2.2.2.2.1 zE).2.2.2.2.2 (aI (aI x.2.2.2.2.2.2.2.1 zE).2.2.2.2.2 [])),x.2.2.2.2.2.2.2.2)
def SW:List PK:=[.k (.b 114 Y9 []),.k (.v (.str) [])]
def SX:List Kd:=[.v (.int .i64) []]
def aA7(N:Nat) (x:(D1×Int)×Y_):Option (Int×D1×Int) :=
 bnd (pK N x) fun v0 =>
 cnd (seq v0.1 ([]:Y_))
  (bnd (wO N (v0.2,4)) fun v1 =>
  some (0,v1))
  (grd (inb (w64 (aH (len v0.1) 1)) (len v0.1))
   (cnd (ine (n8 (aA v0.1 (toN (w64 (aH (len v0.1) 1))) 0)) (n8 102))
    (bnd (wO N (v0.2,4)) fun v2 =>
    some (0,v2))
    (grd (in2 (w64 (aH (len v0.1) 1)) (len v0.1))
     (bnd (SO N (aW (toN (w64 (aH (len v0.1) 1))) v0.1,0,5184000)) fun v3 =>
     bnd (wO N (v0.2,v3.2)) fun v4 =>
     some (v3.1,v4)))))
def SY:List PK:=[]
def SZ:List Kd:=[.v (.slice (.str)) [0]]
def aL3(N:Nat) (x:Unit):Option (List Y_) :=
 some ([([68,73,65,76,79,71,85,69]:Y_),([83,79,85,78,68]:Y_),([84,73,84,76,69]:Y_),([77,85,83,73,67]:Y_)]:List Y_)
def TP:List PK:=[.k (.v (.str) [])]
def TQ:List Kd:=[.v (.u8) [],.v (.int .i64) []]
def aHL(N:Nat) (x:Y_):Option (UInt8×Int) :=
 jn (fun (v0:Unit) =>
  some (0,4))
 fun v1 =>
 bnd (aL3 N ()) fun v2 =>
 aY (fun v3 (v4:Int) =>
  cnd (ilt v4 (len v2))
   (grd (inb v4 (len v2))
    (cnd (seq (aA v2 (toN v4) []) x)
     (some (b8 (w64 (aE v4 1)),0))
     (v3 (w64 (aE v4 1)))))
   (v1 ())) N 0
def TR:List PK:=[.k (.b 114 Y9 []),.k (.d 27 Y1)]
def TS:List Kd:=[]
def aHM(N:Nat) (x:(D1×Int)×Y_×Y_×UInt8×Bool×Int×(List D3)×(List D2)×List D4):Option ((D1×Int)×Y_×Y_×UInt8×Bool×Int×(List D3)×(List D2)×List D4) :=
 bnd (BL N (x.1,([105,100]:Y_),1099511627776)) fun v0 =>
 bnd (aA7 N (v0.2,([105,110]:Y_))) fun v1 =>
 bnd (aA7 N (v1.2,([111,117,116]:Y_))) fun v2 =>
 bnd (pK N (v2.2,([114,101,103,105,111,110]:Y_))) fun v3 =>
 bnd (pK N (v3.2,([107,105,110,100]:Y_))) fun v4 =>
 bnd (aHL N v4.1) fun v5 =>
 bnd (wO N (v4.2,v5.2)) fun v6 =>
 bnd (pK N (v6,([115,112,101,97,107,101,114]:Y_))) fun v7 =>
 grd (cL (aE (len (bJ x.2.2.2.2.2.2.2.1 ((aI x.2.2.2.2.2.2.2.1 zE).1,(aI x.2.2.2.2.2.2.2.1 zE).2.1,(aI x.2.2.2.2.2.2.2.1 zE).2.2.1,(aI x.2.2.2.2.2.2.2.1 zE).2.2.2.1,(aI x.2.2.2.2.2.2.2.1 zE).2.2.2.2.1,bJ (aI x.2.2.2.2.2.2.2.1 zE).2.2.2.2.2 (aI (aI x.2.2.2.2.2.2.2.1 zE).2.2.2.2.2 [])))) (len ([zE]:List D2))) 88) <|
 some (v7.2,x.2.1,x.2.2.1,x.2.2.2.1,x.2.2.2.2.1,x.2.2.2.2.2.1,x.2.2.2.2.2.2.1,bJ (bL (bJ x.2.2.2.2.2.2.2.1 ((aI x.2.2.2.2.2.2.2.1 zE).1,(aI x.2.2.2.2.2.2.2.1 zE).2.1,(aI x.2.2.2.2.2.2.2.1 zE).2.2.1,(aI x.2.2.2.2.2.2.2.1 zE).2.2.2.1,(aI x.2.2.2.2.2.2.2.1 zE).2.2.2.2.1,bJ (aI x.2.2.2.2.2.2.2.1 zE).2.2.2.2.2 (aI (aI x.2.2.2.2.2.2.2.1 zE).2.2.2.2.2 []))) ([zE]:List D2)) (v0.1,(v1.1,v2.1),v3.1,v5.1,v7.1,([]:List (List D5))),x.2.2.2.2.2.2.2.2)
def TT:List PK:=[]
def TU:List Kd:=[.v (.slice (.str)) [0]]
def aL4(N:Nat) (x:Unit):Option (List Y_) :=
 some ([([119,104,105,116,101]:Y_),([103,114,101,101,110]:Y_),([98,108,117,101]:Y_),([99,121,97,110]:Y_),([114,101,100]:Y_),([121,101,108,108,111,119]:Y_),([109,97,103,101,110,116,97]:Y_)]:List Y_)
def TV:List PK:=[.k (.b 114 Y9 []),.k (.l 16 (.st (.slice Y5)))]
def TW:List Kd:=[]
def aHN(N:Nat) (x:(D1×Int)×List (List D5)):Option ((D1×Int)×List (List D5)) :=
 bnd (aL4 N ()) fun v0 =>
 bnd (IN N (x.1,([99,111,108,111,114]:Y_),v0)) fun v1 =>
 bnd (SN N (v1.2,([105,116,97,108,105,99]:Y_))) fun v2 =>
 bnd (SN N (v2.2,([117,110,100,101,114,108,105,110,101]:Y_))) fun v3 =>
 bnd (pK N (v3.2,([114,117,98,121]:Y_))) fun v4 =>
 grd (ieq (ofN (KH (gE x.2) 1)) (aH (len x.2) 1)) <|
 grd (cL (aE (len (aI x.2 [])) (len ([(([]:Y_),(b8 v1.1,v2.1,v3.1),v4.1)]:List D5))) 40) <|
 grd (ieq (ofN (KH (gE x.2) 1)) (aH (len x.2) 1)) <|
 some (v4.2,bJ x.2 (bL (aI x.2 []) ([(([]:Y_),(b8 v1.1,v2.1,v3.1),v4.1)]:List D5)))
def iX:List PK:=[.k (.v (.str) [])]
def iY:List Kd:=[.v (.bool) []]
def fH(N:Nat) (x:Y_):Option (Bool) :=
 cnd (ilt (len x) 1)
  (some false)
  (cnd (ilt 16 (len x))
   (some false)
   (jn (fun (v0:Unit) =>
    some true)
   fun v1 =>
   aY (fun v2 (v3:Int) =>
    cnd (ilt v3 (len x))
     (jn (fun (v4:Bool) =>
      cnd (bA v4)
       (cnd (ieq v3 0)
        (some false)
        (grd (inb v3 (len x))
         (bnd (wP N (aA x (toN v3) 0)) fun v5 =>
         cnd (bA v5)
          (grd (inb v3 (len x))
           (cnd (ine (n8 (aA x (toN v3) 0)) (n8 95))
            (grd (inb v3 (len x))
             (cnd (ine (n8 (aA x (toN v3) 0)) (n8 45))
              (some false)
              (v2 (w64 (aE v3 1)))))
            (v2 (w64 (aE v3 1)))))
          (v2 (w64 (aE v3 1))))))
       (v2 (w64 (aE v3 1))))
     fun v6 =>
     grd (inb v3 (len x)) <|
     cnd (ile (n8 65) (n8 (aA x (toN v3) 0)))
      (grd (inb v3 (len x))
       (v6 (ile (n8 (aA x (toN v3) 0)) (n8 90))))
      (v6 false))
     (v1 ())) N 0))
def TX:List PK:=[.k (.v (.u8) [])]
def TY:List Kd:=[.v (.bool) []]
def C3(N:Nat) (x:UInt8):Option (Bool) :=
 cnd (ieq (n8 x) (n8 4))
  (some true)
  (some (ieq (n8 x) (n8 7)))
def TZ:List PK:=[.k (.v Y1 [])]
def UA:List Kd:=[.v (.int .i64) []]
def aHO(N:Nat) (x:D7):Option (Int) :=
 bnd (nT N x.1) fun v0 =>
 cnd (bA v0)
  (some 10)
  (cnd (ilt 400 (len x.1))
   (some 9)
   (jn (fun (v1:Bool) =>
    cnd v1
     (some 5)
     (jn (fun (v2:Bool) =>
      cnd v2
       (some 13)
       (cnd (ilt x.2.2.2.2.1 0)
        (some 2)
        (cnd (ilt 1099511627776 x.2.2.2.2.1)
         (some 2)
         (some 0))))
     fun v3 =>
     bnd (KP N x.2.2.1) fun v4 =>
     cnd (bA v4)
      (v3 true)
      (cnd x.2.2.2.1
       (bnd (C3 N x.2.2.1) fun v5 =>
       v3 (bA v5))
       (v3 false))))
   fun v6 =>
   cnd (sne x.2.1 ([]:Y_))
    (bnd (fH N x.2.1) fun v7 =>
    v6 (bA v7))
    (v6 false)))
def ES:List PK:=[.k (.v Y4 [])]
def ET:List Kd:=[.v (.int .i64) []]
def UB(N:Nat) (x:D3):Option (Int) :=
 bnd (fH N x.1) fun v0 =>
 cnd (bA v0)
  (some 5)
  (cnd (ilt x.2.1 0)
   (some 2)
   (cnd (ilt 14 x.2.1)
    (some 2)
    (cnd (ilt x.2.2.1 1)
     (some 2)
     (cnd (ilt (w64 (aH 15 x.2.1)) x.2.2.1)
      (some 2)
      (cnd (ilt x.2.2.2.1 0)
       (some 2)
       (cnd (ilt 31 x.2.2.2.1)
        (some 2)
        (cnd (ilt x.2.2.2.2.1 1)
         (some 2)
         (cnd (ilt (w64 (aH 32 x.2.2.2.1)) x.2.2.2.2.1)
          (some 2)
          (cnd (ine (n8 x.2.2.2.2.2.1) (n8 1))
           (cnd (ine (n8 x.2.2.2.2.2.1) (n8 2))
            (cnd (ine (n8 x.2.2.2.2.2.1) (n8 3))
             (some 3)
             (some 0))
            (some 0))
           (some 0))))))))))
def UC:List PK:=[.k (.v (.slice Y4) [])]
def UD:List Kd:=[.v (.int .i64) []]
def aHP(N:Nat) (x:List D3):Option (Int) :=
 cnd (ilt 16 (len x))
  (some 9)
  (jn (fun (v0:Unit) =>
   some 0)
  fun v1 =>
  aY (fun v2 (v3:Int) =>
   cnd (ilt v3 (len x))
    (grd (inb v3 (len x))
     (bnd (UB N (aA x (toN v3) zG)) fun v4 =>
     cnd (ine v4 0)
      (some v4)
      (jn (fun (v5:Unit) =>
       cnd (ilt 0 v3)
        (grd (inb (w64 (aH v3 1)) (len x))
         (cnd (slt (aA x (toN v3) zG).1 (aA x (toN (w64 (aH v3 1))) zG).1)
          (some 8)
          (v2 (w64 (aE v3 1)))))
        (v2 (w64 (aE v3 1))))
      fun v6 =>
      cnd (ilt 0 v3)
       (grd (inb (w64 (aH v3 1)) (len x))
        (cnd (seq (aA x (toN v3) zG).1 (aA x (toN (w64 (aH v3 1))) zG).1)
         (some 7)
         (v6 ())))
       (v6 ()))))
    (v1 ())) N 0)
def UE:List PK:=[.k (.v (.st (.pair (.int .i64) (.int .i64))) [])]
def UF:List Kd:=[.v (.bool) []]
def aL5(N:Nat) (x:Int×Int):Option (Bool) :=
 cnd (ile 0 x.1)
  (cnd (ilt x.1 x.2)
   (some (ile x.2 5184000))
   (some false))
  (some false)
def EU:List PK:=[]
def EV:List Kd:=[.v Y4 []]
def aA8(N:Nat) (x:Unit):Option D3 :=
 some (([]:Y_),11,4,0,32,2,true)
def sZ:List PK:=[.k (.v (.slice Y4) []),.k (.v (.str) [])]
def tA:List Kd:=[.v Y4 [],.v (.bool) []]
def tB(N:Nat) (x:(List D3)×Y_):Option (D3×Bool) :=
 cnd (seq x.2 ([]:Y_))
  (bnd (aA8 N ()) fun v0 =>
  some (v0,true))
  (jn (fun (v1:Unit) =>
   some ((([]:Y_),0,0,0,0,0,false),false))
  fun v2 =>
  aY (fun v3 (v4:Int) =>
   cnd (ilt v4 (len x.1))
    (grd (inb v4 (len x.1))
     (cnd (seq (aA x.1 (toN v4) zG).1 x.2)
      (some (aA x.1 (toN v4) zG,true))
      (v3 (w64 (aE v4 1)))))
    (v2 ())) N 0)
def UG:List PK:=[.k (.v (.st (.pair (.u8) (.pair (.bool) (.bool)))) [])]
def UH:List Kd:=[.v (.bool) []]
def aL6(N:Nat) (x:UInt8×Bool×Bool):Option (Bool) :=
 some (ile (n8 x.1) (n8 6))
def UI:List PK:=[.k (.v (.st (.slice Y5)) [])]
def UJ:List Kd:=[.v (.int .i64) []]
def aHQ(N:Nat) (x:List D5):Option (Int) :=
 cnd (ilt 16 (len x))
  (some 9)
  (jn (fun (v0:Unit) =>
   some 0)
  fun v1 =>
  aY (fun v2 (v3:Int) =>
   cnd (ilt v3 (len x))
    (grd (inb v3 (len x))
     (bnd (nT N (aA x (toN v3) zU).1) fun v4 =>
     cnd (bA v4)
      (some 10)
      (cnd (seq (aA x (toN v3) zU).1 ([]:Y_))
       (some 4)
       (bnd (aL6 N (aA x (toN v3) zU).2.1) fun v5 =>
       cnd (bA v5)
        (some 12)
        (bnd (nT N (aA x (toN v3) zU).2.2) fun v6 =>
        cnd (bA v6)
         (some 10)
         (cnd (ilt 0 v3)
          (grd (inb (w64 (aH v3 1)) (len x))
           (cnd (cY (ieq (n8 (aA x (toN (w64 (aH v3 1))) zU).2.1.1) (n8 (aA x (toN v3) zU).2.1.1)) (cY (oV (aA x (toN (w64 (aH v3 1))) zU).2.1.2.1 (aA x (toN v3) zU).2.1.2.1) (oV (aA x (toN (w64 (aH v3 1))) zU).2.1.2.2 (aA x (toN v3) zU).2.1.2.2)))
            (grd (inb (w64 (aH v3 1)) (len x))
             (cnd (seq (aA x (toN (w64 (aH v3 1))) zU).2.2 ([]:Y_))
              (cnd (seq (aA x (toN v3) zU).2.2 ([]:Y_))
               (some 8)
               (v2 (w64 (aE v3 1))))
              (v2 (w64 (aE v3 1)))))
            (v2 (w64 (aE v3 1)))))
          (v2 (w64 (aE v3 1)))))))))
    (v1 ())) N 0)
def UK:List PK:=[.k (.v (.st (.slice Y5)) [])]
def UL:List Kd:=[.v (.str) []]
def aHR(N:Nat) (x:List D5):Option Y_ :=
 jn (fun (v0:Y_) =>
  some v0)
 fun v1 =>
 aY (fun v2 (v3:Y_×Int) =>
  cnd (ilt v3.2 (len x))
   (grd (inb v3.2 (len x))
    (grd (dQ (aE (len v3.1) (len (aA x (toN v3.2) zU).1)))
     (v2 (bL v3.1 (aA x (toN v3.2) zU).1,w64 (aE v3.2 1)))))
   (v1 v3.1)) N (([]:Y_),0)
def tC:List PK:=[.k (.v (.str) [])]
def tD:List Kd:=[.v (.bool) []]
def pL(N:Nat) (x:Y_):Option (Bool) :=
 cnd (seq x ([]:Y_))
  (some false)
  (grd (inb 0 (len x))
   (cnd (ieq (n8 (aA x (toN 0) 0)) (n8 32))
    (some false)
    (grd (inb (w64 (aH (len x) 1)) (len x))
     (cnd (ieq (n8 (aA x (toN (w64 (aH (len x) 1))) 0)) (n8 32))
      (some false)
      (jn (fun (v0:Unit) =>
       some true)
      fun v1 =>
      aY (fun v2 (v3:Int) =>
       cnd (ilt v3 (len x))
        (grd (inb v3 (len x))
         (cnd (ieq (n8 (aA x (toN v3) 0)) (n8 32))
          (grd (inb (w64 (aH v3 1)) (len x))
           (cnd (ieq (n8 (aA x (toN (w64 (aH v3 1))) 0)) (n8 32))
            (some false)
            (v2 (w64 (aE v3 1)))))
          (v2 (w64 (aE v3 1)))))
        (v1 ())) N 1)))))
def UM:List PK:=[.k (.v (.str) [])]
def UN:List Kd:=[.v (.slice (.int .i32)) [0]]
def aHS(N:Nat) (x:Y_):Option (List Int) :=
 jn (fun (v0:List Int) =>
  some v0)
 fun v1 =>
 aY (fun v2 (v3:(List Int)×Y_×Int) =>
  cnd (nlt (toN v3.2.2) (gE v3.2.1))
   (grd (cL (aE (len v3.1) (len ([uV v3.2.1 (toN v3.2.2)]:List Int))) 4)
    (v2 (bL v3.1 ([uV v3.2.1 (toN v3.2.2)]:List Int),v3.2.1,ofN (nR (toN v3.2.2) (vN v3.2.1 (toN v3.2.2))))))
   (v1 v3.1)) N (([]:List Int),x,ofN 0)
def wQ:List PK:=[.k (.v (.str) [])]
def wR:List Kd:=[.v (.int .i64) []]
def qM(N:Nat) (x:Y_):Option (Int) :=
 bnd (nT N x) fun v0 =>
 cnd (bA v0)
  (some (-1))
  (bnd (aHS N x) fun v1 =>
  some (len v1))
def qN:List PK:=[.k (.v (.st (.slice Y5)) [])]
def qO:List Kd:=[.v (.int .i64) []]
def mJ(N:Nat) (x:List D5):Option (Int) :=
 jn (fun (v0:Int) =>
  some v0)
 fun v1 =>
 aY (fun v2 (v3:Int×Int) =>
  cnd (ilt v3.2 (len x))
   (grd (inb v3.2 (len x))
    (bnd (qM N (aA x (toN v3.2) zU).1) fun v4 =>
    cnd (ilt v4 0)
     (some (-1))
     (v2 (w64 (aE v3.1 v4),w64 (aE v3.2 1)))))
   (v1 v3.1)) N (0,0)
def UO:List PK:=[.k (.v Y4 [])]
def UP:List Kd:=[.v (.bool) []]
def aHT(N:Nat) (x:D3):Option (Bool) :=
 bnd (UB N x) fun v0 =>
 cnd (ieq v0 0)
  (some true)
  (bnd (aA8 N ()) fun v1 =>
  some (cY (seq x.1 v1.1) (cY (ieq x.2.1 v1.2.1) (cY (ieq x.2.2.1 v1.2.2.1) (cY (ieq x.2.2.2.1 v1.2.2.2.1) (cY (ieq x.2.2.2.2.1 v1.2.2.2.2.1) (cY (ieq (n8 x.2.2.2.2.2.1) (n8 v1.2.2.2.2.2.1)) (oV x.2.2.2.2.2.2 v1.2.2.2.2.2.2))))))))
def UQ:List PK:=[.k (.v Y4 []),.k (.v (.slice (.int .i64)) [])]
def UR:List Kd:=[.v (.slice Y6) [0],.v (.int .i64) []]
def aA9(N:Nat) (x:D3×List Int):Option ((List D8)×Int) :=
 bnd (aHT N x.1) fun v0 =>
 cnd (bA v0)
  (some (([]:List D8),1))
  (cnd (ilt x.1.2.2.1 (len x.2))
   (some (([]:List D8),9))
   (jn (fun (v1:List D8) =>
    some (v1,0))
   fun v2 =>
   aY (fun v3 (v4:(List D8)×Int) =>
    cnd (ilt v4.2 (len x.2))
     (grd (inb v4.2 (len x.2))
      (cnd (ilt (aA x.2 (toN v4.2) 0) 0)
       (some (([]:List D8),2))
       (cnd (ilt x.1.2.2.2.2.1 (aA x.2 (toN v4.2) 0))
        (some (([]:List D8),11))
        (jn (fun (v5:D8) =>
         cnd (ieq (n8 x.1.2.2.2.2.2.1) (n8 3))
          (grd (cL (aE (len v4.1) (len ([(v5.1,w64 (aE v5.2.1 (w64 (aH x.1.2.2.2.2.1 (aA x.2 (toN v4.2) 0)))),v5.2.2)]:List D8))) 24)
           (v3 (bL v4.1 ([(v5.1,w64 (aE v5.2.1 (w64 (aH x.1.2.2.2.2.1 (aA x.2 (toN v4.2) 0)))),v5.2.2)]:List D8),w64 (aE v4.2 1))))
          (cnd (ieq (n8 x.1.2.2.2.2.2.1) (n8 2))
           (grd (cL (aE (len v4.1) (len ([(v5.1,w64 (aE v5.2.1 (w64 (YJ (w64 (aH x.1.2.2.2.2.1 (aA x.2 (toN v4.2) 0))) 2))),v5.2.2)]:List D8))) 24)
            (v3 (bL v4.1 ([(v5.1,w64 (aE v5.2.1 (w64 (YJ (w64 (aH x.1.2.2.2.2.1 (aA x.2 (toN v4.2) 0))) 2))),v5.2.2)]:List D8),w64 (aE v4.2 1))))
           (grd (cL (aE (len v4.1) (len ([v5]:List D8))) 24)
            (v3 (bL v4.1 ([v5]:List D8),w64 (aE v4.2 1))))))
        fun v6 =>
        cnd x.1.2.2.2.2.2.2
         (v6 (w64 (aE (w64 (aE x.1.2.1 v4.2)) (w64 (aH x.1.2.2.1 (len x.2)))),x.1.2.2.2.1,aA x.2 (toN v4.2) 0))
         (v6 (w64 (aE x.1.2.1 v4.2),x.1.2.2.2.1,aA x.2 (toN v4.2) 0))))))
     (v2 v4.1)) N (([]:List D8),0)))
def US:List PK:=[.k (.v (.st Y3) []),.k (.v (.slice Y4) [])]
def UT:List Kd:=[.v (.int .i64) []]
def aHU(N:Nat) (x:D2×List D3):Option (Int) :=
 cnd (ilt x.1.1 1)
  (some 2)
  (cnd (ilt 1099511627776 x.1.1)
   (some 2)
   (bnd (aL5 N x.1.2.1) fun v0 =>
   cnd (bA v0)
    (some 2)
    (bnd (tB N (x.2,x.1.2.2.1)) fun v1 =>
    cnd (bA v1.2)
     (some 6)
     (cnd (ilt (n8 x.1.2.2.2.1) (n8 1))
      (some 3)
      (cnd (ilt (n8 4) (n8 x.1.2.2.2.1))
       (some 3)
       (jn (fun (v2:Bool) =>
        cnd v2
         (some 5)
         (cnd (ieq (len x.1.2.2.2.2.2) 0)
          (some 9)
          (cnd (ilt 4 (len x.1.2.2.2.2.2))
           (some 9)
           (jn (fun (v3:List Int) =>
            bnd (aA9 N (v1.1,v3)) fun v4 =>
            some v4.2)
           fun v5 =>
           aY (fun v6 (v7:(List Int)×Int) =>
            cnd (ilt v7.2 (len x.1.2.2.2.2.2))
             (grd (inb v7.2 (len x.1.2.2.2.2.2))
              (bnd (aHQ N (aA x.1.2.2.2.2.2 (toN v7.2) [])) fun v8 =>
              cnd (ine v8 0)
               (some v8)
               (bnd (aHR N (aA x.1.2.2.2.2.2 (toN v7.2) [])) fun v9 =>
               bnd (pL N v9) fun v10 =>
               cnd (bA v10)
                (some 4)
                (bnd (mJ N (aA x.1.2.2.2.2.2 (toN v7.2) [])) fun v11 =>
                cnd (ilt 32 v11)
                 (some 11)
                 (bnd (mJ N (aA x.1.2.2.2.2.2 (toN v7.2) [])) fun v12 =>
                 grd (cL (aE (len v7.1) (len ([v12]:List Int))) 8) <|
                 v6 (bL v7.1 ([v12]:List Int),w64 (aE v7.2 1)))))))
             (v5 v7.1)) N (([]:List Int),0)))))
       fun v13 =>
       cnd (sne x.1.2.2.2.2.1 ([]:Y_))
        (bnd (fH N x.1.2.2.2.2.1) fun v14 =>
        v13 (bA v14))
        (v13 false)))))))
def tE:List PK:=[.k (.v (.st Y3) []),.k (.v (.st Y3) [])]
def tF:List Kd:=[.v (.bool) []]
def pM(N:Nat) (x:D2×Int×(Int×Int)×Y_×UInt8×Y_×List (List D5)):Option (Bool) :=
 cnd (ilt x.1.2.1.1 x.2.2.1.1)
  (some true)
  (cnd (ieq x.1.2.1.1 x.2.2.1.1)
   (some (ilt x.1.1 x.2.1))
   (some false))
def oH:List PK:=[.k (.v Y1 []),.k (.v (.int .i64) [])]
def oI:List Kd:=[.v (.int .i64) []]
def iI(N:Nat) (x:D7×Int):Option (Int) :=
 jn (fun (v0:Unit) =>
  some (-1))
 fun v1 =>
 aY (fun v2 (v3:Int) =>
  cnd (ilt v3 (len x.1.2.2.2.2.2.2.1))
   (grd (inb v3 (len x.1.2.2.2.2.2.2.1))
    (cnd (ieq (aA x.1.2.2.2.2.2.2.1 (toN v3) zE).1 x.2)
     (some v3)
     (v2 (w64 (aE v3 1)))))
   (v1 ())) N 0
def wS:List PK:=[.k (.v (.st Y3) [])]
def wT:List Kd:=[.v (.int .i64) []]
def oJ(N:Nat) (x:D2):Option (Int) :=
 jn (fun (v0:Int) =>
  some v0)
 fun v1 =>
 aY (fun v2 (v3:Int×Int) =>
  cnd (ilt v3.2 (len x.2.2.2.2.2))
   (grd (inb v3.2 (len x.2.2.2.2.2))
    (bnd (mJ N (aA x.2.2.2.2.2 (toN v3.2) [])) fun v4 =>
    cnd (ilt v4 0)
     (some (-1))
     (cnd (ilt 0 v3.2)
      (v2 (w64 (aE (w64 (aE v3.1 1)) v4),w64 (aE v3.2 1)))
      (v2 (w64 (aE v3.1 v4),w64 (aE v3.2 1))))))
   (v1 v3.1)) N (0,0)
def UU:List PK:=[.k (.v Y1 []),.k (.v (.int .i64) [])]
def UV:List Kd:=[.v (.int .i64) []]
def aHV(N:Nat) (x:D7×Int):Option (Int) :=
 grd (inb x.2 (len x.1.2.2.2.2.2.2.2)) <|
 cnd (ilt (aA x.1.2.2.2.2.2.2.2 (toN x.2) zC).1 1)
  (some 2)
  (cnd (ilt x.1.2.2.2.2.1 (aA x.1.2.2.2.2.2.2.2 (toN x.2) zC).1)
   (some 2)
   (jn (fun (v0:Unit) =>
    bnd (iI N (x.1,(aA x.1.2.2.2.2.2.2.2 (toN x.2) zC).1)) fun v1 =>
    cnd (ile 0 v1)
     (some 7)
     (cnd (ilt (aA x.1.2.2.2.2.2.2.2 (toN x.2) zC).2.1 1)
      (some 2)
      (cnd (ilt x.1.2.2.2.2.1 (aA x.1.2.2.2.2.2.2.2 (toN x.2) zC).2.1)
       (some 2)
       (jn (fun (v2:Unit) =>
        bnd (fH N (aA x.1.2.2.2.2.2.2.2 (toN x.2) zC).2.2.2.2.1) fun v3 =>
        cnd (bA v3)
         (some 5)
         (bnd (nT N (aA x.1.2.2.2.2.2.2.2 (toN x.2) zC).2.2.2.2.2.1) fun v4 =>
         cnd (bA v4)
          (some 10)
          (cnd (seq (aA x.1.2.2.2.2.2.2.2 (toN x.2) zC).2.2.2.2.2.1 ([]:Y_))
           (some 4)
           (cnd (ilt 400 (len (aA x.1.2.2.2.2.2.2.2 (toN x.2) zC).2.2.2.2.2.1))
            (some 9)
            (some 0)))))
       fun v5 =>
       cnd (aA x.1.2.2.2.2.2.2.2 (toN x.2) zC).2.2.2.2.2.2.2
        (cnd (ine (aA x.1.2.2.2.2.2.2.2 (toN x.2) zC).2.2.1 0)
         (some 2)
         (cnd (ine (aA x.1.2.2.2.2.2.2.2 (toN x.2) zC).2.2.2.1 0)
          (some 2)
          (v5 ())))
        (bnd (iI N (x.1,(aA x.1.2.2.2.2.2.2.2 (toN x.2) zC).2.1)) fun v6 =>
        cnd (ilt v6 0)
         (some 6)
         (cnd (ilt (aA x.1.2.2.2.2.2.2.2 (toN x.2) zC).2.2.1 0)
          (some 2)
          (cnd (ile (aA x.1.2.2.2.2.2.2.2 (toN x.2) zC).2.2.2.1 (aA x.1.2.2.2.2.2.2.2 (toN x.2) zC).2.2.1)
           (some 2)
           (grd (inb v6 (len x.1.2.2.2.2.2.2.1))
            (bnd (oJ N (aA x.1.2.2.2.2.2.2.1 (toN v6) zE)) fun v7 =>
            cnd (ilt v7 (aA x.1.2.2.2.2.2.2.2 (toN x.2) zC).2.2.2.1)
             (some 2)
             (v5 ()))))))))))
   fun v8 =>
   cnd (ilt 0 x.2)
    (grd (inb (w64 (aH x.2 1)) (len x.1.2.2.2.2.2.2.2))
     (cnd (ile (aA x.1.2.2.2.2.2.2.2 (toN x.2) zC).1 (aA x.1.2.2.2.2.2.2.2 (toN (w64 (aH x.2 1))) zC).1)
      (some 8)
      (v8 ())))
    (v8 ())))
def UW:List PK:=[.k (.v Y1 [])]
def UX:List Kd:=[.v (.int .i64) []]
def aHW(N:Nat) (x:D7):Option (Int) :=
 bnd (aHO N x) fun v0 =>
 cnd (ine v0 0)
  (some v0)
  (bnd (aHP N x.2.2.2.2.2.1) fun v1 =>
  cnd (ine v1 0)
   (some v1)
   (cnd (ilt 400 (len x.2.2.2.2.2.2.1))
    (some 9)
    (jn (fun (v2:Unit) =>
     cnd (ilt 64 (len x.2.2.2.2.2.2.2))
      (some 9)
      (jn (fun (v3:Unit) =>
       some 0)
      fun v4 =>
      aY (fun v5 (v6:Int) =>
       cnd (ilt v6 (len x.2.2.2.2.2.2.2))
        (bnd (aHV N (x,v6)) fun v7 =>
        cnd (ine v7 0)
         (some v7)
         (v5 (w64 (aE v6 1))))
        (v4 ())) N 0))
    fun v8 =>
    aY (fun v9 (v10:Int) =>
     cnd (ilt v10 (len x.2.2.2.2.2.2.1))
      (grd (inb v10 (len x.2.2.2.2.2.2.1))
       (bnd (aHU N (aA x.2.2.2.2.2.2.1 (toN v10) zE,x.2.2.2.2.2.1)) fun v11 =>
       cnd (ine v11 0)
        (some v11)
        (cnd (ilt x.2.2.2.2.1 (aA x.2.2.2.2.2.2.1 (toN v10) zE).1)
         (some 2)
         (cnd (ilt 0 v10)
          (grd (inb (w64 (aH v10 1)) (len x.2.2.2.2.2.2.1))
           (bnd (pM N (aA x.2.2.2.2.2.2.1 (toN (w64 (aH v10 1))) zE,aA x.2.2.2.2.2.2.1 (toN v10) zE)) fun v12 =>
           cnd (bA v12)
            (some 8)
            (bnd (iI N (x,(aA x.2.2.2.2.2.2.1 (toN v10) zE).1)) fun v13 =>
            cnd (ine v13 v10)
             (some 7)
             (v9 (w64 (aE v10 1))))))
          (bnd (iI N (x,(aA x.2.2.2.2.2.2.1 (toN v10) zE).1)) fun v14 =>
          cnd (ine v14 v10)
           (some 7)
           (v9 (w64 (aE v10 1))))))))
      (v8 ())) N 0)))
def UY:List PK:=[.k (.v (.slice Y2) [])]
def UZ:List Kd:=[.v Y1 [],.v (.int .i64) [],.v (.int .i64) []]
def aHX(N:Nat) (x:List D1):Option (D7×Int×Int) :=
 bnd (aHG N x) fun v0 =>
 cnd (ine v0 0)
  (some ((([]:Y_),([]:Y_),0,false,0,([]:List D3),([]:List D2),([]:List D4)),0,v0))
  (jn (fun (v1:D7) =>
   bnd (aHW N (v1.1,v1.2.1,v1.2.2.1,v1.2.2.2.1,v1.2.2.2.2.1,v1.2.2.2.2.2.1,bJ v1.2.2.2.2.2.2.1 ((aI v1.2.2.2.2.2.2.1 zE).1,(aI v1.2.2.2.2.2.2.1 zE).2.1,(aI v1.2.2.2.2.2.2.1 zE).2.2.1,(aI v1.2.2.2.2.2.2.1 zE).2.2.2.1,(aI v1.2.2.2.2.2.2.1 zE).2.2.2.2.1,bJ (aI v1.2.2.2.2.2.2.1 zE).2.2.2.2.2 (aI (aI v1.2.2.2.2.2.2.1 zE).2.2.2.2.2 [])),v1.2.2.2.2.2.2.2)) fun v2 =>
   cnd (ine v2 0)
    (some ((([]:Y_),([]:Y_),0,false,0,([]:List D3),([]:List D2),([]:List D4)),0,v2))
    (some ((v1.1,v1.2.1,v1.2.2.1,v1.2.2.2.1,v1.2.2.2.2.1,v1.2.2.2.2.2.1,bJ v1.2.2.2.2.2.2.1 ((aI v1.2.2.2.2.2.2.1 zE).1,(aI v1.2.2.2.2.2.2.1 zE).2.1,(aI v1.2.2.2.2.2.2.1 zE).2.2.1,(aI v1.2.2.2.2.2.2.1 zE).2.2.2.1,(aI v1.2.2.2.2.2.2.1 zE).2.2.2.2.1,bJ (aI v1.2.2.2.2.2.2.1 zE).2.2.2.2.2 (aI (aI v1.2.2.2.2.2.2.1 zE).2.2.2.2.2 [])),v1.2.2.2.2.2.2.2),0,0)))
  fun v3 =>
  aY (fun v4 (v5:Int×Y_×Y_×UInt8×Bool×Int×(List D3)×(List D2)×List D4) =>
   cnd (ilt v5.1 (len x))
    (grd (inb v5.1 (len x))
     (bnd (aHH N (x,v5.1)) fun v6 =>
     cnd (bA v6)
      (some ((([]:Y_),([]:Y_),0,false,0,([]:List D3),([]:List D2),([]:List D4)),v5.1,4))
      (bnd (pJ N (aA x (toN v5.1) zN)) fun v7 =>
      cnd (bA v7)
       (some ((([]:Y_),([]:Y_),0,false,0,([]:List D3),([]:List D2),([]:List D4)),v5.1,4))
       (jn (fun (v8:(D1×Int)×Y_×Y_×UInt8×Bool×Int×(List D3)×(List D2)×List D4) =>
        cnd (ine v8.1.2 0)
         (some ((([]:Y_),([]:Y_),0,false,0,([]:List D3),([]:List D2),([]:List D4)),v5.1,v8.1.2))
         (v4 (w64 (aE v5.1 1),v8.2.1,v8.2.2.1,v8.2.2.2.1,v8.2.2.2.2.1,v8.2.2.2.2.2.1,v8.2.2.2.2.2.2.1,bJ v8.2.2.2.2.2.2.2.1 ((aI v8.2.2.2.2.2.2.2.1 zE).1,(aI v8.2.2.2.2.2.2.2.1 zE).2.1,(aI v8.2.2.2.2.2.2.2.1 zE).2.2.1,(aI v8.2.2.2.2.2.2.2.1 zE).2.2.2.1,(aI v8.2.2.2.2.2.2.2.1 zE).2.2.2.2.1,bJ (aI v8.2.2.2.2.2.2.2.1 zE).2.2.2.2.2 (aI (aI v8.2.2.2.2.2.2.2.1 zE).2.2.2.2.2 [])),v8.2.2.2.2.2.2.2.2)))
       fun v9 =>
       cnd (seq (aA x (toN v5.1) zN).1 ([116,116]:Y_))
        (bnd (aHJ N ((aA x (toN v5.1) zN,0),v5.2.1,v5.2.2.1,v5.2.2.2.1,v5.2.2.2.2.1,v5.2.2.2.2.2.1,v5.2.2.2.2.2.2.1,bJ v5.2.2.2.2.2.2.2.1 ((aI v5.2.2.2.2.2.2.2.1 zE).1,(aI v5.2.2.2.2.2.2.2.1 zE).2.1,(aI v5.2.2.2.2.2.2.2.1 zE).2.2.1,(aI v5.2.2.2.2.2.2.2.1 zE).2.2.2.1,(aI v5.2.2.2.2.2.2.2.1 zE).2.2.2.2.1,bJ (aI v5.2.2.2.2.2.2.2.1 zE).2.2.2.2.2 (aI (aI v5.2.2.2.2.2.2.2.1 zE).2.2.2.2.2 [])),v5.2.2.2.2.2.2.2.2)) fun v10 =>
        v9 (v10.1,v10.2.1,v10.2.2.1,v10.2.2.2.1,v10.2.2.2.2.1,v10.2.2.2.2.2.1,v10.2.2.2.2.2.2.1,bJ v10.2.2.2.2.2.2.2.1 ((aI v10.2.2.2.2.2.2.2.1 zE).1,(aI v10.2.2.2.2.2.2.2.1 zE).2.1,(aI v10.2.2.2.2.2.2.2.1 zE).2.2.1,(aI v10.2.2.2.2.2.2.2.1 zE).2.2.2.1,(aI v10.2.2.2.2.2.2.2.1 zE).2.2.2.2.1,bJ (aI v10.2.2.2.2.2.2.2.1 zE).2.2.2.2.2 (aI (aI v10.2.2.2.2.2.2.2.1 zE).2.2.2.2.2 [])),v10.2.2.2.2.2.2.2.2))
        (cnd (seq (aA x (toN v5.1) zN).1 ([114,101,103,105,111,110]:Y_))
         (bnd (aHK N ((aA x (toN v5.1) zN,0),v5.2.1,v5.2.2.1,v5.2.2.2.1,v5.2.2.2.2.1,v5.2.2.2.2.2.1,v5.2.2.2.2.2.2.1,bJ v5.2.2.2.2.2.2.2.1 ((aI v5.2.2.2.2.2.2.2.1 zE).1,(aI v5.2.2.2.2.2.2.2.1 zE).2.1,(aI v5.2.2.2.2.2.2.2.1 zE).2.2.1,(aI v5.2.2.2.2.2.2.2.1 zE).2.2.2.1,(aI v5.2.2.2.2.2.2.2.1 zE).2.2.2.2.1,bJ (aI v5.2.2.2.2.2.2.2.1 zE).2.2.2.2.2 (aI (aI v5.2.2.2.2.2.2.2.1 zE).2.2.2.2.2 [])),v5.2.2.2.2.2.2.2.2)) fun v11 =>
         v9 (v11.1,v11.2.1,v11.2.2.1,v11.2.2.2.1,v11.2.2.2.2.1,v11.2.2.2.2.2.1,v11.2.2.2.2.2.2.1,bJ v11.2.2.2.2.2.2.2.1 ((aI v11.2.2.2.2.2.2.2.1 zE).1,(aI v11.2.2.2.2.2.2.2.1 zE).2.1,(aI v11.2.2.2.2.2.2.2.1 zE).2.2.1,(aI v11.2.2.2.2.2.2.2.1 zE).2.2.2.1,(aI v11.2.2.2.2.2.2.2.1 zE).2.2.2.2.1,bJ (aI v11.2.2.2.2.2.2.2.1 zE).2.2.2.2.2 (aI (aI v11.2.2.2.2.2.2.2.1 zE).2.2.2.2.2 [])),v11.2.2.2.2.2.2.2.2))
         (cnd (seq (aA x (toN v5.1) zN).1 ([112]:Y_))
          (bnd (aHM N ((aA x (toN v5.1) zN,0),v5.2.1,v5.2.2.1,v5.2.2.2.1,v5.2.2.2.2.1,v5.2.2.2.2.2.1,v5.2.2.2.2.2.2.1,bJ v5.2.2.2.2.2.2.2.1 ((aI v5.2.2.2.2.2.2.2.1 zE).1,(aI v5.2.2.2.2.2.2.2.1 zE).2.1,(aI v5.2.2.2.2.2.2.2.1 zE).2.2.1,(aI v5.2.2.2.2.2.2.2.1 zE).2.2.2.1,(aI v5.2.2.2.2.2.2.2.1 zE).2.2.2.2.1,bJ (aI v5.2.2.2.2.2.2.2.1 zE).2.2.2.2.2 (aI (aI v5.2.2.2.2.2.2.2.1 zE).2.2.2.2.2 [])),v5.2.2.2.2.2.2.2.2)) fun v12 =>
          v9 (v12.1,v12.2.1,v12.2.2.1,v12.2.2.2.1,v12.2.2.2.2.1,v12.2.2.2.2.2.1,v12.2.2.2.2.2.2.1,bJ v12.2.2.2.2.2.2.2.1 ((aI v12.2.2.2.2.2.2.2.1 zE).1,(aI v12.2.2.2.2.2.2.2.1 zE).2.1,(aI v12.2.2.2.2.2.2.2.1 zE).2.2.1,(aI v12.2.2.2.2.2.2.2.1 zE).2.2.2.1,(aI v12.2.2.2.2.2.2.2.1 zE).2.2.2.2.1,bJ (aI v12.2.2.2.2.2.2.2.1 zE).2.2.2.2.2 (aI (aI v12.2.2.2.2.2.2.2.1 zE).2.2.2.2.2 [])),v12.2.2.2.2.2.2.2.2))
          (cnd (seq (aA x (toN v5.1) zN).1 ([114,111,119]:Y_))
           (grd (inb (w64 (aH (len v5.2.2.2.2.2.2.2.1) 1)) (len v5.2.2.2.2.2.2.2.1))
            (grd (ieq (w64 (aH (len v5.2.2.2.2.2.2.2.1) 1)) (aH (len v5.2.2.2.2.2.2.2.1) 1))
             (grd (ieq (ofN (toN (w64 (aH (len v5.2.2.2.2.2.2.2.1) 1)))) (aH (len v5.2.2.2.2.2.2.2.1) 1))
              (grd (cL (aE (len (bJ (aI v5.2.2.2.2.2.2.2.1 zE).2.2.2.2.2 (aI (aI v5.2.2.2.2.2.2.2.1 zE).2.2.2.2.2 []))) (len ([[]]:List (List D5)))) 24)
               (grd (ieq (ofN (toN (w64 (aH (len v5.2.2.2.2.2.2.2.1) 1)))) (aH (len v5.2.2.2.2.2.2.2.1) 1))
                (v9 ((aA x (toN v5.1) zN,0),v5.2.1,v5.2.2.1,v5.2.2.2.1,v5.2.2.2.2.1,v5.2.2.2.2.2.1,v5.2.2.2.2.2.2.1,bJ v5.2.2.2.2.2.2.2.1 ((aI v5.2.2.2.2.2.2.2.1 zE).1,(aI v5.2.2.2.2.2.2.2.1 zE).2.1,(aI v5.2.2.2.2.2.2.2.1 zE).2.2.1,(aI v5.2.2.2.2.2.2.2.1 zE).2.2.2.1,(aI v5.2.2.2.2.2.2.2.1 zE).2.2.2.2.1,bJ (bL (bJ (aI v5.2.2.2.2.2.2.2.1 zE).2.2.2.2.2 (aI (aI v5.2.2.2.2.2.2.2.1 zE).2.2.2.2.2 [])) ([[]]:List (List D5))) ([]:List D5)),v5.2.2.2.2.2.2.2.2)))))))
           (grd (inb (w64 (aH (len v5.2.2.2.2.2.2.2.1) 1)) (len v5.2.2.2.2.2.2.2.1))
            (grd (ieq (w64 (aH (len v5.2.2.2.2.2.2.2.1) 1)) (aH (len v5.2.2.2.2.2.2.2.1) 1))
             (grd (ieq (ofN (toN (w64 (aH (len v5.2.2.2.2.2.2.2.1) 1)))) (aH (len v5.2.2.2.2.2.2.2.1) 1))
              (grd (ieq (ofN (toN (w64 (aH (len v5.2.2.2.2.2.2.2.1) 1)))) (aH (len v5.2.2.2.2.2.2.2.1) 1))
               (grd (inb (w64 (aH (len (aI v5.2.2.2.2.2.2.2.1 zE).2.2.2.2.2) 1)) (len (aI v5.2.2.2.2.2.2.2.1 zE).2.2.2.2.2))
                (grd (ieq (w64 (aH (len (aI v5.2.2.2.2.2.2.2.1 zE).2.2.2.2.2) 1)) (aH (len (aI v5.2.2.2.2.2.2.2.1 zE).2.2.2.2.2) 1))
                 (cnd (seq (aA x (toN v5.1) zN).1 ([114,117,110]:Y_))
                  (grd (ieq (ofN (toN (w64 (aH (len (aI v5.2.2.2.2.2.2.2.1 zE).2.2.2.2.2) 1)))) (aH (len (aI v5.2.2.2.2.2.2.2.1 zE).2.2.2.2.2) 1))
                   (bnd (aHN N ((aA x (toN v5.1) zN,0),bJ (aI v5.2.2.2.2.2.2.2.1 zE).2.2.2.2.2 (aI (aI v5.2.2.2.2.2.2.2.1 zE).2.2.2.2.2 []))) fun v13 =>
                   v9 (v13.1,v5.2.1,v5.2.2.1,v5.2.2.2.1,v5.2.2.2.2.1,v5.2.2.2.2.2.1,v5.2.2.2.2.2.2.1,bJ v5.2.2.2.2.2.2.2.1 ((aI v5.2.2.2.2.2.2.2.1 zE).1,(aI v5.2.2.2.2.2.2.2.1 zE).2.1,(aI v5.2.2.2.2.2.2.2.1 zE).2.2.1,(aI v5.2.2.2.2.2.2.2.1 zE).2.2.2.1,(aI v5.2.2.2.2.2.2.2.1 zE).2.2.2.2.1,bJ v13.2 (aI v13.2 [])),v5.2.2.2.2.2.2.2.2)))
                  (grd (ieq (ofN (toN (w64 (aH (len (aI v5.2.2.2.2.2.2.2.1 zE).2.2.2.2.2) 1)))) (aH (len (aI v5.2.2.2.2.2.2.2.1 zE).2.2.2.2.2) 1))
                   (grd (ieq (ofN (toN (w64 (aH (len (aI v5.2.2.2.2.2.2.2.1 zE).2.2.2.2.2) 1)))) (aH (len (aI v5.2.2.2.2.2.2.2.1 zE).2.2.2.2.2) 1))
                    (grd (inb (w64 (aH (len (aI (aI v5.2.2.2.2.2.2.2.1 zE).2.2.2.2.2 [])) 1)) (len (aI (aI v5.2.2.2.2.2.2.2.1 zE).2.2.2.2.2 [])))
                     (grd (dQ (aE (len (aA (aI (aI v5.2.2.2.2.2.2.2.1 zE).2.2.2.2.2 []) (toN (w64 (aH (len (aI (aI v5.2.2.2.2.2.2.2.1 zE).2.2.2.2.2 [])) 1))) zU).1) (len (aA x (toN v5.1) zN).2.1)))
                      (grd (inb (w64 (aH (len (aI (aI v5.2.2.2.2.2.2.2.1 zE).2.2.2.2.2 [])) 1)) (len (aI (aI v5.2.2.2.2.2.2.2.1 zE).2.2.2.2.2 [])))
                       (v9 ((aA x (toN v5.1) zN,0),v5.2.1,v5.2.2.1,v5.2.2.2.1,v5.2.2.2.2.1,v5.2.2.2.2.2.1,v5.2.2.2.2.2.2.1,bJ v5.2.2.2.2.2.2.2.1 ((aI v5.2.2.2.2.2.2.2.1 zE).1,(aI v5.2.2.2.2.2.2.2.1 zE).2.1,(aI v5.2.2.2.2.2.2.2.1 zE).2.2.1,(aI v5.2.2.2.2.2.2.2.1 zE).2.2.2.1,(aI v5.2.2.2.2.2.2.2.1 zE).2.2.2.2.1,bJ (aI v5.2.2.2.2.2.2.2.1 zE).2.2.2.2.2 (nS (aI (aI v5.2.2.2.2.2.2.2.1 zE).2.2.2.2.2 []) (toN (w64 (aH (len (aI (aI v5.2.2.2.2.2.2.2.1 zE).2.2.2.2.2 [])) 1))) (bL (aA (aI (aI v5.2.2.2.2.2.2.2.1 zE).2.2.2.2.2 []) (toN (w64 (aH (len (aI (aI v5.2.2.2.2.2.2.2.1 zE).2.2.2.2.2 [])) 1))) zU).1 (aA x (toN v5.1) zN).2.1,(aA (aI (aI v5.2.2.2.2.2.2.2.1 zE).2.2.2.2.2 []) (toN (w64 (aH (len (aI (aI v5.2.2.2.2.2.2.2.1 zE).2.2.2.2.2 [])) 1))) zU).2))),v5.2.2.2.2.2.2.2.2)))))))))))))))))))))
    (v3 (v5.2.1,v5.2.2.1,v5.2.2.2.1,v5.2.2.2.2.1,v5.2.2.2.2.2.1,v5.2.2.2.2.2.2.1,bJ v5.2.2.2.2.2.2.2.1 ((aI v5.2.2.2.2.2.2.2.1 zE).1,(aI v5.2.2.2.2.2.2.2.1 zE).2.1,(aI v5.2.2.2.2.2.2.2.1 zE).2.2.1,(aI v5.2.2.2.2.2.2.2.1 zE).2.2.2.1,(aI v5.2.2.2.2.2.2.2.1 zE).2.2.2.2.1,bJ (aI v5.2.2.2.2.2.2.2.1 zE).2.2.2.2.2 (aI (aI v5.2.2.2.2.2.2.2.1 zE).2.2.2.2.2 [])),v5.2.2.2.2.2.2.2.2))) N (0,([]:Y_),([]:Y_),0,false,0,([]:List D3),([]:List D2),([]:List D4)))
def VA:List PK:=[.k (.v (.str) [])]
def VB:List Kd:=[.v Y1 [],.v (.slice Y6) [0]]
def aHY(N:Nat) (x:Y_):Option (D7×List D8) :=
 bnd (aHF N x) fun v0 =>
 cnd (ilt 0 (len v0.2))
  (some ((([]:Y_),([]:Y_),0,false,0,([]:List D3),([]:List D2),([]:List D4)),v0.2))
  (bnd (aHX N v0.1) fun v1 =>
  cnd (ine v1.2.2 0)
   (some ((([]:Y_),([]:Y_),0,false,0,([]:List D3),([]:List D2),([]:List D4)),([(1,1,v1.2.2)]:List D8)))
   (some (v1.1,([]:List D8))))
def VC:List PK:=[.k (.v Y1 [])]
def VD:List Kd:=[.v (.st (.pair (.str) (.pair (.str) (.pair (.u8) (.pair (.bool) (.int .i64)))))) []]
def aHZ(N:Nat) (x:D7):Option (Y_×Y_×UInt8×Bool×Int) :=
 some (x.1,x.2.1,x.2.2.1,x.2.2.2.1,x.2.2.2.2.1)
def VE:List PK:=[.k (.v (.slice Y4) []),.k (.v (.slice Y4) [])]
def VF:List Kd:=[.v (.bool) []]
def aH0(N:Nat) (x:(List D3)×List D3):Option (Bool) :=
 cnd (ine (len x.1) (len x.2))
  (some false)
  (jn (fun (v0:Unit) =>
   some true)
  fun v1 =>
  aY (fun v2 (v3:Int) =>
   cnd (ilt v3 (len x.1))
    (grd (inb v3 (len x.1))
     (grd (inb v3 (len x.2))
      (cnd (bA (cY (seq (aA x.1 (toN v3) zG).1 (aA x.2 (toN v3) zG).1) (cY (ieq (aA x.1 (toN v3) zG).2.1 (aA x.2 (toN v3) zG).2.1) (cY (ieq (aA x.1 (toN v3) zG).2.2.1 (aA x.2 (toN v3) zG).2.2.1) (cY (ieq (aA x.1 (toN v3) zG).2.2.2.1 (aA x.2 (toN v3) zG).2.2.2.1) (cY (ieq (aA x.1 (toN v3) zG).2.2.2.2.1 (aA x.2 (toN v3) zG).2.2.2.2.1) (cY (ieq (n8 (aA x.1 (toN v3) zG).2.2.2.2.2.1) (n8 (aA x.2 (toN v3) zG).2.2.2.2.2.1)) (oV (aA x.1 (toN v3) zG).2.2.2.2.2.2 (aA x.2 (toN v3) zG).2.2.2.2.2.2))))))))
       (some false)
       (v2 (w64 (aE v3 1))))))
    (v1 ())) N 0)
def VG:List PK:=[.k (.v (.slice Y5) []),.k (.v (.slice Y5) [])]
def VH:List Kd:=[.v (.bool) []]
def aH1(N:Nat) (x:(List D5)×List D5):Option (Bool) :=
 cnd (ine (len x.1) (len x.2))
  (some false)
  (jn (fun (v0:Unit) =>
   some true)
  fun v1 =>
  aY (fun v2 (v3:Int) =>
   cnd (ilt v3 (len x.1))
    (grd (inb v3 (len x.1))
     (grd (inb v3 (len x.2))
      (cnd (bA (cY (seq (aA x.1 (toN v3) zU).1 (aA x.2 (toN v3) zU).1) (cY (cY (ieq (n8 (aA x.1 (toN v3) zU).2.1.1) (n8 (aA x.2 (toN v3) zU).2.1.1)) (cY (oV (aA x.1 (toN v3) zU).2.1.2.1 (aA x.2 (toN v3) zU).2.1.2.1) (oV (aA x.1 (toN v3) zU).2.1.2.2 (aA x.2 (toN v3) zU).2.1.2.2))) (seq (aA x.1 (toN v3) zU).2.2 (aA x.2 (toN v3) zU).2.2))))
       (some false)
       (v2 (w64 (aE v3 1))))))
    (v1 ())) N 0)
def EW:List PK:=[.k (.v (.st (.slice Y5)) []),.k (.v (.st (.slice Y5)) [])]
def EX:List Kd:=[.v (.bool) []]
def C4(N:Nat) (x:(List D5)×List D5):Option (Bool) :=
 bnd (aH1 N x) fun v0 =>
 some v0
def VI:List PK:=[.k (.v (.slice (.st (.slice Y5))) []),.k (.v (.slice (.st (.slice Y5))) []),.fn 163]
def VJ:List Kd:=[.v (.bool) []]
def aL7(N:Nat) (x:(List (List D5))×List (List D5)):Option (Bool) :=
 cnd (ine (len x.1) (len x.2))
  (some false)
  (jn (fun (v0:Unit) =>
   some true)
  fun v1 =>
  aY (fun v2 (v3:Int) =>
   cnd (ilt v3 (len x.1))
    (grd (inb v3 (len x.1))
     (grd (inb v3 (len x.2))
      (bnd (C4 N (aA x.1 (toN v3) [],aA x.2 (toN v3) [])) fun v4 =>
      cnd (bA v4)
       (some false)
       (v2 (w64 (aE v3 1))))))
    (v1 ())) N 0)
def VK:List PK:=[.k (.v (.slice (.st (.slice Y5))) []),.k (.v (.slice (.st (.slice Y5))) [])]
def VL:List Kd:=[.v (.bool) []]
def aH2(N:Nat) (x:(List (List D5))×List (List D5)):Option (Bool) :=
 bnd (aL7 N x) fun v0 =>
 some v0
def EY:List PK:=[.k (.v (.st Y3) []),.k (.v (.st Y3) [])]
def EZ:List Kd:=[.v (.bool) []]
def aBA(N:Nat) (x:D2×Int×(Int×Int)×Y_×UInt8×Y_×List (List D5)):Option (Bool) :=
 cnd (ieq x.1.1 x.2.1)
  (cnd (cY (ieq x.1.2.1.1 x.2.2.1.1) (ieq x.1.2.1.2 x.2.2.1.2))
   (cnd (seq x.1.2.2.1 x.2.2.2.1)
    (cnd (ieq (n8 x.1.2.2.2.1) (n8 x.2.2.2.2.1))
     (cnd (seq x.1.2.2.2.2.1 x.2.2.2.2.2.1)
      (bnd (aH2 N (x.1.2.2.2.2.2,x.2.2.2.2.2.2)) fun v0 =>
      some v0)
      (some false))
     (some false))
    (some false))
   (some false))
  (some false)
def VM:List PK:=[.k (.v (.slice (.st Y3)) []),.k (.v (.slice (.st Y3)) []),.fn 56]
def VN:List Kd:=[.v (.bool) []]
def aH3(N:Nat) (x:(List D2)×List D2):Option (Bool) :=
 cnd (ine (len x.1) (len x.2))
  (some false)
  (jn (fun (v0:Unit) =>
   some true)
  fun v1 =>
  aY (fun v2 (v3:Int) =>
   cnd (ilt v3 (len x.1))
    (grd (inb v3 (len x.1))
     (grd (inb v3 (len x.2))
      (bnd (aBA N (aA x.1 (toN v3) zE,aA x.2 (toN v3) zE)) fun v4 =>
      cnd (bA v4)
       (some false)
       (v2 (w64 (aE v3 1))))))
    (v1 ())) N 0)
def VO:List PK:=[.k (.v (.slice Y8) []),.k (.v (.slice Y8) [])]
def VP:List Kd:=[.v (.bool) []]
def aL8(N:Nat) (x:(List D4)×List D4):Option (Bool) :=
 cnd (ine (len x.1) (len x.2))
  (some false)
  (jn (fun (v0:Unit) =>
   some true)
  fun v1 =>
  aY (fun v2 (v3:Int) =>
   cnd (ilt v3 (len x.1))
    (grd (inb v3 (len x.1))
     (grd (inb v3 (len x.2))
      (cnd (bA (cY (ieq (aA x.1 (toN v3) zC).1 (aA x.2 (toN v3) zC).1) (cY (ieq (aA x.1 (toN v3) zC).2.1 (aA x.2 (toN v3) zC).2.1) (cY (ieq (aA x.1 (toN v3) zC).2.2.1 (aA x.2 (toN v3) zC).2.2.1) (cY (ieq (aA x.1 (toN v3) zC).2.2.2.1 (aA x.2 (toN v3) zC).2.2.2.1) (cY (seq (aA x.1 (toN v3) zC).2.2.2.2.1 (aA x.2 (toN v3) zC).2.2.2.2.1) (cY (seq (aA x.1 (toN v3) zC).2.2.2.2.2.1 (aA x.2 (toN v3) zC).2.2.2.2.2.1) (cY (oV (aA x.1 (toN v3) zC).2.2.2.2.2.2.1 (aA x.2 (toN v3) zC).2.2.2.2.2.2.1) (oV (aA x.1 (toN v3) zC).2.2.2.2.2.2.2 (aA x.2 (toN v3) zC).2.2.2.2.2.2.2)))))))))
       (some false)
       (v2 (w64 (aE v3 1))))))
    (v1 ())) N 0)
def VQ:List PK:=[.k (.v Y1 []),.k (.v Y1 [])]
def VR:List Kd:=[.v (.bool) []]
def aBB(N:Nat) (x:D7×Y_×Y_×UInt8×Bool×Int×(List D3)×(List D2)×List D4):Option (Bool) :=
 bnd (aHZ N x.1) fun v0 =>
 bnd (aHZ N x.2) fun v1 =>
 cnd (cY (seq v0.1 v1.1) (cY (seq v0.2.1 v1.2.1) (cY (ieq (n8 v0.2.2.1) (n8 v1.2.2.1)) (cY (oV v0.2.2.2.1 v1.2.2.2.1) (ieq v0.2.2.2.2 v1.2.2.2.2)))))
  (bnd (aH0 N (x.1.2.2.2.2.2.1,x.2.2.2.2.2.2.1)) fun v2 =>
  cnd v2
   (bnd (aH3 N (x.1.2.2.2.2.2.2.1,x.2.2.2.2.2.2.2.1)) fun v3 =>
   cnd v3
    (bnd (aL8 N (x.1.2.2.2.2.2.2.2,x.2.2.2.2.2.2.2.2)) fun v4 =>
    some v4)
    (some false))
   (some false))
  (some false)
def VS:List PK:=[.k (.v (.slice Y6) []),.k (.v (.slice Y6) [])]
def VT:List Kd:=[.v (.bool) []]
def aH4(N:Nat) (x:(List D8)×List D8):Option (Bool) :=
 cnd (ine (len x.1) (len x.2))
  (some false)
  (jn (fun (v0:Unit) =>
   some true)
  fun v1 =>
  aY (fun v2 (v3:Int) =>
   cnd (ilt v3 (len x.1))
    (grd (inb v3 (len x.1))
     (grd (inb v3 (len x.2))
      (cnd (bA (cY (ieq (aA x.1 (toN v3) (0,(0,0))).1 (aA x.2 (toN v3) (0,(0,0))).1) (cY (ieq (aA x.1 (toN v3) (0,(0,0))).2.1 (aA x.2 (toN v3) (0,(0,0))).2.1) (ieq (aA x.1 (toN v3) (0,(0,0))).2.2 (aA x.2 (toN v3) (0,(0,0))).2.2))))
       (some false)
       (v2 (w64 (aE v3 1))))))
    (v1 ())) N 0)
def nL:List PK:=[.k (.v (.str) [])]
def nM:List Kd:=[.v (.bool) []]
def fI(N:Nat) (x:Y_):Option (Bool) :=
 bnd (pH N ()) fun v0 =>
 cnd (bA v0)
  (some false)
  (bnd (mU N x) fun v1 =>
  bnd (aG9 N v1) fun v2 =>
  bnd (aHY N v1) fun v3 =>
  bnd (aBB N (v2.1,v3.1)) fun v4 =>
  cnd v4
   (bnd (aH4 N (v2.2,v3.2)) fun v5 =>
   some v5)
   (some false))
def aT3(N:Nat) (x:UInt8):Option Y_ :=
 cnd (ilt (n8 x) (n8 1))
  (some ([]:Y_))
  (cnd (ilt (n8 4) (n8 x))
   (some ([]:Y_))
   (bnd (aL3 N ()) fun v0 =>
   grd (inb (n8 (b8 (aH (n8 x) (n8 1)))) (len v0)) <|
   some (aA v0 (toN (n8 (b8 (aH (n8 x) (n8 1))))) [])))
end
end Go.Mo
end

section
set_option linter.unusedVariables false
namespace Go.Mo
open Go Go.W Go.Proofs Go.RowKit
theorem aSB:(Tryz.prog.info? 131).map (·.size)=some 2:=by kernel_rfl
theorem bAQ:liesAt Tryz.prog Tryz.prog.depth 131 (2 / Tryz.prog.cellsOf 131) 0 131 1=true:=by kernel_rfl
theorem cellsByte:Tryz.prog.cellsOf 5=1:=by kernel_rfl
theorem aT4:Tryz.prog.underlying 128=some (.pointer 131):=by kernel_rfl
theorem bAR:Tryz.prog.underlying 240=some .unsafePointer:=by kernel_rfl
theorem aSC:Tryz.prog.underlying 204=some (.pointer 5):=by kernel_rfl
theorem bG9:Tryz.prog.underlying 129=some (.slice 5):=by kernel_rfl
theorem bGY:Tryz.prog.follows .mixedOrders=true:=by kernel_rfl
theorem fNe:Tryz.prog.funcs[206]?=some Tryz.f206:=by kernel_rfl
set_option maxHeartbeats 1000000 in
set_option maxRecDepth 100000 in
theorem aP9(b:Nat) (w:World) (h0:w.cell? ⟨b,0,none⟩=some (.pointer (some ⟨b,0,none⟩))) :
  Calls Tryz.prog 146 #[.pointer (some ⟨b,0,none⟩)] w fun e w'=>e=.returned (.tuple #[])∧w'=w:=by
 obtain⟨j,hj,_⟩:=bHU.1 aSB
 go_enter Tryz.func146,Tryz.ntmps146
 go_wp2
 rw[Lib.run_neq_ptr_same w _ aT4 hj]
 go_wp2
 go_end0
 exact⟨rfl,rfl⟩
set_option maxHeartbeats 1000000 in
set_option maxRecDepth 100000 in
theorem aL9(b:Nat) (w:World) (h0:w.cell? ⟨b,0,none⟩=some (.pointer none)) (hsh:w.shape? b=some (131,2)) (hfz:w.frozen? ⟨b,0,none⟩=false) :
  Calls Tryz.prog 146 #[.pointer (some ⟨b,0,none⟩)] w fun e w'=>e=.returned (.tuple #[])∧w'=w.setCell ⟨b,0,none⟩ (.pointer (some ⟨b,0,none⟩)):=by
 obtain⟨j,hj,hjs⟩:=bHU.1 aSB
 go_enter Tryz.func146,Tryz.ntmps146
 go_wp2
 rw[Lib.run_to_unsafe w ⟨b,0,none⟩ aT4 bAR hj (by rw[hjs]; decide) hsh (Nat.zero_lt_succ 1)];simp only[Result.andThen];rw[Oper.upon_value]
 go_wp2
 rw[run_callFunc_extern fNe (by kernel_rfl) (by kernel_rfl) (by kernel_rfl) (e:=Extern.AbiNoEscape.same) (by kernel_rfl)];rw[Lib.run_noEscape];simp only[Result.andThen];rw[Oper.upon_value]
 go_wp2
 rw[Lib.run_from_unsafe w ⟨b,0,none⟩ bAR aT4 hj hsh bAQ];simp only[Result.andThen];rw[Oper.upon_value]
 go_wp2
 go_end0
 exact⟨rfl,rfl⟩
theorem bGZ:aTS Tryz.prog 146 131:=by
 intro w b p v hb hp;refine⟨by
  unfold callFunc;simp only[program,bJ6,Sem.run,bIY,show Tryz.prog.funcs[146]?=some Tryz.f146 from by kernel_rfl];rfl,?_⟩
 have c0:w.cell? ⟨b,0,none⟩=some p:=by rw[Lib.cell_of_heap hb]; rfl
 rcases hp with hp|hp
 ·subst hp;refine(aL9 b w c0 (by simp[World.shape?,hb]) (Lib.frozen_of_heap hb 0)).mono ?_;rintro e w' ⟨rfl,rfl⟩;refine⟨rfl,rfl,rfl,rfl,by simp[World.setCell],fun b' hb'=>?_,.pointer (some ⟨b,0,none⟩),?_,.inr rfl⟩
  ·simp[World.setCell,bH1,Ne.symm hb']
  ·simp[World.setCell,bH1,hb]
 ·subst hp;refine(aP9 b w c0).mono ?_;rintro e w' ⟨rfl,rfl⟩;exact⟨rfl,rfl,rfl,rfl,rfl,fun _ _=>rfl,_,hb,.inr rfl⟩
section
variable (b:Nat) (p:Value) (w:World)
set_option maxHeartbeats 2000000 in
set_option maxRecDepth 100000 in
theorem aQA(l:Y_) (h0:l≠[]) (g cap:Nat) (cur:Array Value) (fz:Nat×Nat) (hbk:w.heap[b]?=some (.cells #[p,.slice (some ⟨g,0,none⟩) l.length cap] 131 (0,0))) (hg:w.heap[g]?=some (.cells cur 5 fz)) (hnc:l.length≤cap) (hcm:cap≤maxLen) (hcs:cap≤cur.size) (htake:cur.toList.take l.length=l.map fun b=>Value.int .u8 (b.toNat:Int)) :
  Calls Tryz.prog 82 #[.pointer (some ⟨b,0,none⟩)] w fun e w'=>e=.returned (.string ⟨l.toArray⟩)∧w'=w.drew.freeze ⟨g,0,none⟩ l.length:=by
 have hl0:l.length≠0:=by simpa using h0
 have c1:w.drew.cell? ⟨b,1,none⟩=some (.slice (some ⟨g,0,none⟩) l.length cap):=by
  have:w.drew.heap[b]?=some (.cells #[p,.slice (some ⟨g,0,none⟩) l.length cap] 131 (0,0)):=hbk
  rw[Lib.cell_of_heap this]; rfl
 have hSD:(Builtin.unsafeSliceData_ #[129] 204 #[.slice (some ⟨g,0,none⟩) l.length cap]).run Tryz.prog w.drew=.ok (.pointer (some ⟨g,0,none⟩)) w.drew :=
  Lib.run_unsafeSliceData_row _ _ _ _ _ _ (by omega)
 have hUS:(Builtin.unsafeString_ #[204,3] 9 #[.pointer (some ⟨g,0,none⟩),.int .i64 l.length]).run Tryz.prog w.drew=.ok (.string ⟨l.toArray⟩) (w.drew.freeze ⟨g,0,none⟩ l.length):=by
  refine Lib.run_unsafeString_row w.drew 204 3 9 5 aSC cellsByte g cur.size (by have hg':w.drew.heap[g]?=some (.cells cur 5 fz):=hg; simp[World.shape?,hg']) l h0 (by omega) (by unfold maxLen at hcm; omega) ?_;intro j x hx
  have hg':w.drew.heap[g]?=some (.cells cur 5 fz):=hg
  rw[add_lit,jJ hg',bJ4]
  have hj:j<l.length:=(bHI.1 hx).1
  have:=congrArg (·[j]?) htake
  simp only[bIN,hj,if_true,bI0,hx,bJJ] at this
  simpa using this
 go_enter Tryz.func82,Tryz.ntmps82
 go_wp2
 go_region
 all_goals (go_wp2; go_ret; exact⟨rfl,rfl⟩)
theorem VU(W:World) (q:Option Addr):(Builtin.unsafeString_ #[204,3] 9 #[.pointer q,.int .i64 0]).run Tryz.prog W=.ok (.string .empty) W:=Lib.run_unsafeString_none W _ _ _ q
set_option maxHeartbeats 2000000 in
set_option maxRecDepth 100000 in
theorem aT5(hbk:w.heap[b]?=some (.cells #[p,.slice none 0 0] 131 (0,0))) :
  Calls Tryz.prog 82 #[.pointer (some ⟨b,0,none⟩)] w fun e w'=>e=.returned (.string ⟨#[]⟩)∧w'=w.drew:=by
 have hUS:=VU
 have c1:w.drew.cell? ⟨b,1,none⟩=some (.slice none 0 0):=by
  have:w.drew.heap[b]?=some (.cells #[p,.slice none 0 0] 131 (0,0)):=hbk
  rw[Lib.cell_of_heap this]; rfl
 have hSD:(Builtin.unsafeSliceData_ #[129] 204 #[.slice none 0 0]).run Tryz.prog w.drew=.ok (.pointer none) w.drew:=rfl
 go_enter Tryz.func82,Tryz.ntmps82
 go_wp2
 go_region
 all_goals (go_wp2; go_ret; exact⟨rfl,rfl⟩)
set_option maxHeartbeats 2000000 in
set_option maxRecDepth 100000 in
theorem aH5(g:Nat) (cur:Array Value) (fz:Nat×Nat) (hbk:w.heap[b]?=some (.cells #[p,.slice (some ⟨g,0,none⟩) 0 0] 131 (0,0))) (hg:w.heap[g]?=some (.cells cur 5 fz)) :
  Calls Tryz.prog 82 #[.pointer (some ⟨b,0,none⟩)] w fun e w'=>e=.returned (.string ⟨#[]⟩)∧∃d o,w'=World.alloc { w with drawn:=d } o:=by
 have hUS:=VU
 have hlt:b<w.heap.size:=(bHF.1 hbk).1
 have c1:w.drew.cell? ⟨b,1,none⟩=some (.slice (some ⟨g,0,none⟩) 0 0):=by
  have:w.drew.heap[b]?=some (.cells #[p,.slice (some ⟨g,0,none⟩) 0 0] 131 (0,0)):=hbk
  rw[Lib.cell_of_heap this]; rfl
 have hSD:(Builtin.unsafeSliceData_ #[129] 204 #[.slice (some ⟨g,0,none⟩) 0 0]).run Tryz.prog w.drew=.ok (.pointer (some ⟨w.drew.heap.size,0,none⟩)) (w.drew.alloc (.view ⟨g,0,none⟩ 5)) :=
  Lib.run_unsafeSliceData_zero w.drew _ _ 5 aSC ⟨g,0,none⟩ 0 (5,cur.size) (by have hg':w.drew.heap[g]?=some (.cells cur 5 fz):=hg; simp[World.shape?,hg'])
 have c2:(w.drew.alloc (.view ⟨g,0,none⟩ 5)).cell? ⟨b,1,none⟩=some (.slice (some ⟨g,0,none⟩) 0 0):=by
  have:(w.drew.alloc (.view ⟨g,0,none⟩ 5)).heap[b]?=_:=(Lib.alloc_old w.drew _ b hlt).trans hbk
  rw[Lib.cell_of_heap this]; rfl
 have c3:(w.alloc (.view ⟨g,0,none⟩ 5)).drew.cell? ⟨b,1,none⟩=some (.slice (some ⟨g,0,none⟩) 0 0):=c2
 have c0:w.cell? ⟨b,1,none⟩=some (.slice (some ⟨g,0,none⟩) 0 0):=c1
 go_enter Tryz.func82,Tryz.ntmps82
 go_wp2
 go_region
 all_goals (go_wp2; go_ret; exact⟨rfl,w.drawn+1,.view ⟨g,0,none⟩ 5,rfl⟩)
set_option maxHeartbeats 2000000 in
set_option maxRecDepth 100000 in
theorem aQB(g cap:Nat) (hc0:cap≠0) (hbk:w.heap[b]?=some (.cells #[p,.slice (some ⟨g,0,none⟩) 0 cap] 131 (0,0))) :
  Calls Tryz.prog 82 #[.pointer (some ⟨b,0,none⟩)] w fun e w'=>e=.returned (.string ⟨#[]⟩)∧w'=w.drew:=by
 have hUS:=VU
 have c1:w.drew.cell? ⟨b,1,none⟩=some (.slice (some ⟨g,0,none⟩) 0 cap):=by
  have:w.drew.heap[b]?=some (.cells #[p,.slice (some ⟨g,0,none⟩) 0 cap] 131 (0,0)):=hbk
  rw[Lib.cell_of_heap this]; rfl
 have hSD:(Builtin.unsafeSliceData_ #[129] 204 #[.slice (some ⟨g,0,none⟩) 0 cap]).run Tryz.prog w.drew=.ok (.pointer (some ⟨g,0,none⟩)) w.drew :=
  Lib.run_unsafeSliceData_row _ _ _ _ _ _ hc0
 clear hc0
 go_enter Tryz.func82,Tryz.ntmps82
 go_wp2
 go_region
 all_goals (go_wp2; go_ret; exact⟨rfl,rfl⟩)
end
theorem bAS:bAK Tryz.prog 82 131:=by
 intro w b p A c xs hb hcm hpre;refine⟨by
  unfold callFunc;simp only[program,bJ6,Sem.run,bIY,show Tryz.prog.funcs[82]?=some Tryz.f82 from by kernel_rfl];rfl,?_⟩
 have same:∀(A:Option Addr) (w':World),w'=w.drew→OB w w' A:=fun A w' e=>by
  subst e;exact⟨rfl,rfl,rfl,bKC _,fun _ _ _=>rfl,fun ad _ cs e fz h=>⟨fz,h⟩⟩
 rcases hpre with⟨rfl,rfl,rfl⟩|⟨g,cur,fz,rfl,h1,h2,h3,h4,h5⟩
 ·exact(aT5 b p w hb).mono fun e w' ⟨he,hw⟩=>⟨he,same _ _ hw⟩
 ·by_cases hx:xs=[]
  ·subst hx
   by_cases hc:c=0
   ·subst hc;refine(aH5 b p w g cur fz hb h1).mono fun e w' ⟨he,d,o,hw⟩=>⟨he,?_⟩
    subst hw
    have old:∀b',b'<w.heap.size→(World.alloc { w with drawn:=d } o).heap[b']?=w.heap[b']?:=fun b' hb'=>Below.heap_alloc { w with drawn:=d } o b' hb'
    exact⟨rfl,rfl,rfl,by simp[World.alloc],fun b' hb' _=>old b' hb',fun ad _ cs e fz h=>⟨fz,by rw[old _ (bHF.1 h).1]; exact h⟩⟩
   ·exact(aQB b p w g c hc hb).mono fun e w' ⟨he,hw⟩=>⟨he,same _ _ hw⟩
  ·refine(aQA b p w xs hx g c cur fz hb h1 h3 hcm h4 h5).mono fun e w' ⟨he,hw⟩=>⟨he,?_⟩
   subst hw
   have hne:xs.length≠0:=by simpa using hx
   unfold World.freeze;rw[if_neg hne];refine⟨rfl,rfl,rfl,by simp,fun b' _ hb'=>?_,fun ad had cs e fz' h=>?_⟩
   ·have hgb:g≠b':=fun e=>hb' _ rfl e.symm
    show(w.heap.modify g _)[b']?=w.heap[b']?;rw[bH1,if_neg hgb]
   ·injection had with had;subst had
    have h:w.heap[g]?=some (.cells cs e fz'):=h
    obtain⟨lo,hi⟩:=fz';refine⟨if lo==hi then(0,0+xs.length) else(min lo 0,max hi (0+xs.length)),?_⟩;show(w.heap.modify g _)[g]?=_;rw[bH1,if_pos rfl,h];rfl
end Go.Mo
end

section
set_option linter.unusedVariables false
namespace Go.Mo
open Go Go.W Go.Proofs Go.Shelf Go.RowKit
set_option maxRecDepth 100000
def bG0:Ren:=⟨fun n=>match n with | 196=>193 | 259=>242|n=>n,fun n=>match n with | 46=>265 | 53=>146 | 119=>261 | 138=>263 | 139=>264|n=>n,fun n=>match n with | 3=>3 | 4=>4|n=>n⟩
theorem bAT:Lays.n196 Tryz.prog bG0:={ mixed:=by kernel_rfl,f196:=by kernel_rfl,f259:=by kernel_rfl,t0:=by kernel_rfl,a0:=fun _=>by kernel_rfl,z0:=fun _=>by kernel_rfl,v0:=fun _=>by kernel_rfl,t3:=by kernel_rfl,a3:=fun _=>by kernel_rfl,z3:=fun _=>by kernel_rfl,v3:=fun _=>by kernel_rfl,t4:=by kernel_rfl,a4:=fun _=>by kernel_rfl,z4:=fun _=>by kernel_rfl,v4:=fun _=>by kernel_rfl,t5:=by kernel_rfl,a5:=fun _=>by kernel_rfl,z5:=fun _=>by kernel_rfl,v5:=fun _=>by kernel_rfl,t9:=by kernel_rfl,a9:=fun _=>by kernel_rfl,z9:=fun _=>by kernel_rfl,v9:=fun _=>by kernel_rfl,t12:=by kernel_rfl,a12:=fun _=>by kernel_rfl,z12:=fun _=>by kernel_rfl,v12:=fun _=>by kernel_rfl,t46:=by kernel_rfl,a46:=fun _=>by kernel_rfl,z46:=fun _=>by kernel_rfl,v46:=fun _=>by kernel_rfl,t53:=by kernel_rfl,a53:=fun _=>by kernel_rfl,z53:=fun _=>by kernel_rfl,v53:=fun _=>by kernel_rfl,t119:=by kernel_rfl,a119:=fun _=>by kernel_rfl,z119:=fun _=>by kernel_rfl,t138:=by kernel_rfl,a138:=fun _=>by kernel_rfl,z138:=fun _=>by kernel_rfl,v138:=fun _=>by kernel_rfl,t139:=by kernel_rfl,a139:=fun _=>by kernel_rfl,z139:=fun _=>by kernel_rfl,v139:=fun _=>by kernel_rfl,g3:=by kernel_rfl,g4:=by kernel_rfl }
theorem aH6:((List.range 256).all fun c=>Nat.beq ((gl3.getD c 0).toNat) (Lib.firstT c)&&Nat.beq gl3.length 256)=true:=by kernel_rfl
theorem aQC:((List.range 16).all fun c=>Nat.beq ((gl4.getD c (0,0)).1.toNat) (Lib.accLo c)&&Nat.beq ((gl4.getD c (0,0)).2.toNat) (Lib.accHi c)&&Nat.beq gl4.length 16)=true:=by kernel_rfl
theorem MA{K:Kn}:∀ {xs:List (UInt8×UInt8)}{vs:List Value},dI (bB K (.st (.pair .u8 .u8))) xs vs→∀i x,xs[i]?=some x→vs[2*i]?=some (.int .u8 (n8 x.1))∧vs[2*i+1]?=some (.int .u8 (n8 x.2))
 | [],vs,h,i,x,hx=>by simp at hx
 |y::xs,vs,⟨c1,c2,e,h1,h2⟩,i,x,hx=>by
  obtain⟨d1,d2,e1,e2,e3⟩:=h1
  have e2:d1=[.int .u8 (n8 y.1)]:=e2
  have e3:d2=[.int .u8 (n8 y.2)]:=e3
  subst e2;subst e3;subst e1;subst e
  cases i with
  |zero=>simp at hx; subst hx; exact⟨rfl,rfl⟩
  |succ i =>
   have:=MA h2 i x (by simpa using hx)
   rw[show 2*(i+1)=2*i+1+1 by omega]
   simpa using this
theorem bAU{K:Kn}{w:World}(hg:eV E K) (hk:KOk K w):Lib.Utf8Tabs 3 4 w:=by
 have cell:∀ {b o:Nat} {v:Value},K b o=some v→v.oneCell'=true→w.cell? ⟨b,o,none⟩=some v:=fun {b o v} h hv=>by
  obtain⟨cs,e,fz,h1,h2⟩:=hk b o v h;rw[jJ h1];exact h2.1 hv
 constructor
 ·obtain⟨cs,⟨_,r2⟩,r3,_⟩:=hg.1 3 _ _ (show lkG E.gl 3=some ⟨.arr 256 .u8,gl3⟩ from by kernel_rfl)
  have hcs:=oP r2
  intro c hc
  have ht:=bJC.1 aH6 c (List.mem_range.2 hc)
  simp only[bI4] at ht
  have ht1:=bHV ht.1
  have ht2:=bHV ht.2
  have hlt:c<gl3.length:=by rw[ht2]; exact hc
  refine cell (r3 c _ ?_) rfl;rw[hcs,bI0,bHN hlt]
  have:gl3.getD c 0=gl3[c]:=by simp[hlt]
  rw[this] at ht1;simp[ht1]
 ·obtain⟨cs,⟨_,r2⟩,r3,_⟩:=hg.1 4 _ _ (show lkG E.gl 4=some ⟨.arr 16 (.st (.pair .u8 .u8)),gl4⟩ from by kernel_rfl);intro c hc
  have ht:=bJC.1 aQC c (List.mem_range.2 hc)
  simp only[bI4] at ht
  have ht1:=bHV ht.1.1
  have ht2:=bHV ht.1.2
  have ht3:=bHV ht.2
  have hlt:c<gl4.length:=by rw[ht3]; exact hc
  obtain⟨q1,q2⟩:=MA r2 c _ (bHN hlt)
  have:gl4.getD c (0,0)=gl4[c]:=by simp[hlt]
  rw[this] at ht1 ht2;refine⟨cell (r3 _ _ (by rw[q1]; unfold n8; rw[ht1])) rfl,cell (r3 _ _ (by rw[q2]; unfold n8; rw[ht2])) rfl⟩
theorem khV(N:Nat):aG E ⟨193,[.k (.v .str [])],[.v .bool []],kB N⟩:=by
 intro x r h w K H γ args hEnt;obtain⟨hgd,h⟩:=aT (show grd (dQ (len x)) (some (Lib.validD x))=some r from h);injection h with h;subst h
 have hgd:(x.length:Int)≤9223372036854775807:=of_decide_eq_true hgd
 right
 have hs:args.size=1:=hEnt.size
 have s0:=(hEnt.slots 0 0 (.val (.one (.v .str x))) rfl).2
 have s0:args.getD 0 undef=.string (bst x):=by simpa [bE,cI,aL,bB] using s0
 have ha:args=#[.string (bst x)]:=by
  apply bKE
  ·simpa using hs
  ·intro i h1 h3;simp at h3;subst h3
   have:args.getD 0 undef=args[0]:=by simp[Array.getD,hs]
   rw[←this,s0];rfl
 subst ha
 have hsz:(bst x).size=x.length:=cM x
 refine⟨by
  unfold callFunc;simp only[program,bJ6,Sem.run,bIY,show E.P.funcs[193]?=some Tryz.f193 from by kernel_rfl];rfl,?_⟩
 have hT:=bAU hEnt.glob hEnt.hp.kok
 refine(Any.utf8_ValidString bAT (bst x) w (by rw[hsz]; omega) hT).mono fun e w' he=>?_
 obtain⟨rfl,hb⟩:=he;intro tk _;refine⟨γ,obs (W.start [.k (.v .str [])] x),K,[],[],?_,⟨rfl,rfl⟩,fun j=>by simp,fun i o ho=>?_,fun γ2 _=>rfl⟩
 ·have hn:∀j,obs (W.start [.k (.v .str [])] x) j=none:=fun j=>rfl
  refine⟨hb.os,hb.tape,hb.output,hb.size,fun b hlt _=>⟨hb.block b hlt,fun _=>rfl⟩,Kn.le.refl K,fun b o v hv=>?_,fun j o g hj=>(by rw[hn] at hj; cases hj),fun j o g hj=>(by rw[hn] at hj; cases hj),fun i j p q g g' hi=>(by rw[hn] at hi; cases hi)⟩;obtain⟨cs,ee,fz,h1,h2⟩:=hEnt.hp.kok b o v hv;exact⟨cs,ee,fz,by rw[hb.block b (bHF.1 h1).1]; exact h1,h2⟩
 ·have ho:([]:List Ob)[i]?=some o:=ho
  simp at ho
end Go.Mo
end

section
set_option linter.all false
namespace Go.Mo
open Go Go.W Go.Proofs Go.Shelf Go.RowKit
set_option maxRecDepth 100000
def bG1:Ren:=⟨fun n=>match n with | 143=>180 | 144=>201 | 217=>230 | 219=>232 | 224=>263 | 225=>262 | 266=>261 | 267=>264 | 314=>284|n=>n,fun n=>match n with | 46=>265 | 51=>274 | 146=>282 | 22=>226 | 23=>255 | 24=>216 | 25=>217 | 27=>223 | 28=>196 | 31=>92 | 32=>219 | 33=>157 | 37=>129 | 39=>218 | 40=>331 | 41=>249 | 42=>90 | 47=>277 | 48=>334 | 52=>291 | 53=>146 | 54=>245 | 55=>224 | 63=>293 | 64=>266 | 65=>242 | 66=>203 | 69=>52 | 70=>128 | 71=>130 | 72=>131 | 73=>268 | 74=>132 | 75=>133 | 76=>134 | 77=>135 | 78=>296 | 80=>137 | 81=>136 | 83=>243 | 84=>142 | 85=>280 | 86=>281 | 94=>403 | 103=>165 | 104=>59 | 105=>269 | 106=>270 | 108=>330 | 111=>276 | 114=>271 | 115=>285 | 116=>286 | 117=>287 | 118=>288 | 119=>261 | 122=>284 | 123=>289 | 124=>290 | 127=>204 | 128=>292 | 131=>126 | 136=>260 | 137=>262 | 138=>263 | 139=>264 | 143=>335 | 144=>336 | 145=>337 | 151=>283 | 164=>240 | 165=>241 | 166=>299 | 167=>302 | 168=>305 | 169=>306 | 170=>307 | 171=>244 | 172=>246 | 173=>247 | 174=>248 | 175=>303 | 176=>304 | 209=>328 | 210=>329 | 211=>272 | 212=>273 | 213=>275 | 214=>327 | 232=>300 | 233=>301 | 238=>378 | 239=>379 | 240=>380 | 241=>381 | 242=>382 | 243=>383 | 244=>384 | 245=>385 | 246=>386 | 247=>387 | 248=>388 | 249=>389|n=>n,fun n=>match n with | 1=>6 | 15=>9 | 16=>10 | 17=>5 | 18=>7 | 19=>8|n=>n⟩
theorem bAV:Lays.n144 Tryz.prog bG1:={ mixed:=by kernel_rfl,f143:=by kernel_rfl,f144:=by kernel_rfl,f217:=by kernel_rfl,f219:=by kernel_rfl,f224:=by kernel_rfl,f225:=by kernel_rfl,f266:=by kernel_rfl,f267:=by kernel_rfl,f314:=by kernel_rfl,t3:=by kernel_rfl,a3:=fun _=>by kernel_rfl,z3:=fun _=>by kernel_rfl,v3:=fun _=>by kernel_rfl,t4:=by kernel_rfl,a4:=fun _=>by kernel_rfl,z4:=fun _=>by kernel_rfl,v4:=fun _=>by kernel_rfl,t5:=by kernel_rfl,a5:=fun _=>by kernel_rfl,z5:=fun _=>by kernel_rfl,v5:=fun _=>by kernel_rfl,t9:=by kernel_rfl,a9:=fun _=>by kernel_rfl,z9:=fun _=>by kernel_rfl,v9:=fun _=>by kernel_rfl,t46:=by kernel_rfl,a46:=fun _=>by kernel_rfl,z46:=fun _=>by kernel_rfl,v46:=fun _=>by kernel_rfl,t51:=by kernel_rfl,a51:=fun _=>by kernel_rfl,z51:=fun _=>by kernel_rfl,v51:=fun _=>by kernel_rfl,t146:=by kernel_rfl,a146:=fun _=>by kernel_rfl,z146:=fun _=>by kernel_rfl,v146:=fun _=>by kernel_rfl,g1:=by kernel_rfl }
theorem aBC(N:Nat):aG E ⟨201,[.k (.v .str []),.k (.v .str [])],[.v .bool []],fR N⟩ :=
 aPZ (fn:=Tryz.f201) _ (show E.P.funcs[201]?=some Tryz.f201 from by kernel_rfl) (by kernel_rfl) (by kernel_rfl) fun x r h w K hG hk=>by
  obtain⟨hb,h⟩:=aT h;injection h with h;subst h
  have hb:x.1.length<4294967281:=of_decide_eq_true hb
  obtain⟨m,hm⟩:=hG.2.1 6 (by kernel_rfl);obtain⟨cs,e,fz,h1,h2⟩:=hk _ _ _ hm;exact Any.strings_Contains bAV (bst x.1) (bst x.2) m w (by rw[cM]; exact hb) (by
   show w.cell? ⟨6,0,none⟩=_;rw[jJ h1];exact h2.1 rfl)
def bG2:Ren:=⟨fun n=>match n with | 143=>180 | 217=>230 | 219=>232 | 224=>263 | 225=>262 | 266=>261 | 267=>264 | 314=>284|n=>n,fun n=>match n with | 46=>265 | 51=>274 | 146=>282 | 22=>226 | 23=>255 | 24=>216 | 25=>217 | 27=>223 | 28=>196 | 31=>92 | 32=>219 | 33=>157 | 37=>129 | 39=>218 | 40=>331 | 41=>249 | 42=>90 | 47=>277 | 48=>334 | 52=>291 | 53=>146 | 54=>245 | 55=>224 | 63=>293 | 64=>266 | 65=>242 | 66=>203 | 69=>52 | 70=>128 | 71=>130 | 72=>131 | 73=>268 | 74=>132 | 75=>133 | 76=>134 | 77=>135 | 78=>296 | 80=>137 | 81=>136 | 83=>243 | 84=>142 | 85=>280 | 86=>281 | 94=>403 | 103=>165 | 104=>59 | 105=>269 | 106=>270 | 108=>330 | 111=>276 | 114=>271 | 115=>285 | 116=>286 | 117=>287 | 118=>288 | 119=>261 | 122=>284 | 123=>289 | 124=>290 | 127=>204 | 128=>292 | 131=>126 | 136=>260 | 137=>262 | 138=>263 | 139=>264 | 143=>335 | 144=>336 | 145=>337 | 151=>283 | 164=>240 | 165=>241 | 166=>299 | 167=>302 | 168=>305 | 169=>306 | 170=>307 | 171=>244 | 172=>246 | 173=>247 | 174=>248 | 175=>303 | 176=>304 | 209=>328 | 210=>329 | 211=>272 | 212=>273 | 213=>275 | 214=>327 | 232=>300 | 233=>301 | 238=>378 | 239=>379 | 240=>380 | 241=>381 | 242=>382 | 243=>383 | 244=>384 | 245=>385 | 246=>386 | 247=>387 | 248=>388 | 249=>389|n=>n,fun n=>match n with | 1=>6 | 15=>9 | 16=>10 | 17=>5 | 18=>7 | 19=>8|n=>n⟩
theorem bAW:Lays.n143 Tryz.prog bG2:={ mixed:=by kernel_rfl,f143:=by kernel_rfl,f217:=by kernel_rfl,f219:=by kernel_rfl,f224:=by kernel_rfl,f225:=by kernel_rfl,f266:=by kernel_rfl,f267:=by kernel_rfl,f314:=by kernel_rfl,t3:=by kernel_rfl,a3:=fun _=>by kernel_rfl,z3:=fun _=>by kernel_rfl,v3:=fun _=>by kernel_rfl,t4:=by kernel_rfl,a4:=fun _=>by kernel_rfl,z4:=fun _=>by kernel_rfl,v4:=fun _=>by kernel_rfl,t5:=by kernel_rfl,a5:=fun _=>by kernel_rfl,z5:=fun _=>by kernel_rfl,v5:=fun _=>by kernel_rfl,t9:=by kernel_rfl,a9:=fun _=>by kernel_rfl,z9:=fun _=>by kernel_rfl,v9:=fun _=>by kernel_rfl,t46:=by kernel_rfl,a46:=fun _=>by kernel_rfl,z46:=fun _=>by kernel_rfl,v46:=fun _=>by kernel_rfl,t51:=by kernel_rfl,a51:=fun _=>by kernel_rfl,z51:=fun _=>by kernel_rfl,v51:=fun _=>by kernel_rfl,t146:=by kernel_rfl,a146:=fun _=>by kernel_rfl,z146:=fun _=>by kernel_rfl,v146:=fun _=>by kernel_rfl,g1:=by kernel_rfl }
theorem aQD(N:Nat):aG E ⟨180,[.k (.v .str []),.k (.v .str [])],[.v (.int .i64) []],iP N⟩ :=
 aP1 (fn:=Tryz.f180) _ (show E.P.funcs[180]?=some Tryz.f180 from by kernel_rfl) (by kernel_rfl) (by kernel_rfl) fun x r h w K hG hk=>by
  obtain⟨hb,h⟩:=aT h;injection h with h;subst h
  have hb:x.1.length<4294967281:=of_decide_eq_true hb
  obtain⟨m,hm⟩:=hG.2.1 6 (by kernel_rfl);obtain⟨cs,e,fz,h1,h2⟩:=hk _ _ _ hm;refine(Any.strings_Index bAW (bst x.1) (bst x.2) m w (by rw[cM]; exact hb) (by
   show w.cell? ⟨6,0,none⟩=_;rw[jJ h1];exact h2.1 rfl)).mono fun e w' he=>?_
  obtain⟨q1,q2⟩:=he;subst q2;exact⟨q1,rfl,rfl,rfl,bKC _,fun b _=>rfl⟩
def bAX:Ren:=⟨fun n=>match n with | 138=>176 | 143=>180 | 154=>207 | 165=>247 | 166=>79 | 169=>82 | 195=>226 | 197=>248 | 217=>230 | 218=>227 | 219=>232 | 224=>263 | 225=>262 | 240=>146 | 241=>277 | 260=>278 | 266=>261 | 267=>264 | 276=>206 | 277=>293 | 314=>284|n=>n,fun n=>match n with | 37=>129 | 46=>265 | 51=>274 | 70=>128 | 72=>131 | 75=>133 | 76=>134 | 80=>137 | 105=>269 | 119=>261 | 127=>204 | 138=>263 | 139=>264 | 146=>282 | 164=>240 | 22=>226 | 23=>255 | 24=>216 | 25=>217 | 27=>223 | 28=>196 | 31=>92 | 32=>219 | 33=>157 | 39=>218 | 40=>331 | 41=>249 | 42=>90 | 47=>277 | 48=>334 | 52=>291 | 53=>146 | 54=>245 | 55=>224 | 63=>293 | 64=>266 | 65=>242 | 66=>203 | 69=>52 | 71=>130 | 73=>268 | 74=>132 | 77=>135 | 78=>296 | 81=>136 | 83=>243 | 84=>142 | 85=>280 | 86=>281 | 94=>403 | 103=>165 | 104=>59 | 106=>270 | 108=>330 | 111=>276 | 114=>271 | 115=>285 | 116=>286 | 117=>287 | 118=>288 | 122=>284 | 123=>289 | 124=>290 | 128=>292 | 131=>126 | 136=>260 | 137=>262 | 143=>335 | 144=>336 | 145=>337 | 151=>283 | 165=>241 | 166=>299 | 167=>302 | 168=>305 | 169=>306 | 170=>307 | 171=>244 | 172=>246 | 173=>247 | 174=>248 | 175=>303 | 176=>304 | 209=>328 | 210=>329 | 211=>272 | 212=>273 | 213=>275 | 214=>327 | 232=>300 | 233=>301 | 238=>378 | 239=>379 | 240=>380 | 241=>381 | 242=>382 | 243=>383 | 244=>384 | 245=>385 | 246=>386 | 247=>387 | 248=>388 | 249=>389|n=>n,fun n=>match n with | 1=>6 | 15=>9 | 16=>10 | 17=>5 | 18=>7 | 19=>8|n=>n⟩
theorem C5:Lays.n154 Tryz.prog bAX:={ mixed:=by kernel_rfl,f138:=by kernel_rfl,f143:=by kernel_rfl,f154:=by kernel_rfl,f165:=by kernel_rfl,f166:=by kernel_rfl,f169:=by kernel_rfl,f195:=by kernel_rfl,f197:=by kernel_rfl,f217:=by kernel_rfl,f218:=by kernel_rfl,f219:=by kernel_rfl,f224:=by kernel_rfl,f225:=by kernel_rfl,f240:=by kernel_rfl,f241:=by kernel_rfl,f260:=by kernel_rfl,f266:=by kernel_rfl,f267:=by kernel_rfl,f276:=by kernel_rfl,f277:=by kernel_rfl,f314:=by kernel_rfl,t0:=by kernel_rfl,a0:=fun _=>by kernel_rfl,z0:=fun _=>by kernel_rfl,v0:=fun _=>by kernel_rfl,t3:=by kernel_rfl,a3:=fun _=>by kernel_rfl,z3:=fun _=>by kernel_rfl,v3:=fun _=>by kernel_rfl,t4:=by kernel_rfl,a4:=fun _=>by kernel_rfl,z4:=fun _=>by kernel_rfl,v4:=fun _=>by kernel_rfl,t5:=by kernel_rfl,a5:=fun _=>by kernel_rfl,z5:=fun _=>by kernel_rfl,v5:=fun _=>by kernel_rfl,t9:=by kernel_rfl,a9:=fun _=>by kernel_rfl,z9:=fun _=>by kernel_rfl,v9:=fun _=>by kernel_rfl,t20:=by kernel_rfl,a20:=fun _=>by kernel_rfl,z20:=fun _=>by kernel_rfl,v20:=fun _=>by kernel_rfl,t21:=by kernel_rfl,a21:=fun _=>by kernel_rfl,z21:=fun _=>by kernel_rfl,v21:=fun _=>by kernel_rfl,t37:=by kernel_rfl,a37:=fun _=>by kernel_rfl,z37:=fun _=>by kernel_rfl,v37:=fun _=>by kernel_rfl,t46:=by kernel_rfl,a46:=fun _=>by kernel_rfl,z46:=fun _=>by kernel_rfl,v46:=fun _=>by kernel_rfl,t51:=by kernel_rfl,a51:=fun _=>by kernel_rfl,z51:=fun _=>by kernel_rfl,v51:=fun _=>by kernel_rfl,t70:=by kernel_rfl,a70:=fun _=>by kernel_rfl,z70:=fun _=>by kernel_rfl,v70:=fun _=>by kernel_rfl,t72:=by kernel_rfl,a72:=fun _=>by kernel_rfl,z72:=fun _=>by kernel_rfl,v72:=fun _=>by kernel_rfl,t75:=by kernel_rfl,a75:=fun _=>by kernel_rfl,z75:=fun _=>by kernel_rfl,v75:=fun _=>by kernel_rfl,t76:=by kernel_rfl,a76:=fun _=>by kernel_rfl,z76:=fun _=>by kernel_rfl,v76:=fun _=>by kernel_rfl,t105:=by kernel_rfl,a105:=fun _=>by kernel_rfl,z105:=fun _=>by kernel_rfl,v105:=fun _=>by kernel_rfl,t119:=by kernel_rfl,a119:=fun _=>by kernel_rfl,z119:=fun _=>by kernel_rfl,t127:=by kernel_rfl,a127:=fun _=>by kernel_rfl,z127:=fun _=>by kernel_rfl,v127:=fun _=>by kernel_rfl,t138:=by kernel_rfl,a138:=fun _=>by kernel_rfl,z138:=fun _=>by kernel_rfl,v138:=fun _=>by kernel_rfl,t139:=by kernel_rfl,a139:=fun _=>by kernel_rfl,z139:=fun _=>by kernel_rfl,v139:=fun _=>by kernel_rfl,t146:=by kernel_rfl,a146:=fun _=>by kernel_rfl,z146:=fun _=>by kernel_rfl,v146:=fun _=>by kernel_rfl,t164:=by kernel_rfl,a164:=fun _=>by kernel_rfl,z164:=fun _=>by kernel_rfl,v164:=fun _=>by kernel_rfl,g1:=by kernel_rfl,g3:=by kernel_rfl,g4:=by kernel_rfl }
theorem aT6:Builder.Extra Tryz.prog bAX where
 sizeBuilder:=by kernel_rfl
 liesBuilder:=by kernel_rfl
 t5:=C5.t5
 a5:=C5.a5
 z5:=C5.z5
 v5:=C5.v5
 infoByte:=by kernel_rfl
 cellsByte:=by kernel_rfl
 sizeByte:=by kernel_rfl
 neB5:=by decide
theorem aH7(N:Nat):aG E ⟨207,[.k (.v .str []),.k (.v .str []),.k (.v .str []),.k (.v (.int .i64) [])],[.v .str []],lB N⟩ :=
 aLH (fn:=Tryz.f207) _ (show E.P.funcs[207]?=some Tryz.f207 from by kernel_rfl) (by kernel_rfl) (by kernel_rfl) fun x r h w K hG hk=>by
  obtain⟨hb,h⟩:=aT h;obtain⟨hc,h⟩:=aT h;obtain⟨hd,h⟩:=aT h;injection h with h;subst h
  have hb:x.1.length<4294967281:=of_decide_eq_true hb
  have hc:1≤x.2.1.length:=of_decide_eq_true hc
  have hd:x.1.length+Lib.count x.1 x.2.1*x.2.2.1.length≤140737488355328:=of_decide_eq_true hd
  obtain⟨m,hm⟩:=hG.2.1 6 (by kernel_rfl);obtain⟨cs,e,fz,h1,h2⟩:=hk _ _ _ hm;refine(Any.strings_Replace C5 aT6 (bst x.1) (bst x.2.1) (bst x.2.2.1) x.2.2.2 m w (by rw[cM]; exact hb) (by
   show w.cell? ⟨6,0,none⟩=_;rw[jJ h1];exact h2.1 rfl) (by rw[cM]; exact hc) (by rw[cM,cM]; exact hd)).mono fun e w' he=>?_
  obtain⟨q1,q2⟩:=he;exact⟨q1,q2.os,q2.tape,q2.output,q2.size,q2.block⟩
def bG3:Ren:=⟨fun n=>match n with | 119=>311 | 120=>300 | 137=>178 | 151=>286 | 152=>299 | 160=>235 | 197=>248 | 217=>230 | 224=>263 | 225=>262 | 227=>267 | 228=>285 | 231=>265 | 232=>266 | 233=>268 | 234=>269 | 235=>270 | 236=>271 | 260=>278 | 266=>261 | 271=>287|n=>n,fun n=>match n with | 46=>265 | 105=>269 | 116=>286 | 117=>287 | 119=>261 | 124=>290 | 138=>263 | 139=>264 | 22=>226 | 23=>255 | 24=>216 | 25=>217 | 27=>223 | 28=>196 | 31=>92 | 32=>219 | 33=>157 | 37=>129 | 39=>218 | 40=>331 | 41=>249 | 42=>90 | 47=>277 | 48=>334 | 51=>274 | 52=>291 | 53=>146 | 54=>245 | 55=>224 | 63=>293 | 64=>266 | 65=>242 | 66=>203 | 69=>52 | 70=>128 | 71=>130 | 72=>131 | 73=>268 | 74=>132 | 75=>133 | 76=>134 | 77=>135 | 78=>296 | 80=>137 | 81=>136 | 83=>243 | 84=>142 | 85=>280 | 86=>281 | 94=>403 | 103=>165 | 104=>59 | 106=>270 | 108=>330 | 111=>276 | 114=>271 | 115=>285 | 118=>288 | 122=>284 | 123=>289 | 127=>204 | 128=>292 | 131=>126 | 136=>260 | 137=>262 | 143=>335 | 144=>336 | 145=>337 | 146=>282 | 151=>283 | 164=>240 | 165=>241 | 166=>299 | 167=>302 | 168=>305 | 169=>306 | 170=>307 | 171=>244 | 172=>246 | 173=>247 | 174=>248 | 175=>303 | 176=>304 | 209=>328 | 210=>329 | 211=>272 | 212=>273 | 213=>275 | 214=>327 | 232=>300 | 233=>301 | 238=>378 | 239=>379 | 240=>380 | 241=>381 | 242=>382 | 243=>383 | 244=>384 | 245=>385 | 246=>386 | 247=>387 | 248=>388 | 249=>389|n=>n,fun n=>match n with | 1=>6 | 15=>9 | 16=>10 | 17=>5 | 18=>7 | 19=>8|n=>n⟩
theorem bAY:Lays.n160 Tryz.prog bG3:={ mixed:=by kernel_rfl,f119:=by kernel_rfl,f120:=by kernel_rfl,f137:=by kernel_rfl,f151:=by kernel_rfl,f152:=by kernel_rfl,f160:=by kernel_rfl,f197:=by kernel_rfl,f217:=by kernel_rfl,f224:=by kernel_rfl,f225:=by kernel_rfl,f227:=by kernel_rfl,f228:=by kernel_rfl,f231:=by kernel_rfl,f232:=by kernel_rfl,f233:=by kernel_rfl,f234:=by kernel_rfl,f235:=by kernel_rfl,f236:=by kernel_rfl,f260:=by kernel_rfl,f266:=by kernel_rfl,f271:=by kernel_rfl,t0:=by kernel_rfl,a0:=fun _=>by kernel_rfl,z0:=fun _=>by kernel_rfl,v0:=fun _=>by kernel_rfl,t3:=by kernel_rfl,a3:=fun _=>by kernel_rfl,z3:=fun _=>by kernel_rfl,v3:=fun _=>by kernel_rfl,t4:=by kernel_rfl,a4:=fun _=>by kernel_rfl,z4:=fun _=>by kernel_rfl,v4:=fun _=>by kernel_rfl,t5:=by kernel_rfl,a5:=fun _=>by kernel_rfl,z5:=fun _=>by kernel_rfl,v5:=fun _=>by kernel_rfl,t9:=by kernel_rfl,a9:=fun _=>by kernel_rfl,z9:=fun _=>by kernel_rfl,v9:=fun _=>by kernel_rfl,t21:=by kernel_rfl,a21:=fun _=>by kernel_rfl,z21:=fun _=>by kernel_rfl,v21:=fun _=>by kernel_rfl,t46:=by kernel_rfl,a46:=fun _=>by kernel_rfl,z46:=fun _=>by kernel_rfl,v46:=fun _=>by kernel_rfl,t105:=by kernel_rfl,a105:=fun _=>by kernel_rfl,z105:=fun _=>by kernel_rfl,v105:=fun _=>by kernel_rfl,t116:=by kernel_rfl,a116:=fun _=>by kernel_rfl,z116:=fun _=>by kernel_rfl,t117:=by kernel_rfl,a117:=fun _=>by kernel_rfl,z117:=fun _=>by kernel_rfl,v117:=fun _=>by kernel_rfl,t119:=by kernel_rfl,a119:=fun _=>by kernel_rfl,z119:=fun _=>by kernel_rfl,t124:=by kernel_rfl,a124:=fun _=>by kernel_rfl,z124:=fun _=>by kernel_rfl,v124:=fun _=>by kernel_rfl,t138:=by kernel_rfl,a138:=fun _=>by kernel_rfl,z138:=fun _=>by kernel_rfl,v138:=fun _=>by kernel_rfl,t139:=by kernel_rfl,a139:=fun _=>by kernel_rfl,z139:=fun _=>by kernel_rfl,v139:=fun _=>by kernel_rfl,g3:=by kernel_rfl,g4:=by kernel_rfl }
theorem aT7(N:Nat):aG E ⟨235,[.k (.v .str []),.k (.v .str [])],[.v .str []],jO N⟩ :=
 aP2 (fn:=Tryz.f235) _ (show E.P.funcs[235]?=some Tryz.f235 from by kernel_rfl) (by kernel_rfl) (by kernel_rfl) fun x r h w K hG hk=>by
  obtain⟨hb,h⟩:=aT h;obtain⟨hc,h⟩:=aT h;obtain⟨hd,h⟩:=aT h;injection h with h;subst h
  have hb:x.1.length<4294967281:=of_decide_eq_true hb
  have hc:x.2.length<4294967281:=of_decide_eq_true hc
  refine(Any.strings_Trim_laid bAY (by kernel_rfl) (bst x.1) (bst x.2) w (by rw[cM]; omega) (by rw[cM]; exact hc) (LX hd)).mono fun e w' he=>?_
  obtain⟨q1,q2⟩:=he;exact⟨q1,q2.os,q2.tape,q2.output,q2.size,q2.block⟩
theorem aT8(N:Nat):aG E ⟨273,[.k (.v .str [])],[.v .str []],oR N⟩ :=
 aTU (fn:=Tryz.f273) _ (show E.P.funcs[273]?=some Tryz.f273 from by kernel_rfl) (by kernel_rfl) (by kernel_rfl) fun x r h w K hG hk=>by
  obtain⟨hb,h⟩:=aT h;injection h with h;subst h
  have hb:x.length<4294967281:=of_decide_eq_true hb
  refine(aLX (bst x) w (by rw[cM]; omega)).mono fun e w' he=>?_
  obtain⟨q1,q2⟩:=he;exact⟨q1,q2.os,q2.tape,q2.output,q2.size,q2.block⟩
def bG4:Ren:=⟨fun n=>match n with | 129=>250 | 246=>148 | 283=>208 | 284=>209 | 285=>210 | 286=>211 | 317=>249 | 318=>251 | 319=>252 | 320=>253 | 337=>279 | 338=>280|n=>n,fun n=>match n with | 37=>129 | 46=>265 | 51=>274 | 53=>146 | 171=>244 | 173=>247 | 212=>273 | 213=>275 | 232=>300 | 233=>301 | 22=>226 | 23=>255 | 24=>216 | 25=>217 | 27=>223 | 28=>196 | 31=>92 | 32=>219 | 33=>157 | 39=>218 | 40=>331 | 41=>249 | 42=>90 | 47=>277 | 48=>334 | 52=>291 | 54=>245 | 55=>224 | 63=>293 | 64=>266 | 65=>242 | 66=>203 | 69=>52 | 70=>128 | 71=>130 | 72=>131 | 73=>268 | 74=>132 | 75=>133 | 76=>134 | 77=>135 | 78=>296 | 80=>137 | 81=>136 | 83=>243 | 84=>142 | 85=>280 | 86=>281 | 94=>403 | 103=>165 | 104=>59 | 105=>269 | 106=>270 | 108=>330 | 111=>276 | 114=>271 | 115=>285 | 116=>286 | 117=>287 | 118=>288 | 119=>261 | 122=>284 | 123=>289 | 124=>290 | 127=>204 | 128=>292 | 131=>126 | 136=>260 | 137=>262 | 138=>263 | 139=>264 | 143=>335 | 144=>336 | 145=>337 | 146=>282 | 151=>283 | 164=>240 | 165=>241 | 166=>299 | 167=>302 | 168=>305 | 169=>306 | 170=>307 | 172=>246 | 174=>248 | 175=>303 | 176=>304 | 209=>328 | 210=>329 | 211=>272 | 214=>327 | 238=>378 | 239=>379 | 240=>380 | 241=>381 | 242=>382 | 243=>383 | 244=>384 | 245=>385 | 246=>386 | 247=>387 | 248=>388 | 249=>389|n=>n,fun n=>match n with | 17=>5 | 18=>7 | 19=>8 | 1=>6 | 15=>9 | 16=>10|n=>n⟩
theorem bAZ:LaysM.n246 Tryz.prog bG4:={ mixed:=by kernel_rfl,f129:=by kernel_rfl,f246:=by kernel_rfl,f283:=by kernel_rfl,f284:=by kernel_rfl,f285:=by kernel_rfl,f286:=by kernel_rfl,f317:=by kernel_rfl,f318:=by kernel_rfl,f319:=by kernel_rfl,f320:=by kernel_rfl,f337:=by kernel_rfl,f338:=by kernel_rfl,t0:=by kernel_rfl,a0:=fun _=>by kernel_rfl,z0:=fun _=>by kernel_rfl,v0:=fun _=>by kernel_rfl,t2:=by kernel_rfl,a2:=fun _=>by kernel_rfl,z2:=fun _=>by kernel_rfl,v2:=fun _=>by kernel_rfl,t3:=by kernel_rfl,a3:=fun _=>by kernel_rfl,z3:=fun _=>by kernel_rfl,v3:=fun _=>by kernel_rfl,t4:=by kernel_rfl,a4:=fun _=>by kernel_rfl,z4:=fun _=>by kernel_rfl,v4:=fun _=>by kernel_rfl,t5:=by kernel_rfl,a5:=fun _=>by kernel_rfl,z5:=fun _=>by kernel_rfl,v5:=fun _=>by kernel_rfl,t9:=by kernel_rfl,a9:=fun _=>by kernel_rfl,z9:=fun _=>by kernel_rfl,v9:=fun _=>by kernel_rfl,t20:=by kernel_rfl,a20:=fun _=>by kernel_rfl,z20:=fun _=>by kernel_rfl,v20:=fun _=>by kernel_rfl,t37:=by kernel_rfl,a37:=fun _=>by kernel_rfl,z37:=fun _=>by kernel_rfl,v37:=fun _=>by kernel_rfl,t46:=by kernel_rfl,a46:=fun _=>by kernel_rfl,z46:=fun _=>by kernel_rfl,v46:=fun _=>by kernel_rfl,t51:=by kernel_rfl,a51:=fun _=>by kernel_rfl,z51:=fun _=>by kernel_rfl,v51:=fun _=>by kernel_rfl,t53:=by kernel_rfl,a53:=fun _=>by kernel_rfl,z53:=fun _=>by kernel_rfl,v53:=fun _=>by kernel_rfl,t171:=by kernel_rfl,a171:=fun _=>by kernel_rfl,z171:=fun _=>by kernel_rfl,v171:=fun _=>by kernel_rfl,t173:=by kernel_rfl,a173:=fun _=>by kernel_rfl,z173:=fun _=>by kernel_rfl,v173:=fun _=>by kernel_rfl,t212:=by kernel_rfl,a212:=fun _=>by kernel_rfl,z212:=fun _=>by kernel_rfl,v212:=fun _=>by kernel_rfl,t213:=by kernel_rfl,a213:=fun _=>by kernel_rfl,z213:=fun _=>by kernel_rfl,t232:=by kernel_rfl,a232:=fun _=>by kernel_rfl,z232:=fun _=>by kernel_rfl,v232:=fun _=>by kernel_rfl,t233:=by kernel_rfl,a233:=fun _=>by kernel_rfl,z233:=fun _=>by kernel_rfl,v233:=fun _=>by kernel_rfl,g17:=by kernel_rfl,g18:=by kernel_rfl,g19:=by kernel_rfl,i0:=by kernel_rfl,i2:=by kernel_rfl,i3:=by kernel_rfl,i4:=by kernel_rfl,i5:=by kernel_rfl,i9:=by kernel_rfl,i20:=by kernel_rfl,i37:=by kernel_rfl,i46:=by kernel_rfl,i51:=by kernel_rfl,i53:=by kernel_rfl,i171:=by kernel_rfl,i173:=by kernel_rfl,i212:=by kernel_rfl,i232:=by kernel_rfl,i233:=by kernel_rfl,m17:=by kernel_rfl,m18:=by kernel_rfl,m19:=by kernel_rfl }
theorem C6(N:Nat):aG E ⟨148,[.k (.v (.int .i64) []),.k (.v (.int .i64) [])],[.v .str []],iW N⟩ :=
 aP0 (fn:=Tryz.f148) _ (show E.P.funcs[148]?=some Tryz.f148 from by kernel_rfl) (by kernel_rfl) (by kernel_rfl) fun x r h w K hG hk=>by
  obtain⟨h1,h⟩:=aT (show grd (ieq x.2 10) _=some r from h);obtain⟨h2,h⟩:=aT h;obtain⟨h3,h⟩:=aT h;injection h with h;subst h
  have e1:x.2=10:=by unfold ieq at h1; simpa using h1
  have h2:-9223372036854775808≤x.1:=of_decide_eq_true h2
  have h3:x.1≤9223372036854775807:=of_decide_eq_true h3
  obtain⟨cs,r2,r3,r4⟩:=hG.1 5 _ _ (show lkG E.gl 5=some ⟨.arr 20 (.int .u64),gl5⟩ from by kernel_rfl)
  have htab:Lib.TabIs E.P w "internal/strconv.uint64pow10" .u64 Lib.pow10Tab:=by
   have:=aTV (P:=E.P) (name:= "internal/strconv.uint64pow10") hk r2 r3 r4 (by kernel_rfl)
   rwa [show(gl5:List Int)=Lib.pow10Tab by kernel_rfl] at this
  rw[e1];refine(Any.internal_strconv_FormatInt_10 bAZ x.1 h2 h3 w htab).mono fun e w' he=>?_
  obtain⟨q1,k,os,q2⟩:=he;subst q2;exact⟨by rw[q1,aGX h2 h3]; rfl,rfl,rfl,rfl,Lib.size_grow w k os,fun b hb=>Lib.heap_grow_old w k os b hb⟩
def bA0:Ren:=⟨fun n=>match n with | 129=>250 | 171=>310 | 174=>256 | 205=>309 | 243=>316 | 245=>283 | 246=>148 | 247=>282 | 279=>295 | 280=>296 | 281=>297 | 282=>298 | 283=>208 | 284=>209 | 285=>210 | 286=>211 | 287=>294 | 316=>308 | 317=>249 | 318=>251 | 319=>252 | 320=>253 | 321=>306 | 322=>307 | 337=>279 | 338=>280|n=>n,fun n=>match n with | 37=>129 | 46=>265 | 51=>274 | 53=>146 | 75=>133 | 80=>137 | 85=>280 | 127=>204 | 143=>335 | 145=>337 | 167=>302 | 168=>305 | 171=>244 | 173=>247 | 175=>303 | 210=>329 | 212=>273 | 213=>275 | 232=>300 | 233=>301 | 22=>226 | 23=>255 | 24=>216 | 25=>217 | 27=>223 | 28=>196 | 31=>92 | 32=>219 | 33=>157 | 39=>218 | 40=>331 | 41=>249 | 42=>90 | 47=>277 | 48=>334 | 52=>291 | 54=>245 | 55=>224 | 63=>293 | 64=>266 | 65=>242 | 66=>203 | 69=>52 | 70=>128 | 71=>130 | 72=>131 | 73=>268 | 74=>132 | 76=>134 | 77=>135 | 78=>296 | 81=>136 | 83=>243 | 84=>142 | 86=>281 | 94=>403 | 103=>165 | 104=>59 | 105=>269 | 106=>270 | 108=>330 | 111=>276 | 114=>271 | 115=>285 | 116=>286 | 117=>287 | 118=>288 | 119=>261 | 122=>284 | 123=>289 | 124=>290 | 128=>292 | 131=>126 | 136=>260 | 137=>262 | 138=>263 | 139=>264 | 144=>336 | 146=>282 | 151=>283 | 164=>240 | 165=>241 | 166=>299 | 169=>306 | 170=>307 | 172=>246 | 174=>248 | 176=>304 | 209=>328 | 211=>272 | 214=>327 | 238=>378 | 239=>379 | 240=>380 | 241=>381 | 242=>382 | 243=>383 | 244=>384 | 245=>385 | 246=>386 | 247=>387 | 248=>388 | 249=>389|n=>n,fun n=>match n with | 15=>9 | 16=>10 | 17=>5 | 18=>7 | 19=>8 | 1=>6|n=>n⟩
theorem aMA:LaysC.n174 Tryz.prog bA0:={ mixed:=by kernel_rfl,f129:=by kernel_rfl,f171:=by kernel_rfl,f174:=by kernel_rfl,f205:=by kernel_rfl,f243:=by kernel_rfl,f245:=by kernel_rfl,f246:=by kernel_rfl,f247:=by kernel_rfl,f279:=by kernel_rfl,f280:=by kernel_rfl,f281:=by kernel_rfl,f282:=by kernel_rfl,f283:=by kernel_rfl,f284:=by kernel_rfl,f285:=by kernel_rfl,f286:=by kernel_rfl,f287:=by kernel_rfl,f316:=by kernel_rfl,f317:=by kernel_rfl,f318:=by kernel_rfl,f319:=by kernel_rfl,f320:=by kernel_rfl,f321:=by kernel_rfl,f322:=by kernel_rfl,f337:=by kernel_rfl,f338:=by kernel_rfl,t0:=by kernel_rfl,a0:=fun _=>by kernel_rfl,z0:=fun _=>by kernel_rfl,v0:=fun _=>by kernel_rfl,t2:=by kernel_rfl,a2:=fun _=>by kernel_rfl,z2:=fun _=>by kernel_rfl,v2:=fun _=>by kernel_rfl,t3:=by kernel_rfl,a3:=fun _=>by kernel_rfl,z3:=fun _=>by kernel_rfl,v3:=fun _=>by kernel_rfl,t4:=by kernel_rfl,a4:=fun _=>by kernel_rfl,z4:=fun _=>by kernel_rfl,v4:=fun _=>by kernel_rfl,t5:=by kernel_rfl,a5:=fun _=>by kernel_rfl,z5:=fun _=>by kernel_rfl,v5:=fun _=>by kernel_rfl,t9:=by kernel_rfl,a9:=fun _=>by kernel_rfl,z9:=fun _=>by kernel_rfl,v9:=fun _=>by kernel_rfl,t20:=by kernel_rfl,a20:=fun _=>by kernel_rfl,z20:=fun _=>by kernel_rfl,v20:=fun _=>by kernel_rfl,t21:=by kernel_rfl,a21:=fun _=>by kernel_rfl,z21:=fun _=>by kernel_rfl,v21:=fun _=>by kernel_rfl,t37:=by kernel_rfl,a37:=fun _=>by kernel_rfl,z37:=fun _=>by kernel_rfl,v37:=fun _=>by kernel_rfl,t46:=by kernel_rfl,a46:=fun _=>by kernel_rfl,z46:=fun _=>by kernel_rfl,v46:=fun _=>by kernel_rfl,t51:=by kernel_rfl,a51:=fun _=>by kernel_rfl,z51:=fun _=>by kernel_rfl,v51:=fun _=>by kernel_rfl,t53:=by kernel_rfl,a53:=fun _=>by kernel_rfl,z53:=fun _=>by kernel_rfl,v53:=fun _=>by kernel_rfl,t75:=by kernel_rfl,a75:=fun _=>by kernel_rfl,z75:=fun _=>by kernel_rfl,v75:=fun _=>by kernel_rfl,t85:=by kernel_rfl,a85:=fun _=>by kernel_rfl,z85:=fun _=>by kernel_rfl,v85:=fun _=>by kernel_rfl,t127:=by kernel_rfl,a127:=fun _=>by kernel_rfl,z127:=fun _=>by kernel_rfl,v127:=fun _=>by kernel_rfl,t143:=by kernel_rfl,a143:=fun _=>by kernel_rfl,z143:=fun _=>by kernel_rfl,v143:=fun _=>by kernel_rfl,t145:=by kernel_rfl,a145:=fun _=>by kernel_rfl,z145:=fun _=>by kernel_rfl,v145:=fun _=>by kernel_rfl,t167:=by kernel_rfl,a167:=fun _=>by kernel_rfl,z167:=fun _=>by kernel_rfl,v167:=fun _=>by kernel_rfl,t168:=by kernel_rfl,a168:=fun _=>by kernel_rfl,z168:=fun _=>by kernel_rfl,v168:=fun _=>by kernel_rfl,t171:=by kernel_rfl,a171:=fun _=>by kernel_rfl,z171:=fun _=>by kernel_rfl,v171:=fun _=>by kernel_rfl,t173:=by kernel_rfl,a173:=fun _=>by kernel_rfl,z173:=fun _=>by kernel_rfl,v173:=fun _=>by kernel_rfl,t175:=by kernel_rfl,a175:=fun _=>by kernel_rfl,z175:=fun _=>by kernel_rfl,v175:=fun _=>by kernel_rfl,t210:=by kernel_rfl,a210:=fun _=>by kernel_rfl,z210:=fun _=>by kernel_rfl,v210:=fun _=>by kernel_rfl,t212:=by kernel_rfl,a212:=fun _=>by kernel_rfl,z212:=fun _=>by kernel_rfl,v212:=fun _=>by kernel_rfl,t213:=by kernel_rfl,a213:=fun _=>by kernel_rfl,z213:=fun _=>by kernel_rfl,t232:=by kernel_rfl,a232:=fun _=>by kernel_rfl,z232:=fun _=>by kernel_rfl,v232:=fun _=>by kernel_rfl,t233:=by kernel_rfl,a233:=fun _=>by kernel_rfl,z233:=fun _=>by kernel_rfl,v233:=fun _=>by kernel_rfl,g15:=by kernel_rfl,g16:=by kernel_rfl,g17:=by kernel_rfl,g18:=by kernel_rfl,g19:=by kernel_rfl,t80:=by kernel_rfl,a80:=fun _=>by kernel_rfl,z80:=fun _=>by kernel_rfl,v80:=fun _=>by kernel_rfl,i0:=by kernel_rfl,i2:=by kernel_rfl,i3:=by kernel_rfl,i4:=by kernel_rfl,i5:=by kernel_rfl,i9:=by kernel_rfl,i20:=by kernel_rfl,i21:=by kernel_rfl,i37:=by kernel_rfl,i46:=by kernel_rfl,i51:=by kernel_rfl,i53:=by kernel_rfl,i75:=by kernel_rfl,i80:=by kernel_rfl,i85:=by kernel_rfl,i127:=by kernel_rfl,i143:=by kernel_rfl,i145:=by kernel_rfl,i167:=by kernel_rfl,i168:=by kernel_rfl,i171:=by kernel_rfl,i173:=by kernel_rfl,i175:=by kernel_rfl,i210:=by kernel_rfl,i212:=by kernel_rfl,i232:=by kernel_rfl,i233:=by kernel_rfl,m15:=by kernel_rfl,m16:=by kernel_rfl,m17:=by kernel_rfl,m18:=by kernel_rfl,m19:=by kernel_rfl,c0:=by kernel_rfl,c2:=by kernel_rfl,c3:=by kernel_rfl,c4:=by kernel_rfl,c5:=by kernel_rfl,c9:=by kernel_rfl,c20:=by kernel_rfl,c21:=by kernel_rfl,c37:=by kernel_rfl,c46:=by kernel_rfl,c51:=by kernel_rfl,c53:=by kernel_rfl,c75:=by kernel_rfl,c80:=by kernel_rfl,c85:=by kernel_rfl,c127:=by kernel_rfl,c143:=by kernel_rfl,c145:=by kernel_rfl,c167:=by kernel_rfl,c168:=by kernel_rfl,c171:=by kernel_rfl,c173:=by kernel_rfl,c175:=by kernel_rfl,c210:=by kernel_rfl,c212:=by kernel_rfl,c213:=by kernel_rfl,c232:=by kernel_rfl,c233:=by kernel_rfl }
theorem aBD(N:Nat):aG E ⟨256,[.k (.v .str []),.k (.v (.int .i64) []),.k (.v (.int .i64) [])],[.v (.int .i64) [],.v .nif []],kC N⟩ :=
 aTT (fn:=Tryz.f256) _ (show E.P.funcs[256]?=some Tryz.f256 from by kernel_rfl) (by kernel_rfl) (by kernel_rfl) fun x r h w K hG hk=>by
  obtain⟨h1,h⟩:=aT (show grd (ieq x.2.1 10) _=some r from h);obtain⟨h2,h⟩:=aT h;obtain⟨h3,h⟩:=aT h;injection h with h;subst h
  have e1:x.2.1=10:=by unfold ieq at h1; simpa using h1
  have e2:x.2.2=64:=by unfold ieq at h2; simpa using h2
  have h3:x.1.length≤281474976710656:=of_decide_eq_true h3
  have hsz:(bst x.1).size≤281474976710656:=by rw[cM]; exact h3
  have hdl:(bst x.1).data.toList=x.1:=by simp[bst]
  have err:∀g,mW g E.ie=true→∃v,w.cell? ⟨g,0,none⟩=some v∧(v=.nilIface∨∃u y,v=.iface u y):=fun g hg=>by
   obtain⟨v,hv,hi⟩:=hG.2.2 g hg;obtain⟨cs,e,fz,q1,q2⟩:=hk _ _ _ hv;refine⟨v,?_,hi⟩;rw[jJ q1];exact q2.1 (by rcases hi with rfl|⟨u,y,rfl⟩<;>rfl)
  rw[e1,e2];unfold DE;rcases hv:Lib.parseIntB 64 x.1 with v|_|_
  ·refine(Any.strconv_ParseInt_10_at64_ok aMA (bst x.1) (by omega) v (by rw[hdl]; exact hv) w).mono fun e w' he=>?_
   obtain⟨q1,q2⟩:=he;refine⟨.nilIface,q1,fun _=>rfl,fun h=>(by cases h),?_⟩;rcases q2 with rfl|⟨t,rfl⟩
   ·exact⟨rfl,rfl,rfl,bKC _,fun _ _=>rfl⟩
   ·have:=Lib.bytesWorld_below w (bA0.t 5) t
    exact⟨this.os,this.tape,this.output,this.size,this.block⟩
  ·obtain⟨v,c1,c2⟩:=err 9 (by kernel_rfl);refine(Any.strconv_ParseInt_10_at64_syntax aMA (bst x.1) hsz (by rw[hdl]; exact hv) v w c1 c2).mono fun e w' he=>?_
   obtain⟨M,q1,_,_,q2⟩:=he;exact⟨_,q1,fun h=>(by cases h),fun _=>⟨_,_,rfl⟩,q2.os,q2.tape,q2.output,q2.size,q2.block⟩
  ·obtain⟨v,c1,c2⟩:=err 10 (by kernel_rfl);refine(Any.strconv_ParseInt_10_at64_range aMA (bst x.1) hsz (by rw[hdl]; exact hv) v w c1 c2).mono fun e w' he=>?_
   obtain⟨M,q1,_,_,q2⟩:=he;rw[hdl] at q1;exact⟨_,q1,fun h=>(by cases h),fun _=>⟨_,_,rfl⟩,q2.os,q2.tape,q2.output,q2.size,q2.block⟩
end Go.Mo
end

section
namespace Go.Mo
open Go Go.W Go.Proofs
set_option maxRecDepth 100000
theorem bA1:aTE E.P 293:=bAO (show E.P.funcs[293]?=some Tryz.f293 from by kernel_rfl) (by kernel_rfl) (by kernel_rfl) (by kernel_rfl) (show Extern.find Tryz.f293=some (Extern.BytealgMakeNoZero.makeNoZero #[3] #[129]) from by kernel_rfl) (by kernel_rfl)
theorem aJ:EnvOk E:=⟨chk,mixed,fun z h=>(by injection h with h; subst h; exact bA1),fun z t h=>(by injection h with h; injection h with h1 h2; subst h1; subst h2; exact bAS)⟩
theorem kK:EnvOk (E.wop ops):=⟨aGB,mixed,fun z h=>(by injection h with h; subst h; exact bA1),fun z t h=>(by injection h with h; injection h with h1 h2; subst h1; subst h2; exact bAS)⟩
theorem vA(N:Nat):aG E ⟨193,hP,hY,utf8_ValidString N⟩:=khV N
theorem lU(N:Nat):aG E ⟨146,cO,cP,bQ N⟩:=W.OS (show aTS E.P 146 131 from bGZ) N
theorem vB(N:Nat):aG E ⟨201,eE,eF,strings_Contains N⟩:=aBC N
theorem rE(N:Nat):aG E ⟨148,fS,fT,eW N⟩:=C6 N
theorem wU(N:Nat):aG E ⟨207,iQ,iR,strings_Replace N⟩:=aH7 N
theorem qP(N:Nat):aG E ⟨227,eX,eY,eG N⟩:=W.HM (show E.P.funcs[227]?=some Tryz.f227 from by kernel_rfl) (by kernel_rfl) (by kernel_rfl) (by kernel_rfl) (show Extern.find Tryz.f227=some Extern.BytealgCount.count from by kernel_rfl) N
theorem BM(N:Nat):aG E ⟨180,gX,gY,strings_Index N⟩:=aQD N
theorem nN(N:Nat):aG E ⟨261,dM,dN,dF N⟩:=W.wD (show E.P.funcs[261]?=some Tryz.f261 from by kernel_rfl) (by kernel_rfl) (by kernel_rfl) (by kernel_rfl) (show Extern.find Tryz.f261=some Extern.BytealgIndexByte.indexByte from by kernel_rfl) N
theorem DH(N:Nat):aG E ⟨235,lS,lT,gZ N⟩:=aT7 N
theorem C7(N:Nat):aG E ⟨273,sK,sL,sM N⟩:=aT8 N
theorem vC(N:Nat):aG E ⟨256,hZ,iA,dD N⟩:=aBD N
end Go.Mo
end

section
namespace Go.Mo
open Go Go.W Go.Proofs
noncomputable section
set_option maxRecDepth 100000
def bA2:Ann:=(.sq .lf (.sq .lf (.jn ⟨[],[],[],[]⟩ (.sq .lf (.lp ⟨[1,9],[],[.s 5,.o 5],[.v (.int .i64) [],.i]⟩ .lf)) .lf)))
theorem bA3(N:Nat):aK E [] N Tryz.f243 bA2 N1 N2=q11 N:=by kernel_rfl
theorem bA4(N:Nat):aK E [⟨243,N1,N2,q11 N⟩] N Tryz.f194 .lf OV OW=q12 N:=by kernel_rfl
def bA5:Ann:=(.sq .lf (.sq .lf (.jn ⟨[],[],[],[]⟩ (.sq .lf (.lp ⟨[9],[],[.o 7],[.i]⟩ .lf)) .lf)))
theorem bA6(N:Nat):aK E [⟨193,hP,hY,utf8_ValidString N⟩,⟨194,OV,OW,q12 N⟩] N Tryz.f134 bA5 qD qE=q13 N:=by kernel_rfl
def bA7:Ann:=(.sq .lf (.sq .lf (.jn ⟨[],[],[],[]⟩ (.sq .lf (.lp ⟨[0,24],[],[.s 25],[.v (.int .i64) []]⟩ (.sq .lf (.sq .lf (.jn ⟨[0,24,25],[],[],[]⟩ .lf .lf))))) .lf)))
theorem bA8(N:Nat):aK E [] N Tryz.f135 bA7 BE BF=q14 N:=by kernel_rfl
theorem bA9(N:Nat):aK E [] N Tryz.f83 .lf IC ID=q15 N:=by kernel_rfl
theorem bBA(N:Nat):aK E [⟨83,IC,ID,q15 N⟩] N Tryz.f195 .lf N3 N4=q16 N:=by kernel_rfl
theorem bBB(N:Nat):aK E [⟨83,IC,ID,q15 N⟩] N Tryz.f196 .lf N5 N6=q17 N:=by kernel_rfl
theorem bBC(N:Nat):aK E [⟨195,N3,N4,q16 N⟩,⟨196,N5,N6,q17 N⟩] N Tryz.f136 .lf N7 N8=q18 N:=by kernel_rfl
def bBD:Ann:=(.sq .lf (.jn ⟨[1],[2],[],[]⟩ .lf .lf))
theorem bBE(N:Nat):aK E [⟨134,qD,qE,q13 N⟩,⟨135,BE,BF,q14 N⟩,⟨136,N7,N8,q18 N⟩] N Tryz.f74 bBD N9 O1=q19 N:=by kernel_rfl
theorem bBF(N:Nat):aK E [] N Tryz.f197 .lf O2 O3=q20 N:=by kernel_rfl
theorem bBG(N:Nat):aK E [⟨135,BE,BF,q14 N⟩,⟨197,O2,O3,q20 N⟩] N Tryz.f137 .lf OX OY=q21 N:=by kernel_rfl
def bBH:Ann:=(.sq .lf (.sq .lf (.jn ⟨[],[],[],[]⟩ (.sq .lf (.lp ⟨[0,9,10],[],[.s 11],[.v (.int .i64) []]⟩ (.sq .lf (.sq .lf (.sq (.sq .lf (.sq .lf (.jn ⟨[0,3,4,9,10,11],[14],[],[]⟩ .lf .lf))) .lf))))) .lf)))
theorem bBI(N:Nat):aK E [⟨137,OX,OY,q21 N⟩] N Tryz.f75 bBH O4 O5=q22 N:=by kernel_rfl
theorem bBJ(N:Nat):aK E [] N Tryz.f198 .lf OZ PA=q23 N:=by kernel_rfl
def bBK:Ann:=(.sq .lf (.sq .lf (.jn ⟨[4],[2],[],[]⟩ (.sq .lf (.lp ⟨[1,4,11,12],[2],[.s 13],[.v (.int .i64) []]⟩ .lf)) .lf)))
theorem bBL(N:Nat):aK E [⟨198,OZ,PA,q23 N⟩] N Tryz.f138 bBK O6 O7=q24 N:=by kernel_rfl
theorem bBM(N:Nat):aK E [] N Tryz.f139 .lf O8 O9=q25 N:=by kernel_rfl
theorem bBN(N:Nat):aK E [] N Tryz.f85 .lf PB PC=q26 N:=by kernel_rfl
theorem bBO(N:Nat):aK E [⟨85,PB,PC,q26 N⟩] N Tryz.f38 .lf PD PE=q27 N:=by kernel_rfl
theorem bBP(N:Nat):aK E [] N Tryz.f244 .lf P0 P1=q28 N:=by kernel_rfl
theorem bBQ(N:Nat):aK E [] N Tryz.f245 .lf P2 P3=q29 N:=by kernel_rfl
def bBR:Ann:=(.sq .lf (.sq .lf (.jn ⟨[],[],[],[]⟩ (.sq .lf (.lp ⟨[1,10,11],[2],[.s 12],[.v (.int .i64) []]⟩ .lf)) .lf)))
theorem bBS(N:Nat):aK E [⟨134,qD,qE,q13 N⟩,⟨244,P0,P1,q28 N⟩,⟨245,P2,P3,q29 N⟩] N Tryz.f199 bBR P4 P5=q30 N:=by kernel_rfl
theorem bBT(N:Nat):aK E [⟨146,cO,cP,bQ N⟩] N Tryz.f79 .lf IE IF=q31 N:=by kernel_rfl
def bBU:Ann:=(.sq .lf (.sq .lf (.jn ⟨[3],[],[.o 5],[.b 131 Y11 [1]]⟩ (.sq .lf (.lp ⟨[3,7,8],[],[.s 9,.o 5],[.v (.int .i64) [],.b 131 Y11 [1]]⟩ .lf)) .lf)))
theorem bBV(N:Nat):aK E [⟨79,IE,IF,q31 N⟩] N Tryz.f200 bBU P6 P7=q32 N:=by kernel_rfl
def bBW:Ann:=(.sq .lf (.jn ⟨[],[],[.s 2],[.v (.int .i64) []]⟩ (.sq .lf (.lp ⟨[4],[],[.s 2,.o 4],[.v (.int .i64) [],.i]⟩ .lf)) .lf))
theorem bBX(N:Nat):aK E [] N Tryz.f226 bBW PF PG=q33 N:=by kernel_rfl
theorem bBY(N:Nat):aK E [⟨134,qD,qE,q13 N⟩,⟨226,PF,PG,q33 N⟩] N Tryz.f246 .lf P8 P9=q34 N:=by kernel_rfl
def bBZ:Ann:=(.sq .lf (.sq .lf (.jn ⟨[],[],[.s 3],[.v (.int .i64) []]⟩ (.sq .lf (.lp ⟨[8,9],[],[.s 3,.s 10],[.v (.int .i64) [],.v (.int .i64) []]⟩ .lf)) .lf)))
theorem bB0(N:Nat):aK E [⟨246,P8,P9,q34 N⟩] N Tryz.f202 bBZ PH PI=q35 N:=by kernel_rfl
theorem bB1(N:Nat):aK E [⟨199,P4,P5,q30 N⟩,⟨200,P6,P7,q32 N⟩,⟨201,eE,eF,strings_Contains N⟩,⟨202,PH,PI,q35 N⟩] N Tryz.f140 .lf Q0 Q1=q36 N:=by kernel_rfl
def bB2:Ann:=(.sq .lf (.sq .lf (.jn ⟨[],[],[.s 3],[.v (.slice (.int .i64)) [0]]⟩ (.sq .lf (.lp ⟨[7,8],[],[.s 3,.s 9],[.v (.slice (.int .i64)) [0],.v (.int .i64) []]⟩ .lf)) .lf)))
theorem bB3(N:Nat):aK E [⟨202,PH,PI,q35 N⟩] N Tryz.f142 bB2 PJ PL=q37 N:=by kernel_rfl
theorem bB4(N:Nat):aK E [⟨198,OZ,PA,q23 N⟩,⟨137,OX,OY,q21 N⟩] N Tryz.f203 .lf Q2 Q3=q38 N:=by kernel_rfl
def bB5:Ann:=(.sq .lf (.sq .lf (.sq .lf (.jn ⟨[1,2],[2],[.s 6],[.v (.int .i64) []]⟩ .lf (.sq .lf (.jn ⟨[],[],[.s 7],[.v (.slice Y6) [0]]⟩ (.sq .lf (.lp ⟨[2,6,32,33],[2],[.s 7,.s 34],[.v (.slice Y6) [0],.v (.int .i64) []]⟩ .lf)) .lf))))))
theorem bB6(N:Nat):aK E [⟨203,Q2,Q3,q38 N⟩] N Tryz.f141 bB5 Q4 Q5=q39 N:=by kernel_rfl
def bB7:Ann:=(.sq .lf (.sq .lf (.sq (.sq .lf (.sq .lf (.sq .lf (.sq .lf (.sq .lf (.sq .lf (.jn ⟨[2,5],[12,2],[.s 42],[.v (.bool) []]⟩ .lf .lf))))))) (.jn ⟨[2,5],[12,2],[],[]⟩ (.sq .lf (.lp ⟨[2,5,64,65],[12,2],[.s 66],[.v (.int .i64) []]⟩ .lf)) .lf))))
theorem bB8(N:Nat):aK E [⟨138,O6,O7,q24 N⟩,⟨139,O8,O9,q25 N⟩,⟨38,PD,PE,q27 N⟩,⟨135,BE,BF,q14 N⟩,⟨140,Q0,Q1,q36 N⟩,⟨142,PJ,PL,q37 N⟩,⟨141,Q4,Q5,q39 N⟩] N Tryz.f76 bB7 Q6 Q7=q40 N:=by kernel_rfl
theorem bB9(N:Nat):aK E [] N Tryz.f204 .lf Q8 Q9=q41 N:=by kernel_rfl
theorem bCA(N:Nat):aK E [⟨204,Q8,Q9,q41 N⟩] N Tryz.f144 .lf R0 R1=q42 N:=by kernel_rfl
def bCB:Ann:=(.sq .lf (.sq .lf (.jn ⟨[3],[],[],[]⟩ (.sq .lf (.lp ⟨[3,6,7],[],[.s 8],[.v (.int .i64) []]⟩ .lf)) .lf)))
theorem bCC(N:Nat):aK E [] N Tryz.f143 bCB R2 R3=q43 N:=by kernel_rfl
theorem bCD(N:Nat):aK E [⟨144,R0,R1,q42 N⟩,⟨143,R2,R3,q43 N⟩] N Tryz.f77 .lf R4 R5=q44 N:=by kernel_rfl
def bCE:Ann:=(.sq .lf (.sq .lf (.jn ⟨[],[],[.s 3],[.v (.int .i64) []]⟩ (.sq .lf (.lp ⟨[12,13],[12],[.s 3,.s 14],[.v (.int .i64) [],.v (.int .i64) []]⟩ .lf)) .lf)))
theorem bCF(N:Nat):aK E [⟨142,PJ,PL,q37 N⟩] N Tryz.f205 bCE R6 R7=q45 N:=by kernel_rfl
theorem bCG(N:Nat):aK E [⟨205,R6,R7,q45 N⟩] N Tryz.f145 .lf R8 R9=q46 N:=by kernel_rfl
def bCH:Ann:=(.sq .lf (.sq .lf (.jn ⟨[],[],[.o 1],[.m (.int .i64) (.int .i64)]⟩ (.sq .lf (.lp ⟨[1,2,15,16],[3],[.s 17,.o 1],[.v (.int .i64) [],.m (.int .i64) (.int .i64)]⟩ (.sq .lf (.sq .lf (.sq (.sq .lf (.sq .lf (.jn ⟨[1,2,6,15,16,17],[1,19,3],[],[]⟩ .lf .lf))) .lf))))) .lf)))
theorem bCI(N:Nat):aK E [⟨145,R8,R9,q46 N⟩,⟨135,BE,BF,q14 N⟩,⟨134,qD,qE,q13 N⟩] N Tryz.f78 bCH S1 S2=q47 N:=by kernel_rfl
def bCJ:Ann:=(.sq .lf (.sq .lf (.sq .lf (.sq .lf (.sq .lf (.jn ⟨[1,5],[2],[.o 20],[.m (.int .i64) (.int .i64)]⟩ (.sq .lf (.lp ⟨[1,5,28,29],[2],[.s 30,.o 20],[.v (.int .i64) [],.m (.int .i64) (.int .i64)]⟩ .lf)) .lf))))))
theorem bCK(N:Nat):aK E [⟨74,N9,O1,q19 N⟩,⟨75,O4,O5,q22 N⟩,⟨76,Q6,Q7,q40 N⟩,⟨77,R4,R5,q44 N⟩,⟨78,S1,S2,q47 N⟩] N Tryz.f30 bCJ PM PN=q48 N:=by kernel_rfl
theorem bCL(N:Nat):aK E [⟨83,IC,ID,q15 N⟩] N Tryz.f34 .lf PO PP=q49 N:=by kernel_rfl
theorem bCM(N:Nat):aK E [] N Tryz.f35 .lf S3 S4=q50 N:=by kernel_rfl
theorem bCN(N:Nat):aK E [⟨148,fS,fT,eW N⟩] N Tryz.f84 .lf S5 S6=q51 N:=by kernel_rfl
theorem bCO(N:Nat):aK E [⟨84,S5,S6,q51 N⟩] N Tryz.f37 .lf PQ PR=q52 N:=by kernel_rfl
theorem bCP(N:Nat):aK E [⟨37,PQ,PR,q52 N⟩] N Tryz.f36 .lf S7 S8=q53 N:=by kernel_rfl
def bCQ:Ann:=(.sq .lf (.jn ⟨[0,8],[2,1],[.o 7],[.b 47 Y2 [2]]⟩ (.sq .lf (.lp ⟨[0,8,14,15],[2,1],[.s 16,.o 7],[.v (.int .i64) [],.b 47 Y2 [2]]⟩ .lf)) .lf))
theorem bCR(N:Nat):aK E [] N Tryz.f33 bCQ S9 T0=q54 N:=by kernel_rfl
def bCS:Ann:=(.sq .lf (.sq .lf (.sq .lf (.sq .lf (.jn ⟨[1,5],[2],[.o 11],[.b 77 (.slice Y2) [0]]⟩ (.sq .lf (.lp ⟨[1,5,40,41],[2],[.s 42,.o 11],[.v (.int .i64) [],.b 77 (.slice Y2) [0]]⟩ (.sq .lf (.sq .lf (.sq (.sq .lf (.sq .lf (.jn ⟨[1,5,7,40,41,42],[42,11,37,2],[.s 8],[.v (.str) []]⟩ .lf .lf))) .lf))))) (.jn ⟨[5],[],[.o 11],[.b 77 (.slice Y2) [0]]⟩ (.sq .lf (.lp ⟨[5,75,76],[],[.s 77,.o 11],[.v (.int .i64) [],.b 77 (.slice Y2) [0]]⟩ (.sq .lf (.sq .lf (.jn ⟨[5,75,76,77],[],[.o 11],[.b 77 (.slice Y2) [0]]⟩ (.sq .lf (.sq .lf (.sq .lf (.lp ⟨[5,75,76,77,109,110],[],[.s 111,.o 11],[.v (.int .i64) [],.b 77 (.slice Y2) [0]]⟩ (.sq .lf (.sq .lf (.jn ⟨[5,75,76,77,109,110,111],[],[.o 11],[.b 77 (.slice Y2) [0]]⟩ (.sq .lf (.sq .lf (.sq .lf (.lp ⟨[5,75,76,77,109,110,111,117,118],[],[.s 119,.o 11],[.v (.int .i64) [],.b 77 (.slice Y2) [0]]⟩ (.sq .lf (.sq .lf (.sq (.sq .lf (.sq .lf (.jn ⟨[5,14,75,76,77,109,110,111,117,118,119],[99,11,94],[.s 15],[.v (.str) []]⟩ .lf .lf))) .lf))))))) .lf))))))) .lf))))) .lf))))))
theorem bCT(N:Nat):aK E [⟨30,PM,PN,q48 N⟩,⟨34,PO,PP,q49 N⟩,⟨35,S3,S4,q50 N⟩,⟨36,S7,S8,q53 N⟩,⟨33,S9,T0,q54 N⟩,⟨37,PQ,PR,q52 N⟩,⟨38,PD,PE,q27 N⟩] N Tryz.f12 bCS T7 T8=q55 N:=by kernel_rfl
def bCU:Ann:=(.sq .lf (.sq .lf (.sq .lf (.sq .lf (.jn ⟨[5],[],[.s 6],[.v (.int .i64) []]⟩ .lf .lf)))))
theorem bCV(N:Nat):aK E [] N Tryz.f101 bCU T9 U0=q56 N:=by kernel_rfl
theorem bCW(N:Nat):aK E [] N Tryz.f220 .lf IG IH=q57 N:=by kernel_rfl
theorem bCX(N:Nat):aK E [⟨220,IG,IH,q57 N⟩] N Tryz.f221 .lf PS PT=q58 N:=by kernel_rfl
def aBE:Ann:=(.sq .lf (.sq .lf (.jn ⟨[],[],[],[]⟩ (.sq .lf (.lp ⟨[0,19],[],[.s 20],[.v (.int .i64) []]⟩ .lf)) .lf)))
theorem aBF(N:Nat):aK E [⟨220,IG,IH,q57 N⟩,⟨221,PS,PT,q58 N⟩] N Tryz.f166 aBE lC lD=dW N:=by kernel_rfl
def bCY:Ann:=(.sq .lf (.sq .lf (.sq .lf (.jn ⟨[],[],[],[]⟩ (.sq .lf (.lp ⟨[3,22,23],[],[.s 24,.o 19],[.v (.int .i64) [],.m (.str) (.bool)]⟩ .lf)) .lf))))
theorem bCZ(N:Nat):aK E [⟨166,lC,lD,dW N⟩,⟨134,qD,qE,q13 N⟩] N Tryz.f102 bCY U1 U2=q59 N:=by kernel_rfl
def bC0:Ann:=(.sq .lf (.sq .lf (.sq (.jn ⟨[5],[7],[.s 10],[.v (.bool) []]⟩ .lf .lf) .lf)))
theorem bC1(N:Nat):aK E [⟨134,qD,qE,q13 N⟩] N Tryz.f103 bC0 U3 U4=q60 N:=by kernel_rfl
def bC2:Ann:=(.sq .lf (.sq .lf (.sq .lf (.jn ⟨[],[],[],[]⟩ (.sq .lf (.lp ⟨[0,13,14],[],[.s 15],[.v (.int .i64) []]⟩ .lf)) .lf))))
theorem bC3(N:Nat):aK E [⟨101,T9,U0,q56 N⟩,⟨102,U1,U2,q59 N⟩,⟨103,U3,U4,q60 N⟩] N Tryz.f60 bC2 PU PV=q61 N:=by kernel_rfl
theorem bC4(N:Nat):aK E [⟨207,iQ,iR,strings_Replace N⟩] N Tryz.f147 .lf U5 U6=q62 N:=by kernel_rfl
def bC5:Ann:=(.sq .lf (.jn ⟨[],[],[.s 0],[.v (.str) []]⟩ (.sq .lf (.lp ⟨[5],[],[.s 0,.s 6],[.v (.str) [],.v (.int .i64) []]⟩ .lf)) .lf))
theorem bC6(N:Nat):aK E [⟨147,U5,U6,q62 N⟩] N Tryz.f80 bC5 U7 U8=q63 N:=by kernel_rfl
theorem bC7(N:Nat):aK E [] N Tryz.f81 .lf U9 V1=q64 N:=by kernel_rfl
def bC8:Ann:=(.sq .lf (.sq .lf (.sq .lf (.sq .lf (.jn ⟨[5],[],[.s 6,.o 9],[.v (.slice (.str)) [0],.b 131 Y11 [1]]⟩ (.sq .lf (.lp ⟨[0,5,17,18],[],[.s 6,.s 19,.o 9],[.v (.slice (.str)) [0],.v (.int .i64) [],.b 131 Y11 [1]]⟩ (.sq .lf (.sq .lf (.jn ⟨[0,5,17,18,19],[],[.s 6,.o 9],[.v (.slice (.str)) [0],.b 131 Y11 [1]]⟩ (.sq .lf (.jn ⟨[0,5,7,8,17,18,19],[22],[.s 6,.o 9],[.v (.slice (.str)) [0],.b 131 Y11 [1]]⟩ (.lp ⟨[0,5,7,8,17,18,19],[22],[.s 6,.o 9],[.v (.slice (.str)) [0],.b 131 Y11 [1]]⟩ .lf) (.sq .lf (.sq .lf (.jn ⟨[0,5,6,7,8,17,18,19],[22,26],[.o 9],[.b 131 Y11 [1]]⟩ (.sq .lf (.lp ⟨[0,5,6,7,8,17,18,19,55,56],[22,26],[.s 57,.o 9],[.v (.int .i64) [],.b 131 Y11 [1]]⟩ .lf)) .lf))))) .lf))))) (.jn ⟨[5],[],[.o 9],[.b 131 Y11 [1]]⟩ (.sq .lf (.lp ⟨[5,6],[12],[.s 11,.o 9],[.v (.int .i64) [],.b 131 Y11 [1]]⟩ .lf)) .lf))))))
theorem bC9(N:Nat):aK E [⟨60,PU,PV,q61 N⟩,⟨79,IE,IF,q31 N⟩,⟨80,U7,U8,q63 N⟩,⟨81,U9,V1,q64 N⟩] N Tryz.f31 bC8 V2 V3=q65 N:=by kernel_rfl
theorem bDA(N:Nat):aK E [⟨12,T7,T8,q55 N⟩,⟨31,V2,V3,q65 N⟩] N Tryz.f14 .lf V4 V5=q66 N:=by kernel_rfl
theorem C8(N:Nat):aK E [⟨14,V4,V5,q66 N⟩] N Tryz.f10 .lf qF qG=pH N:=by kernel_rfl
theorem C9(N:Nat):aK E [] N Tryz.f26 .lf qH qI=mU N:=by kernel_rfl
def bDB:Ann:=(.sq .lf (.sq .lf (.sq .lf (.sq .lf (.lp ⟨[1],[],[.s 0,.s 5],[.v (.str) [],.v (.int .i64) []]⟩ .lf)))))
theorem bDC(N:Nat):aK E [⟨226,PF,PG,q33 N⟩,⟨227,eX,eY,eG N⟩,⟨180,gX,gY,strings_Index N⟩] N Tryz.f176 bDB V6 V7=q67 N:=by kernel_rfl
def bDD:Ann:=(.sq .lf (.jn ⟨[],[],[],[]⟩ (.sq .lf (.lp ⟨[0,1],[],[.s 5],[.v (.int .i64) []]⟩ .lf)) .lf))
theorem bDE(N:Nat):aK E [] N Tryz.f228 bDD V8 V9=q68 N:=by kernel_rfl
def bDF:Ann:=(.sq .lf (.sq .lf (.jn ⟨[0],[],[.s 4],[.v (.int .u32) []]⟩ (.sq .lf (.lp ⟨[0],[],[.s 4,.s 5],[.v (.int .u32) [],.v (.int .i64) []]⟩ .lf)) (.sq .lf (.jn ⟨[4],[],[.s 6],[.v (.int .u32) []]⟩ (.sq .lf (.lp ⟨[4],[],[.s 6,.s 7,.s 8],[.v (.int .u32) [],.v (.int .u32) [],.v (.int .i64) []]⟩ .lf)) .lf)))))
theorem bDG(N:Nat):aK E [] N Tryz.f260 bDF W0 X0=q69 N:=by kernel_rfl
def bDH:Ann:=(.sq .lf (.sq .lf (.sq .lf (.sq .lf (.sq .lf (.jn ⟨[0,1,5,6,7,8],[],[.s 9],[.v (.int .u32) []]⟩ (.sq .lf (.lp ⟨[0,1,5,6,7,8],[],[.s 9,.s 10],[.v (.int .u32) [],.v (.int .i64) []]⟩ .lf)) (.jn ⟨[0,1,5,6,7,8,9],[],[],[]⟩ .lf (.jn ⟨[],[],[],[]⟩ (.sq .lf (.lp ⟨[0,1,5,6,7],[],[.s 9,.s 11],[.v (.int .u32) [],.v (.int .i64) []]⟩ .lf)) .lf))))))))
theorem bDI(N:Nat):aK E [⟨260,W0,X0,q69 N⟩] N Tryz.f229 bDH X1 X2=q70 N:=by kernel_rfl
theorem bDJ(N:Nat):aK E [⟨228,V8,V9,q68 N⟩,⟨229,X1,X2,q70 N⟩] N Tryz.f177 .lf X3 X4=q71 N:=by kernel_rfl
theorem aMB(N:Nat):aK E [⟨176,V6,V7,q67 N⟩,⟨177,X3,X4,q71 N⟩] N Tryz.f128 .lf BG BH=lR N:=by kernel_rfl
theorem bDK(N:Nat):aK E [⟨261,dM,dN,dF N⟩] N Tryz.f230 .lf X5 X6=q72 N:=by kernel_rfl
theorem bDL(N:Nat):aK E [⟨230,X5,X6,q72 N⟩] N Tryz.f178 .lf X7 X8=q73 N:=by kernel_rfl
theorem bDM(N:Nat):aK E [] N Tryz.f231 .lf PW PX=q74 N:=by kernel_rfl
theorem bDN(N:Nat):aK E [⟨231,PW,PX,q74 N⟩] N Tryz.f179 .lf PY PZ=q75 N:=by kernel_rfl
def aBG:Ann:=(.sq .lf (.sq .lf (.sq .lf (.jn ⟨[0,1],[],[.s 6],[.v (.int .i64) []]⟩ (.lp ⟨[0,1],[],[.s 6],[.v (.int .i64) []]⟩ .lf) .lf))))
theorem aBH(N:Nat):aK E [⟨220,IG,IH,q57 N⟩,⟨221,PS,PT,q58 N⟩] N Tryz.f181 aBG lE lF=eL N:=by kernel_rfl
theorem bDO(N:Nat):aK E [] N Tryz.f233 .lf X9 Y0=q76 N:=by kernel_rfl
def bDP:Ann:=(.sq .lf (.jn ⟨[],[],[.s 1],[.v (.int .i64) []]⟩ (.lp ⟨[0],[],[.s 1],[.v (.int .i64) []]⟩ .lf) .lf))
theorem bDQ(N:Nat):aK E [⟨233,X9,Y0,q76 N⟩] N Tryz.f182 bDP II IJ=q77 N:=by kernel_rfl
def bDR:Ann:=(.sq .lf (.sq .lf (.sq .lf (.sq .lf (.sq .lf (.sq .lf (.jn ⟨[0,1,4,7],[2],[],[]⟩ .lf (.sq .lf (.jn ⟨[0,1,4,7],[2],[.s 8],[.v (.int .i64) []]⟩ (.lp ⟨[0,1,4,7],[2],[.s 8],[.v (.int .i64) []]⟩ .lf) .lf)))))))))
theorem bDS(N:Nat):aK E [⟨181,lE,lF,eL N⟩,⟨182,II,IJ,q77 N⟩] N Tryz.f234 bDR Z0 Z1=q78 N:=by kernel_rfl
def bDT:Ann:=(.sq .lf (.sq .lf (.sq .lf (.sq .lf (.lp ⟨[0,2,7],[2],[.s 6,.o 17],[.v (.int .i64) [],.b 176 Y10 [2]]⟩ (.sq .lf (.sq (.jn ⟨[0,2,6,7,8],[17,20,2],[.s 25],[.v (.bool) []]⟩ .lf (.sq .lf (.jn ⟨[0,2,6,7,8],[17,20,2],[.s 39],[.v (.bool) []]⟩ .lf .lf))) .lf)))))))
theorem bDU(N:Nat):aK E [⟨181,lE,lF,eL N⟩,⟨182,II,IJ,q77 N⟩,⟨234,Z0,Z1,q78 N⟩] N Tryz.f183 bDT Z2 Z3=q79 N:=by kernel_rfl
def aBI:Ann:=(.sq .lf (.sq .lf (.jn ⟨[0,2],[2],[],[]⟩ (.sq .lf (.lp ⟨[0,2,27],[2],[.s 28],[.v (.int .i64) []]⟩ .lf)) .lf)))
theorem aBJ(N:Nat):aK E [⟨178,X7,X8,q73 N⟩,⟨179,PY,PZ,q75 N⟩,⟨180,gX,gY,strings_Index N⟩,⟨181,lE,lF,eL N⟩,⟨182,II,IJ,q77 N⟩,⟨183,Z2,Z3,q79 N⟩] N Tryz.f129 aBI sI sJ=eM N:=by kernel_rfl
def bDV:Ann:=(.sq .lf (.sq .lf (.jn ⟨[1],[],[.s 5],[.v (.int .i64) []]⟩ (.jn ⟨[0,1,5],[],[.s 6],[.v (.bool) []]⟩ .lf (.sq .lf (.jn ⟨[0,1,5],[],[.s 16],[.v (.bool) []]⟩ .lf .lf))) .lf)))
theorem bDW(N:Nat):aK E [] N Tryz.f301 bDV Z4 Z5=q80 N:=by kernel_rfl
def bDX:Ann:=(.sq .lf (.jn ⟨[0],[],[],[]⟩ (.sq .lf (.lp ⟨[0,12],[],[.s 13],[.v (.int .i64) []]⟩ .lf)) (.sq .lf (.jn ⟨[0],[],[.s 7,.s 8,.s 9],[.v (.int .i64) [],.v (.int .i64) [],.v (.int .i64) []]⟩ .lf (.sq .lf (.jn ⟨[0,7,9],[],[.s 10,.s 11],[.v (.int .i64) [],.v (.int .i64) []]⟩ (.lp ⟨[0,7,8,9],[],[.s 10,.s 11],[.v (.int .i64) [],.v (.int .i64) []]⟩ .lf) .lf))))))
theorem bDY(N:Nat):aK E [⟨179,PY,PZ,q75 N⟩,⟨301,Z4,Z5,q80 N⟩,⟨194,OV,OW,q12 N⟩] N Tryz.f288 bDX Z6 Z7=q81 N:=by kernel_rfl
theorem bDZ(N:Nat):aK E [⟨146,cO,cP,bQ N⟩] N Tryz.f289 .lf Z8 Z9=q82 N:=by kernel_rfl
def bD0:Ann:=(.sq .lf (.sq .lf (.jn ⟨[4],[],[.o 4],[.b 131 Y11 [1]]⟩ (.sq .lf (.lp ⟨[0,4],[],[.s 5,.o 4],[.v (.int .i64) [],.b 131 Y11 [1]]⟩ .lf)) .lf)))
theorem bD1(N:Nat):aK E [⟨288,Z6,Z7,q81 N⟩,⟨79,IE,IF,q31 N⟩,⟨289,Z8,Z9,q82 N⟩] N Tryz.f272 bD0 aAA aAB=q83 N:=by kernel_rfl
theorem bD2(N:Nat):aK E [⟨273,sK,sL,sM N⟩,⟨272,aAA,aAB,q83 N⟩,⟨134,qD,qE,q13 N⟩] N Tryz.f236 .lf QA QB=q84 N:=by kernel_rfl
def bD3:Ann:=(.sq .lf (.sq (.jn ⟨[0,1],[3,1,2],[.s 5],[.v (.bool) []]⟩ .lf .lf) .lf))
theorem bD4(N:Nat):aK E [] N Tryz.f237 bD3 QC QD=q85 N:=by kernel_rfl
def bD5:Ann:=(.sq .lf (.jn ⟨[0,1],[3,1,2],[],[]⟩ .lf .lf))
theorem bD6(N:Nat):aK E [⟨235,lS,lT,gZ N⟩,⟨201,eE,eF,strings_Contains N⟩,⟨236,QA,QB,q84 N⟩,⟨237,QC,QD,q85 N⟩] N Tryz.f184 bD5 aAC aAD=q86 N:=by kernel_rfl
end
end Go.Mo
end
